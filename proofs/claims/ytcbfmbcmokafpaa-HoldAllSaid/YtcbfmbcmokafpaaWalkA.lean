import Derived.Test.YtcbfmbcmokafpaaTypes
import Derived.Test.YtcbfmbcmokafpaaLib
namespace Go.Proofs.Ytcbfmbcmokafpaa.B
open Go.Proofs Go.RowKit
set_option linter.unusedVariables false
set_option linter.unusedSimpArgs false
theorem mE_keys {m : List (Int × Int)} : (mE iE m).map (·.1) = m.map (·.1) := by unfold mE; rw [List.map_map]; rfl
theorem getD_of {xs : List Int} {i : Nat} {u : Int} (h : xs[i]? = some u) : xs.getD i 0 = u := by rw [List.getD_eq_getElem?_getD, h]; rfl
set_option maxRecDepth 100000 in
set_option maxHeartbeats 4000000 in
theorem h_new {w : World} {R : Kn} {L : List HP}  (hS : St w R (L)) {n mo : Int} :
    Fn Try.prog 9 #[.int .i64 n, .int .i64 mo] w (fun v w' => (¬ (0 ≤ n ∧ n ≤ 1099511627776 ∧ 1 ≤ mo ∧ mo ≤ 256) ∧ v = .tuple #[.pointer none, .int .i64 11] ∧ St w' R L) ∨ ((0 ≤ n ∧ n ≤ 1099511627776 ∧ 1 ≤ mo ∧ mo ≤ 256) ∧ ∃ bh bm, v = .tuple #[.pointer (some ⟨bh, 0, none⟩), .int .i64 0] ∧ St w' R (blk bh (.cells (#[.int .i64 n, .int .i64 mo, .map (some bm)]) 51 (0, 0)) :: Mp Try.prog 2 bm (mE iE []) :: L))) := by
  refine Fn.intro (n := 25) Try.func9 rfl rfl rfl ?_
  refine WR.seq ?_
  refine WR.region rfl ?_
  refine S.assignC rfl ?_
  refine S.assignC rfl ?_
  refine WS.done ?_
  refine WR.seq ?_
  refine WR.seq ?_
  refine WR.region rfl ?_
  refine S.moveT rfl ?_
  refine S.lss rfl rfl rfl ?_
  refine S.moveT rfl ?_
  refine S.splitD (d := 8) rfl (fun c8 => ?_) (fun c8 => ?_)
  ·
    skip
    refine S.off rfl ?_
    refine S.off rfl ?_
    refine S.pickTC rfl rfl ?_
    refine S.moveT rfl ?_
    refine S.off rfl ?_
    refine S.off rfl ?_
    refine S.pickTC rfl rfl ?_
    refine S.moveT rfl ?_
    refine S.off rfl ?_
    refine S.off rfl ?_
    refine S.pickTC rfl rfl ?_
    refine WS.done ?_
    refine WR.condT rfl ?_
    refine WR.seq ?_
    refine WR.region rfl ?_
    refine S.assignC rfl ?_
    refine S.assignC rfl ?_
    refine WS.done ?_
    refine WR.ret (ret2 rfl rfl rfl ?_)
    exact .inl ⟨by omega, rfl, hS⟩
  ·
    skip
    refine S.moveT rfl ?_
    refine S.gtr rfl rfl rfl ?_
    refine S.pickF rfl rfl ?_
    refine S.moveT rfl ?_
    refine S.splitD (d := 12) rfl (fun c12 => ?_) (fun c12 => ?_)
    ·
      skip
      refine S.off rfl ?_
      refine S.off rfl ?_
      refine S.pickTC rfl rfl ?_
      refine S.moveT rfl ?_
      refine S.off rfl ?_
      refine S.off rfl ?_
      refine S.pickTC rfl rfl ?_
      refine WS.done ?_
      refine WR.condT rfl ?_
      refine WR.seq ?_
      refine WR.region rfl ?_
      refine S.assignC rfl ?_
      refine S.assignC rfl ?_
      refine WS.done ?_
      refine WR.ret (ret2 rfl rfl rfl ?_)
      exact .inl ⟨by omega, rfl, hS⟩
    ·
      skip
      refine S.moveT rfl ?_
      refine S.lss rfl rfl rfl ?_
      refine S.pickF rfl rfl ?_
      refine S.moveT rfl ?_
      refine S.splitD (d := 16) rfl (fun c16 => ?_) (fun c16 => ?_)
      ·
        skip
        refine S.off rfl ?_
        refine S.off rfl ?_
        refine S.pickTC rfl rfl ?_
        refine WS.done ?_
        refine WR.condT rfl ?_
        refine WR.seq ?_
        refine WR.region rfl ?_
        refine S.assignC rfl ?_
        refine S.assignC rfl ?_
        refine WS.done ?_
        refine WR.ret (ret2 rfl rfl rfl ?_)
        exact .inl ⟨by omega, rfl, hS⟩
      ·
        skip
        refine S.moveT rfl ?_
        refine S.gtr rfl rfl rfl ?_
        refine S.pickF rfl rfl ?_
        refine WS.done ?_
        refine WR.condD rfl (fun c19 => ?_) (fun c19 => ?_)
        ·
          skip
          refine WR.seq ?_
          refine WR.region rfl ?_
          refine S.assignC rfl ?_
          refine S.assignC rfl ?_
          refine WS.done ?_
          refine WR.ret (ret2 rfl rfl rfl ?_)
          exact .inl ⟨by omega, rfl, hS⟩
        ·
          skip
          refine WR.skip ?_
          refine WR.seq ?_
          refine WR.region rfl ?_
          refine S.moveT rfl ?_
          refine S.moveT rfl ?_
          refine S.makeMap hS Try.underlying49 rfl ?_
          intro b22 w22 hS22; clear hS
          refine S.buildStruct [.int _ _, .int _ _, .map _] [(0, 1), (1, 1), (2, 1)] Try.underlying51 ti51 rfl (by kernel_rfl) rfl rfl rfl rfl rfl rfl ?_
          refine S.box hS22 rfl rfl rfl ?_
          intro b24 w24 hS24; clear hS22
          refine S.assignT rfl ?_
          refine S.assignC rfl ?_
          refine WS.done ?_
          refine WR.ret (ret2 rfl rfl rfl ?_)
          exact .inr ⟨by omega, _, _, rfl, hS24⟩

set_option maxRecDepth 100000 in
set_option maxHeartbeats 4000000 in
theorem r_new {w : World} {R : Kn} {L : List HP}  (hS : St w R (L)) {n mo : Int} :
    Fn Try.prog 10 #[.int .i64 n, .int .i64 mo] w (fun v w' => (¬ (0 ≤ n ∧ n ≤ 1099511627776 ∧ 1 ≤ mo ∧ mo ≤ 256) ∧ v = .tuple #[.pointer none, .int .i64 11] ∧ St w' R L) ∨ ((0 ≤ n ∧ n ≤ 1099511627776 ∧ 1 ≤ mo ∧ mo ≤ 256) ∧ ∃ bh, v = .tuple #[.pointer (some ⟨bh, 0, none⟩), .int .i64 0] ∧ St w' R (blk bh (.cells (#[.int .i64 n, .int .i64 mo, .slice none 0 0]) 44 (0, 0)) :: L))) := by
  refine Fn.intro (n := 24) Try.func10 rfl rfl rfl ?_
  refine WR.seq ?_
  refine WR.region rfl ?_
  refine S.assignC rfl ?_
  refine S.assignC rfl ?_
  refine WS.done ?_
  refine WR.seq ?_
  refine WR.seq ?_
  refine WR.region rfl ?_
  refine S.moveT rfl ?_
  refine S.lss rfl rfl rfl ?_
  refine S.moveT rfl ?_
  refine S.splitD (d := 8) rfl (fun c8 => ?_) (fun c8 => ?_)
  ·
    skip
    refine S.off rfl ?_
    refine S.off rfl ?_
    refine S.pickTC rfl rfl ?_
    refine S.moveT rfl ?_
    refine S.off rfl ?_
    refine S.off rfl ?_
    refine S.pickTC rfl rfl ?_
    refine S.moveT rfl ?_
    refine S.off rfl ?_
    refine S.off rfl ?_
    refine S.pickTC rfl rfl ?_
    refine WS.done ?_
    refine WR.condT rfl ?_
    refine WR.seq ?_
    refine WR.region rfl ?_
    refine S.assignC rfl ?_
    refine S.assignC rfl ?_
    refine WS.done ?_
    refine WR.ret (ret2 rfl rfl rfl ?_)
    exact .inl ⟨by omega, rfl, hS⟩
  ·
    skip
    refine S.moveT rfl ?_
    refine S.gtr rfl rfl rfl ?_
    refine S.pickF rfl rfl ?_
    refine S.moveT rfl ?_
    refine S.splitD (d := 12) rfl (fun c12 => ?_) (fun c12 => ?_)
    ·
      skip
      refine S.off rfl ?_
      refine S.off rfl ?_
      refine S.pickTC rfl rfl ?_
      refine S.moveT rfl ?_
      refine S.off rfl ?_
      refine S.off rfl ?_
      refine S.pickTC rfl rfl ?_
      refine WS.done ?_
      refine WR.condT rfl ?_
      refine WR.seq ?_
      refine WR.region rfl ?_
      refine S.assignC rfl ?_
      refine S.assignC rfl ?_
      refine WS.done ?_
      refine WR.ret (ret2 rfl rfl rfl ?_)
      exact .inl ⟨by omega, rfl, hS⟩
    ·
      skip
      refine S.moveT rfl ?_
      refine S.lss rfl rfl rfl ?_
      refine S.pickF rfl rfl ?_
      refine S.moveT rfl ?_
      refine S.splitD (d := 16) rfl (fun c16 => ?_) (fun c16 => ?_)
      ·
        skip
        refine S.off rfl ?_
        refine S.off rfl ?_
        refine S.pickTC rfl rfl ?_
        refine WS.done ?_
        refine WR.condT rfl ?_
        refine WR.seq ?_
        refine WR.region rfl ?_
        refine S.assignC rfl ?_
        refine S.assignC rfl ?_
        refine WS.done ?_
        refine WR.ret (ret2 rfl rfl rfl ?_)
        exact .inl ⟨by omega, rfl, hS⟩
      ·
        skip
        refine S.moveT rfl ?_
        refine S.gtr rfl rfl rfl ?_
        refine S.pickF rfl rfl ?_
        refine WS.done ?_
        refine WR.condD rfl (fun c19 => ?_) (fun c19 => ?_)
        ·
          skip
          refine WR.seq ?_
          refine WR.region rfl ?_
          refine S.assignC rfl ?_
          refine S.assignC rfl ?_
          refine WS.done ?_
          refine WR.ret (ret2 rfl rfl rfl ?_)
          exact .inl ⟨by omega, rfl, hS⟩
        ·
          skip
          refine WR.skip ?_
          refine WR.seq ?_
          refine WR.region rfl ?_
          refine S.moveT rfl ?_
          refine S.moveT rfl ?_
          refine S.buildK (v := .agg #[.int .i64 n, .int .i64 mo, .slice none 0 0]) rfl (by kernel_rfl) rfl ?_
          refine S.box hS rfl rfl rfl ?_
          intro b23 w23 hS23; clear hS
          refine S.assignT rfl ?_
          refine S.assignC rfl ?_
          refine WS.done ?_
          refine WR.ret (ret2 rfl rfl rfl ?_)
          exact .inr ⟨by omega, _, rfl, hS23⟩

set_option maxRecDepth 100000 in
set_option maxHeartbeats 4000000 in
theorem h_next {w : World} {R : Kn} {L : List HP} {n mo : Int} {m : List (Int × Int)} {bh bm : Nat} (hS : St w R (blk bh (.cells (#[.int .i64 n, .int .i64 mo, .map (some bm)]) 51 (0, 0)) :: Mp Try.prog 2 bm (mE iE m) :: L))  :
    Fn Try.prog 17 #[.pointer (some ⟨bh, 0, none⟩)] w (fun v w' => v = .int .i64 n ∧ St w' R (blk bh (.cells (#[.int .i64 n, .int .i64 mo, .map (some bm)]) 51 (0, 0)) :: Mp Try.prog 2 bm (mE iE m) :: L)) := by
  refine Fn.intro (n := 7) Try.func17 rfl rfl rfl ?_
  refine WR.seq ?_
  refine WR.region rfl ?_
  refine S.assignC rfl ?_
  refine WS.done ?_
  refine WR.seq ?_
  refine WR.region rfl ?_
  refine S.moveT rfl ?_
  refine S.nilCheck rfl rfl ?_
  refine S.fieldB Try.underlying51 rfl ti2 rfl rfl rfl rfl ?_
  refine S.loadB (i := 0) hS rfl Try.underlying2 rfl rfl rfl rfl ?_
  refine S.assignT rfl ?_
  refine WS.done ?_
  refine WR.ret (ret1 rfl rfl ?_)
  exact ⟨rfl, hS⟩

set_option maxRecDepth 100000 in
set_option maxHeartbeats 4000000 in
theorem h_release {w : World} {R : Kn} {L : List HP} {n mo : Int} {m : List (Int × Int)} {bh bm : Nat} (hS : St w R (blk bh (.cells (#[.int .i64 n, .int .i64 mo, .map (some bm)]) 51 (0, 0)) :: Mp Try.prog 2 bm (mE iE m) :: L)) (hI : HI n mo m) :
    Fn Try.prog 21 #[.pointer (some ⟨bh, 0, none⟩)] w (fun v w' => St w' R (Ow 2 (encI .i64) 1 v (rel n m).1 :: blk bh (.cells (#[.int .i64 (rel n m).2.1, .int .i64 mo, .map (some bm)]) 51 (0, 0)) :: Mp Try.prog 2 bm (mE iE (rel n m).2.2) :: L)) := by
  refine Fn.intro (n := 40) Try.func21 rfl rfl rfl ?_
  refine WR.seq ?_
  refine WR.region rfl ?_
  refine S.assignC rfl ?_
  refine WS.done ?_
  refine WR.seq ?_
  refine WR.region rfl ?_
  refine S.assignC rfl ?_
  have hSo := hS.nilRow (α := Int) (enc := encI .i64) (n := 1) (e := 2)
  refine WS.done ?_
  refine WR.block ?_
  refine WR.loopE (fun rq mm rr wr => ∃ (out : List Int) (n1 : Int) (m1 : List (Int × Int)) (v3 : Value), mm = m1.length ∧ (HI n1 mo m1 ∧ (rel n m).1 = out ++ (rel n1 m1).1 ∧ (rel n m).2 = (rel n1 m1).2 ∧ out.length + m1.length ≤ 256) ∧ rr 3 = v3 ∧ Agr [0] rr rq ∧ St wr R (Ow 2 (encI .i64) 1 v3 out :: blk bh (.cells (#[.int .i64 n1, .int .i64 mo, .map (some bm)]) 51 (0, 0)) :: Mp Try.prog 2 bm (mE iE m1) :: L)) ⟨[], n, m, _, rfl, (by exact ⟨hI, rfl, rfl, by have := hI.len2; simpa using this⟩), rfl, ⟨rfl, trivial⟩, hSo⟩ ?_
  rintro mm rr w1001 ⟨out, n1, m1, v3, hm1001, ⟨hI1, hr1, hr2, hol⟩, hr1001_3, hA1001, hS1001⟩
  obtain ⟨rr, rfl⟩ := agrBack hA1001
  clear hA1001
  obtain ⟨rr, rfl⟩ := back1 (r := rr) hr1001_3
  clear hr1001_3
  have hn0 := hI1.n0
  have hn1 := hI1.n1
  have hlen := hI1.len2
  refine WR.block ?_
  refine WR.seq ?_
  refine WR.regionQ mixed hS1001 (by kernel_rfl) rfl ?_
  refine Q.moveT rfl ?_
  refine Q.nilCheck rfl rfl ?_
  refine Q.fieldB Try.underlying51 rfl ti49 rfl rfl rfl rfl ?_
  refine Q.loadB (i := 1) rfl Try.underlying49 rfl rfl rfl rfl ?_
  refine Q.moveT rfl ?_
  refine Q.nilCheck rfl rfl ?_
  refine Q.fieldB Try.underlying51 rfl ti2 rfl rfl rfl rfl ?_
  refine Q.loadB (i := 1) rfl Try.underlying2 rfl rfl rfl rfl ?_
  refine Q.lookOk (i := 2) rfl Try.underlying49 Try.underlying2 ti2 rfl rfl (by omega) rfl ?_
  refine Q.moveT rfl ?_
  refine Q.extract rfl rfl rfl ?_
  refine Q.extract rfl rfl rfl ?_
  refine Q.assignT rfl ?_
  refine Q.assignT rfl ?_
  refine WQ.done ?_
  intro w5001 hS5001
  clear hS1001
  refine WR.seq ?_
  refine WR.seq ?_
  refine WR.region rfl ?_
  refine S.moveT rfl ?_
  refine S.not rfl rfl ?_
  refine WS.done ?_
  refine WR.cond rfl (fun c19 => ?_) (fun c19 => ?_)
  ·
    skip
    refine WR.seq ?_
    refine WR.region rfl ?_
    refine S.moveT rfl ?_
    refine S.assignT rfl ?_
    refine WS.done ?_
    refine WR.ret (ret1 rfl rfl ?_)
    have hg : aget m1 n1 = none := by
      cases hq : aget m1 n1 with
      | none => rfl
      | some u => rw [hq] at c19; simp at c19
    rw [HI.none hg] at hr1 hr2
    rw [hr1, hr2, List.append_nil]
    exact hS5001
  ·
    skip
    obtain ⟨x, hx⟩ := Option.isSome_iff_exists.1 (show (aget m1 n1).isSome = true by simpa using c19)
    obtain ⟨r1, hm1, hdel⟩ := hI1.first hx
    have hlm : m1.length = r1.length + 1 := by rw [hm1]; rfl
    have hrel : rel n1 m1 = (x :: (rel (n1 + 1) r1).1, (rel (n1 + 1) r1).2) := by rw [hm1, rel_hit]
    refine WR.skip ?_
    refine WR.seq ?_
    refine WR.region rfl ?_
    refine S.moveT rfl ?_
    refine S.moveT rfl ?_
    first
      | refine S.buildRow (vs := [.int _ _]) hS5001 Try.underlying32 ti2 rfl rfl rfl rfl rfl rfl rfl ?_
      | refine S.buildRow hS5001 Try.underlying32 ti2 rfl rfl rfl rfl rfl rfl rfl ?_
    intro b23 w23 hS23; clear hS5001
    refine S.appendTmp (i := 0) [(aget m1 n1).getD 0] hS23 rfl rfl (fun _ _ => rfl) Try.underlying32 ti2 rfl rfl rfl rfl encI_one (by rw [List.length_singleton]; omega) rfl ?_
    intro v24 w24 hS24; clear hS23
    refine S.assignT rfl ?_
    refine WS.done ?_
    refine WR.seq ?_
    refine WR.regionW (fun j => Nat.beq j 8) 9 rfl mixed hS24 ?_
    intro w6002 hS6002; clear hS24; have hC := hS6002
    refine WA.takeP (fuel := 8) 0 rfl (by kernel_rfl) (by kernel_rfl) (by kernel_rfl) rfl rfl ?_
    refine Q.moveT rfl ?_
    refine WQ.done ?_
    refine WA.takeP (fuel := 7) 4 rfl (by kernel_rfl) (by kernel_rfl) (by kernel_rfl) rfl rfl ?_
    refine Q.moveT rfl ?_
    refine WQ.done ?_
    refine WA.two (fuel := 6) 1 5 rfl rfl (by kernel_rfl) rfl ?_ ?_
    ·
      skip
      refine S.nilCheck rfl rfl ?_
      refine WS.done ⟨fun _ => hS6002, ?_⟩
      replace hC := hS6002
      refine WA.two (fuel := 5) 2 5 rfl rfl (by kernel_rfl) rfl ?_ ?_
      ·
        skip
        refine S.fieldB Try.underlying51 rfl ti49 rfl rfl rfl rfl ?_
        refine WS.done ⟨fun _ => hS6002, ?_⟩
        replace hC := hS6002
        refine WA.take (fuel := 4) 3 rfl (by kernel_rfl) (by kernel_rfl) (by kernel_rfl) (by kernel_rfl) rfl rfl hC ?_
        refine Q.loadB (i := 1) rfl Try.underlying49 rfl rfl rfl rfl ?_
        refine WQ.done ?_
        refine WA.one (fuel := 3) 5 rfl (by kernel_rfl) rfl ?_
        refine S.nilCheck rfl rfl ?_
        refine WS.done ⟨fun _ => hS6002, ?_⟩
        replace hC := hS6002
        refine WA.one (fuel := 2) 6 rfl (by kernel_rfl) rfl ?_
        refine S.fieldB Try.underlying51 rfl ti2 rfl rfl rfl rfl ?_
        refine WS.done ⟨fun _ => hS6002, ?_⟩
        replace hC := hS6002
        refine WA.take (fuel := 1) 7 rfl (by kernel_rfl) (by kernel_rfl) (by kernel_rfl) (by kernel_rfl) rfl rfl hC ?_
        refine Q.loadB (i := 1) rfl Try.underlying2 rfl rfl rfl rfl ?_
        refine WQ.done ?_
        refine WA.one (fuel := 0) 8 rfl (by kernel_rfl) rfl ?_
        refine S.mapDel (i := 2) hS6002 rfl Try.underlying49 Try.underlying2 rfl rfl (by omega) rfl ?_
        intro w2003 hS2003; clear hS6002
        refine WS.done ⟨fun h => absurd h (by decide), ?_⟩
        refine WA.done (by kernel_rfl) ?_
        clear hC
        refine WR.region rfl ?_
        refine S.moveT rfl ?_
        refine S.nilCheck rfl rfl ?_
        refine S.fieldB Try.underlying51 rfl ti2 rfl rfl rfl rfl ?_
        refine S.loadB (i := 1) hS2003 rfl Try.underlying2 rfl rfl rfl rfl ?_
        first
          | refine S.addN rfl rfl rfl (by omega) ?_
          | refine S.add rfl rfl rfl ?_
        refine S.nilCheck rfl rfl ?_
        refine S.fieldB Try.underlying51 rfl ti2 rfl rfl rfl rfl ?_
        refine S.storeB (i := 1) hS2003 rfl ti2 rfl rfl rfl rfl rfl rfl rfl rfl ?_
        intro w2004 hS2004; clear hS2003
        refine WS.done ?_
        exact ⟨_, (by rw [hdel]; omega), ⟨_, n1 + 1, adel m1 n1, v24, rfl, (by rw [hdel]; exact ⟨by rw [hm1] at hI1; exact hI1.tail, by rw [hr1, hrel, hx, List.append_assoc]; rfl, by rw [hr2, hrel], by rw [List.length_append, List.length_singleton]; omega⟩), rfl, ⟨rfl, trivial⟩, hS2004⟩⟩
      ·
        skip
        refine S.nilCheck rfl rfl ?_
        refine WS.done ⟨fun _ => hS6002, ?_⟩
        replace hC := hS6002
        refine WA.two (fuel := 4) 2 6 rfl rfl (by kernel_rfl) rfl ?_ ?_
        ·
          skip
          refine S.fieldB Try.underlying51 rfl ti49 rfl rfl rfl rfl ?_
          refine WS.done ⟨fun _ => hS6002, ?_⟩
          replace hC := hS6002
          refine WA.take (fuel := 3) 3 rfl (by kernel_rfl) (by kernel_rfl) (by kernel_rfl) (by kernel_rfl) rfl rfl hC ?_
          refine Q.loadB (i := 1) rfl Try.underlying49 rfl rfl rfl rfl ?_
          refine WQ.done ?_
          refine WA.one (fuel := 2) 6 rfl (by kernel_rfl) rfl ?_
          refine S.fieldB Try.underlying51 rfl ti2 rfl rfl rfl rfl ?_
          refine WS.done ⟨fun _ => hS6002, ?_⟩
          replace hC := hS6002
          refine WA.take (fuel := 1) 7 rfl (by kernel_rfl) (by kernel_rfl) (by kernel_rfl) (by kernel_rfl) rfl rfl hC ?_
          refine Q.loadB (i := 1) rfl Try.underlying2 rfl rfl rfl rfl ?_
          refine WQ.done ?_
          refine WA.one (fuel := 0) 8 rfl (by kernel_rfl) rfl ?_
          refine S.mapDel (i := 2) hS6002 rfl Try.underlying49 Try.underlying2 rfl rfl (by omega) rfl ?_
          intro w2005 hS2005; clear hS6002
          refine WS.done ⟨fun h => absurd h (by decide), ?_⟩
          refine WA.done (by kernel_rfl) ?_
          clear hC
          refine WR.region rfl ?_
          refine S.moveT rfl ?_
          refine S.nilCheck rfl rfl ?_
          refine S.fieldB Try.underlying51 rfl ti2 rfl rfl rfl rfl ?_
          refine S.loadB (i := 1) hS2005 rfl Try.underlying2 rfl rfl rfl rfl ?_
          first
            | refine S.addN rfl rfl rfl (by omega) ?_
            | refine S.add rfl rfl rfl ?_
          refine S.nilCheck rfl rfl ?_
          refine S.fieldB Try.underlying51 rfl ti2 rfl rfl rfl rfl ?_
          refine S.storeB (i := 1) hS2005 rfl ti2 rfl rfl rfl rfl rfl rfl rfl rfl ?_
          intro w2006 hS2006; clear hS2005
          refine WS.done ?_
          exact ⟨_, (by rw [hdel]; omega), ⟨_, n1 + 1, adel m1 n1, v24, rfl, (by rw [hdel]; exact ⟨by rw [hm1] at hI1; exact hI1.tail, by rw [hr1, hrel, hx, List.append_assoc]; rfl, by rw [hr2, hrel], by rw [List.length_append, List.length_singleton]; omega⟩), rfl, ⟨rfl, trivial⟩, hS2006⟩⟩
        ·
          skip
          refine S.fieldB Try.underlying51 rfl ti2 rfl rfl rfl rfl ?_
          refine WS.done ⟨fun _ => hS6002, ?_⟩
          replace hC := hS6002
          refine WA.take (fuel := 3) 7 rfl (by kernel_rfl) (by kernel_rfl) (by kernel_rfl) (by kernel_rfl) rfl rfl hC ?_
          refine Q.loadB (i := 1) rfl Try.underlying2 rfl rfl rfl rfl ?_
          refine WQ.done ?_
          refine WA.one (fuel := 2) 2 rfl (by kernel_rfl) rfl ?_
          refine S.fieldB Try.underlying51 rfl ti49 rfl rfl rfl rfl ?_
          refine WS.done ⟨fun _ => hS6002, ?_⟩
          replace hC := hS6002
          refine WA.take (fuel := 1) 3 rfl (by kernel_rfl) (by kernel_rfl) (by kernel_rfl) (by kernel_rfl) rfl rfl hC ?_
          refine Q.loadB (i := 1) rfl Try.underlying49 rfl rfl rfl rfl ?_
          refine WQ.done ?_
          refine WA.one (fuel := 0) 8 rfl (by kernel_rfl) rfl ?_
          refine S.mapDel (i := 2) hS6002 rfl Try.underlying49 Try.underlying2 rfl rfl (by omega) rfl ?_
          intro w2007 hS2007; clear hS6002
          refine WS.done ⟨fun h => absurd h (by decide), ?_⟩
          refine WA.done (by kernel_rfl) ?_
          clear hC
          refine WR.region rfl ?_
          refine S.moveT rfl ?_
          refine S.nilCheck rfl rfl ?_
          refine S.fieldB Try.underlying51 rfl ti2 rfl rfl rfl rfl ?_
          refine S.loadB (i := 1) hS2007 rfl Try.underlying2 rfl rfl rfl rfl ?_
          first
            | refine S.addN rfl rfl rfl (by omega) ?_
            | refine S.add rfl rfl rfl ?_
          refine S.nilCheck rfl rfl ?_
          refine S.fieldB Try.underlying51 rfl ti2 rfl rfl rfl rfl ?_
          refine S.storeB (i := 1) hS2007 rfl ti2 rfl rfl rfl rfl rfl rfl rfl rfl ?_
          intro w2008 hS2008; clear hS2007
          refine WS.done ?_
          exact ⟨_, (by rw [hdel]; omega), ⟨_, n1 + 1, adel m1 n1, v24, rfl, (by rw [hdel]; exact ⟨by rw [hm1] at hI1; exact hI1.tail, by rw [hr1, hrel, hx, List.append_assoc]; rfl, by rw [hr2, hrel], by rw [List.length_append, List.length_singleton]; omega⟩), rfl, ⟨rfl, trivial⟩, hS2008⟩⟩
    ·
      skip
      refine S.nilCheck rfl rfl ?_
      refine WS.done ⟨fun _ => hS6002, ?_⟩
      replace hC := hS6002
      refine WA.two (fuel := 5) 1 6 rfl rfl (by kernel_rfl) rfl ?_ ?_
      ·
        skip
        refine S.nilCheck rfl rfl ?_
        refine WS.done ⟨fun _ => hS6002, ?_⟩
        replace hC := hS6002
        refine WA.two (fuel := 4) 2 6 rfl rfl (by kernel_rfl) rfl ?_ ?_
        ·
          skip
          refine S.fieldB Try.underlying51 rfl ti49 rfl rfl rfl rfl ?_
          refine WS.done ⟨fun _ => hS6002, ?_⟩
          replace hC := hS6002
          refine WA.take (fuel := 3) 3 rfl (by kernel_rfl) (by kernel_rfl) (by kernel_rfl) (by kernel_rfl) rfl rfl hC ?_
          refine Q.loadB (i := 1) rfl Try.underlying49 rfl rfl rfl rfl ?_
          refine WQ.done ?_
          refine WA.one (fuel := 2) 6 rfl (by kernel_rfl) rfl ?_
          refine S.fieldB Try.underlying51 rfl ti2 rfl rfl rfl rfl ?_
          refine WS.done ⟨fun _ => hS6002, ?_⟩
          replace hC := hS6002
          refine WA.take (fuel := 1) 7 rfl (by kernel_rfl) (by kernel_rfl) (by kernel_rfl) (by kernel_rfl) rfl rfl hC ?_
          refine Q.loadB (i := 1) rfl Try.underlying2 rfl rfl rfl rfl ?_
          refine WQ.done ?_
          refine WA.one (fuel := 0) 8 rfl (by kernel_rfl) rfl ?_
          refine S.mapDel (i := 2) hS6002 rfl Try.underlying49 Try.underlying2 rfl rfl (by omega) rfl ?_
          intro w2009 hS2009; clear hS6002
          refine WS.done ⟨fun h => absurd h (by decide), ?_⟩
          refine WA.done (by kernel_rfl) ?_
          clear hC
          refine WR.region rfl ?_
          refine S.moveT rfl ?_
          refine S.nilCheck rfl rfl ?_
          refine S.fieldB Try.underlying51 rfl ti2 rfl rfl rfl rfl ?_
          refine S.loadB (i := 1) hS2009 rfl Try.underlying2 rfl rfl rfl rfl ?_
          first
            | refine S.addN rfl rfl rfl (by omega) ?_
            | refine S.add rfl rfl rfl ?_
          refine S.nilCheck rfl rfl ?_
          refine S.fieldB Try.underlying51 rfl ti2 rfl rfl rfl rfl ?_
          refine S.storeB (i := 1) hS2009 rfl ti2 rfl rfl rfl rfl rfl rfl rfl rfl ?_
          intro w2010 hS2010; clear hS2009
          refine WS.done ?_
          exact ⟨_, (by rw [hdel]; omega), ⟨_, n1 + 1, adel m1 n1, v24, rfl, (by rw [hdel]; exact ⟨by rw [hm1] at hI1; exact hI1.tail, by rw [hr1, hrel, hx, List.append_assoc]; rfl, by rw [hr2, hrel], by rw [List.length_append, List.length_singleton]; omega⟩), rfl, ⟨rfl, trivial⟩, hS2010⟩⟩
        ·
          skip
          refine S.fieldB Try.underlying51 rfl ti2 rfl rfl rfl rfl ?_
          refine WS.done ⟨fun _ => hS6002, ?_⟩
          replace hC := hS6002
          refine WA.take (fuel := 3) 7 rfl (by kernel_rfl) (by kernel_rfl) (by kernel_rfl) (by kernel_rfl) rfl rfl hC ?_
          refine Q.loadB (i := 1) rfl Try.underlying2 rfl rfl rfl rfl ?_
          refine WQ.done ?_
          refine WA.one (fuel := 2) 2 rfl (by kernel_rfl) rfl ?_
          refine S.fieldB Try.underlying51 rfl ti49 rfl rfl rfl rfl ?_
          refine WS.done ⟨fun _ => hS6002, ?_⟩
          replace hC := hS6002
          refine WA.take (fuel := 1) 3 rfl (by kernel_rfl) (by kernel_rfl) (by kernel_rfl) (by kernel_rfl) rfl rfl hC ?_
          refine Q.loadB (i := 1) rfl Try.underlying49 rfl rfl rfl rfl ?_
          refine WQ.done ?_
          refine WA.one (fuel := 0) 8 rfl (by kernel_rfl) rfl ?_
          refine S.mapDel (i := 2) hS6002 rfl Try.underlying49 Try.underlying2 rfl rfl (by omega) rfl ?_
          intro w2011 hS2011; clear hS6002
          refine WS.done ⟨fun h => absurd h (by decide), ?_⟩
          refine WA.done (by kernel_rfl) ?_
          clear hC
          refine WR.region rfl ?_
          refine S.moveT rfl ?_
          refine S.nilCheck rfl rfl ?_
          refine S.fieldB Try.underlying51 rfl ti2 rfl rfl rfl rfl ?_
          refine S.loadB (i := 1) hS2011 rfl Try.underlying2 rfl rfl rfl rfl ?_
          first
            | refine S.addN rfl rfl rfl (by omega) ?_
            | refine S.add rfl rfl rfl ?_
          refine S.nilCheck rfl rfl ?_
          refine S.fieldB Try.underlying51 rfl ti2 rfl rfl rfl rfl ?_
          refine S.storeB (i := 1) hS2011 rfl ti2 rfl rfl rfl rfl rfl rfl rfl rfl ?_
          intro w2012 hS2012; clear hS2011
          refine WS.done ?_
          exact ⟨_, (by rw [hdel]; omega), ⟨_, n1 + 1, adel m1 n1, v24, rfl, (by rw [hdel]; exact ⟨by rw [hm1] at hI1; exact hI1.tail, by rw [hr1, hrel, hx, List.append_assoc]; rfl, by rw [hr2, hrel], by rw [List.length_append, List.length_singleton]; omega⟩), rfl, ⟨rfl, trivial⟩, hS2012⟩⟩
      ·
        skip
        refine S.fieldB Try.underlying51 rfl ti2 rfl rfl rfl rfl ?_
        refine WS.done ⟨fun _ => hS6002, ?_⟩
        replace hC := hS6002
        refine WA.take (fuel := 4) 7 rfl (by kernel_rfl) (by kernel_rfl) (by kernel_rfl) (by kernel_rfl) rfl rfl hC ?_
        refine Q.loadB (i := 1) rfl Try.underlying2 rfl rfl rfl rfl ?_
        refine WQ.done ?_
        refine WA.one (fuel := 3) 1 rfl (by kernel_rfl) rfl ?_
        refine S.nilCheck rfl rfl ?_
        refine WS.done ⟨fun _ => hS6002, ?_⟩
        replace hC := hS6002
        refine WA.one (fuel := 2) 2 rfl (by kernel_rfl) rfl ?_
        refine S.fieldB Try.underlying51 rfl ti49 rfl rfl rfl rfl ?_
        refine WS.done ⟨fun _ => hS6002, ?_⟩
        replace hC := hS6002
        refine WA.take (fuel := 1) 3 rfl (by kernel_rfl) (by kernel_rfl) (by kernel_rfl) (by kernel_rfl) rfl rfl hC ?_
        refine Q.loadB (i := 1) rfl Try.underlying49 rfl rfl rfl rfl ?_
        refine WQ.done ?_
        refine WA.one (fuel := 0) 8 rfl (by kernel_rfl) rfl ?_
        refine S.mapDel (i := 2) hS6002 rfl Try.underlying49 Try.underlying2 rfl rfl (by omega) rfl ?_
        intro w2013 hS2013; clear hS6002
        refine WS.done ⟨fun h => absurd h (by decide), ?_⟩
        refine WA.done (by kernel_rfl) ?_
        clear hC
        refine WR.region rfl ?_
        refine S.moveT rfl ?_
        refine S.nilCheck rfl rfl ?_
        refine S.fieldB Try.underlying51 rfl ti2 rfl rfl rfl rfl ?_
        refine S.loadB (i := 1) hS2013 rfl Try.underlying2 rfl rfl rfl rfl ?_
        first
          | refine S.addN rfl rfl rfl (by omega) ?_
          | refine S.add rfl rfl rfl ?_
        refine S.nilCheck rfl rfl ?_
        refine S.fieldB Try.underlying51 rfl ti2 rfl rfl rfl rfl ?_
        refine S.storeB (i := 1) hS2013 rfl ti2 rfl rfl rfl rfl rfl rfl rfl rfl ?_
        intro w2014 hS2014; clear hS2013
        refine WS.done ?_
        exact ⟨_, (by rw [hdel]; omega), ⟨_, n1 + 1, adel m1 n1, v24, rfl, (by rw [hdel]; exact ⟨by rw [hm1] at hI1; exact hI1.tail, by rw [hr1, hrel, hx, List.append_assoc]; rfl, by rw [hr2, hrel], by rw [List.length_append, List.length_singleton]; omega⟩), rfl, ⟨rfl, trivial⟩, hS2014⟩⟩

set_option maxRecDepth 100000 in
set_option maxHeartbeats 4000000 in
theorem h_offer {w : World} {R : Kn} {L : List HP} {n mo : Int} {m : List (Int × Int)} {bh bm : Nat} (hS : St w R (blk bh (.cells (#[.int .i64 n, .int .i64 mo, .map (some bm)]) 51 (0, 0)) :: Mp Try.prog 2 bm (mE iE m) :: L)) {first : Int} (hI : HI n mo m) (hfi : fits first) {v2 : Value} {xs : List Int} (h2 : Ro R (encI .i64) 1 v2 xs) (hf : ∀ x ∈ xs, fits x) (hm : xs.length ≤ 1000000) :
    Fn Try.prog 12 #[.pointer (some ⟨bh, 0, none⟩), .int .i64 first, v2] w (fun v w' => ∃ a, v = .tuple #[a, .int .i64 (offer n mo m first xs).2.1] ∧ St w' R (Ow 2 (encI .i64) 1 a (offer n mo m first xs).1 :: blk bh (.cells (#[.int .i64 (offer n mo m first xs).2.2.1, .int .i64 mo, .map (some bm)]) 51 (0, 0)) :: Mp Try.prog 2 bm (mE iE (offer n mo m first xs).2.2.2) :: L)) := by
  obtain ⟨a2, c2, rfl, hl2⟩ := h2.len
  have hfi2 := id hfi
  unfold fits at hfi2
  refine Fn.intro (n := 74) Try.func12 rfl rfl rfl ?_
  refine WR.seq ?_
  refine WR.region rfl ?_
  refine S.assignC rfl ?_
  refine S.assignC rfl ?_
  refine WS.done ?_
  refine WR.seq ?_
  refine WR.seq ?_
  refine WR.region rfl ?_
  refine S.moveT rfl ?_
  refine S.lss rfl rfl rfl ?_
  refine S.moveT rfl ?_
  refine S.splitD (d := 15) rfl (fun c15 => ?_) (fun c15 => ?_)
  ·
    skip
    refine S.off rfl ?_
    refine S.off rfl ?_
    refine S.pickTC rfl rfl ?_
    refine WS.done ?_
    refine WR.condT rfl ?_
    refine WR.seq ?_
    refine WR.region rfl ?_
    refine S.moveT rfl ?_
    refine S.lenSl Try.underlying32 rfl rfl ?_
    refine S.assignC rfl ?_
    refine S.assignT rfl ?_
    refine WS.done ?_
    refine WR.ret (ret2 rfl rfl rfl ?_)
    rw [offer_out (.inl c15)]
    exact ⟨_, rfl, hS.nilRow⟩
  ·
    skip
    refine S.moveT rfl ?_
    refine S.gtr rfl rfl rfl ?_
    refine S.pickF rfl rfl ?_
    refine WS.done ?_
    refine WR.condD rfl (fun c18 => ?_) (fun c18 => ?_)
    ·
      skip
      refine WR.seq ?_
      refine WR.region rfl ?_
      refine S.moveT rfl ?_
      refine S.lenSl Try.underlying32 rfl rfl ?_
      refine S.assignC rfl ?_
      refine S.assignT rfl ?_
      refine WS.done ?_
      refine WR.ret (ret2 rfl rfl rfl ?_)
      rw [offer_out (.inr (by omega))]
      exact ⟨_, rfl, hS.nilRow⟩
    ·
      skip
      refine WR.skip ?_
      refine WR.seq ?_
      refine WR.seq ?_
      refine WR.region rfl ?_
      refine S.moveT rfl ?_
      refine S.lenSl Try.underlying32 rfl rfl ?_
      refine S.moveC rfl ?_
      refine WS.done ?_
      refine WR.block ?_
      refine WR.loopE (fun rq mm rr wr => ∃ (i : Nat), mm = xs.length - i ∧ (i ≤ xs.length) ∧ rr 7 = .int .i64 (offT n mo m first xs i).2 ∧ rr 23 = .int .i64 (i : Int) ∧ Agr [0, 1, 21, 22] rr rq ∧ St wr R (blk bh (.cells (#[.int .i64 n, .int .i64 mo, .map (some bm)]) 51 (0, 0)) :: Mp Try.prog 2 bm (mE iE (offT n mo m first xs i).1) :: L)) ⟨0, rfl, (by omega), rfl, rfl, ⟨rfl, rfl, rfl, rfl, trivial⟩, hS⟩ ?_
      rintro mm rr w1001 ⟨i, hm1001, hi, hr1001_7, hr1001_23, hA1001, hS1001⟩
      obtain ⟨rr, rfl⟩ := agrBack hA1001
      clear hA1001
      obtain ⟨rr, rfl⟩ := back2 (r := rr) hr1001_7 hr1001_23
      clear hr1001_7 hr1001_23
      refine WR.seq ?_
      refine WR.region rfl ?_
      refine S.lss rfl rfl rfl ?_
      refine WS.done ?_
      refine WR.seq ?_
      refine WR.condD rfl (fun c24 => ?_) (fun c24 => ?_)
      ·
        skip
        refine WR.skip ?_
        refine WR.seq ?_
        refine WR.block ?_
        refine WR.seq ?_
        have hfst : 0 ≤ first ∧ first ≤ 2199023255552 := by omega
        obtain ⟨hI1, hr0, hr1⟩ := hI.offT (first := first) (by omega) hm hf i hi
        have hlen := hI1.len2
        have hn0 := hI.n0
        have hn1 := hI.n1
        have hmo0 := hI.mo0
        have hmo1 := hI.mo1
        have hus : offT n mo m first xs (i + 1) = offStep n mo (offT n mo m first xs i) (first + i) (xs.getD i 0) := rfl
        refine WR.region rfl ?_
        refine S.moveT rfl ?_
        refine S.indexRo h2 Try.underlying32 ti2 rfl rfl (by omega) rfl ?_
        intro ad26 u26 hu26 hl26 hc26
        refine S.loadRo hS1001 hc26 rfl Try.underlying2 rfl rfl rfl ?_
        have hxd : u26 = xs.getD i 0 := (getD_of (getI hu26)).symm
        rw [← hxd] at hus
        refine S.assignT rfl ?_
        refine S.assignT rfl ?_
        refine WS.done ?_
        refine WR.seq ?_
        refine WR.region rfl ?_
        refine S.moveT rfl ?_
        refine S.moveT rfl ?_
        first
          | refine S.addN rfl rfl rfl (by omega) ?_
          | refine S.add rfl rfl rfl ?_
        refine S.assignT rfl ?_
        refine WS.done ?_
        refine WR.seq ?_
        refine WR.region rfl ?_
        refine S.moveT rfl ?_
        refine S.nilCheck rfl rfl ?_
        refine S.fieldB Try.underlying51 rfl ti49 rfl rfl rfl rfl ?_
        refine S.loadB (i := 0) hS1001 rfl Try.underlying49 rfl rfl rfl rfl ?_
        refine S.moveT rfl ?_
        refine S.lookOk (i := 1) hS1001 rfl Try.underlying49 Try.underlying2 ti2 rfl rfl (by omega) rfl ?_
        refine S.moveT rfl ?_
        refine S.extract rfl rfl rfl ?_
        refine S.extract rfl rfl rfl ?_
        refine S.assignT rfl ?_
        refine S.assignT rfl ?_
        refine WS.done ?_
        refine WR.block ?_
        refine WR.seq ?_
        refine WR.region rfl ?_
        refine S.moveT rfl ?_
        refine S.moveT rfl ?_
        refine S.nilCheck rfl rfl ?_
        refine S.fieldB Try.underlying51 rfl ti2 rfl rfl rfl rfl ?_
        refine S.loadB (i := 0) hS1001 rfl Try.underlying2 rfl rfl rfl rfl ?_
        refine S.lss rfl rfl rfl ?_
        refine S.moveT rfl ?_
        refine S.splitD (d := 53) rfl (fun c53 => ?_) (fun c53 => ?_)
        ·
          skip
          refine S.off rfl ?_
          refine S.pickTC rfl rfl ?_
          refine S.assignT rfl ?_
          refine WS.done ?_
          refine WR.condT rfl ?_
          refine WR.skip ?_
          refine WR.region rfl ?_
          first
            | refine S.addN rfl rfl rfl (by omega) ?_
            | refine S.add rfl rfl rfl ?_
          refine S.moveT rfl ?_
          refine WS.done ?_
          exact ⟨_, (by omega), ⟨i + 1, rfl, (by omega), (by rw [hus]; first | (rw [offStep_old (.inl c53)]; rfl) | (rw [offStep_old (.inr c46)]; rfl) | (rw [offStep_far (not_or.2 ⟨c53, by simpa using c46⟩) c56]; rfl) | (rw [offStep_new (not_or.2 ⟨c53, by simpa using c46⟩) (by omega)]; rfl)), rfl, ⟨rfl, rfl, rfl, rfl, trivial⟩, (by rw [hus]; first | (rw [offStep_old (.inl c53)]; exact hS1001) | (rw [offStep_old (.inr c46)]; exact hS1001) | (rw [offStep_far (not_or.2 ⟨c53, by simpa using c46⟩) c56]; exact hS1001) | (rw [offStep_new (not_or.2 ⟨c53, by simpa using c46⟩) (by omega)]; exact hS1001))⟩⟩
        ·
          skip
          refine S.moveT rfl ?_
          refine S.pickF rfl rfl ?_
          refine S.assignT rfl ?_
          refine WS.done ?_
          refine WR.cond rfl (fun c46 => ?_) (fun c46 => ?_)
          ·
            skip
            refine WR.skip ?_
            refine WR.region rfl ?_
            first
              | refine S.addN rfl rfl rfl (by omega) ?_
              | refine S.add rfl rfl rfl ?_
            refine S.moveT rfl ?_
            refine WS.done ?_
            exact ⟨_, (by omega), ⟨i + 1, rfl, (by omega), (by rw [hus]; first | (rw [offStep_old (.inl c53)]; rfl) | (rw [offStep_old (.inr c46)]; rfl) | (rw [offStep_far (not_or.2 ⟨c53, by simpa using c46⟩) c56]; rfl) | (rw [offStep_new (not_or.2 ⟨c53, by simpa using c46⟩) (by omega)]; rfl)), rfl, ⟨rfl, rfl, rfl, rfl, trivial⟩, (by rw [hus]; first | (rw [offStep_old (.inl c53)]; exact hS1001) | (rw [offStep_old (.inr c46)]; exact hS1001) | (rw [offStep_far (not_or.2 ⟨c53, by simpa using c46⟩) c56]; exact hS1001) | (rw [offStep_new (not_or.2 ⟨c53, by simpa using c46⟩) (by omega)]; exact hS1001))⟩⟩
          ·
            skip
            refine WR.seq ?_
            refine WR.regionQ mixed hS1001 (by kernel_rfl) rfl ?_
            refine Q.moveT rfl ?_
            refine Q.moveT rfl ?_
            refine Q.nilCheck rfl rfl ?_
            refine Q.fieldB Try.underlying51 rfl ti2 rfl rfl rfl rfl ?_
            refine Q.loadB (i := 0) rfl Try.underlying2 rfl rfl rfl rfl ?_
            refine Q.moveT rfl ?_
            refine Q.nilCheck rfl rfl ?_
            refine Q.fieldB Try.underlying51 rfl ti2 rfl rfl rfl rfl ?_
            refine Q.loadB (i := 0) rfl Try.underlying2 rfl rfl rfl rfl ?_
            first
              | refine Q.addN rfl rfl rfl (by omega) ?_
              | refine Q.add rfl rfl rfl ?_
            refine Q.geq rfl rfl rfl ?_
            refine Q.assignT rfl ?_
            refine WQ.done ?_
            intro w5001 hS5001
            clear hS1001
            refine WR.condD rfl (fun c56 => ?_) (fun c56 => ?_)
            ·
              skip
              refine WR.region rfl ?_
              refine S.moveT rfl ?_
              first
                | refine S.addN rfl rfl rfl (by omega) ?_
                | refine S.add rfl rfl rfl ?_
              refine S.assignT rfl ?_
              refine WS.done ?_
              refine WR.region rfl ?_
              first
                | refine S.addN rfl rfl rfl (by omega) ?_
                | refine S.add rfl rfl rfl ?_
              refine S.moveT rfl ?_
              refine WS.done ?_
              exact ⟨_, (by omega), ⟨i + 1, rfl, (by omega), (by rw [hus]; first | (rw [offStep_old (.inl c53)]; rfl) | (rw [offStep_old (.inr c46)]; rfl) | (rw [offStep_far (not_or.2 ⟨c53, by simpa using c46⟩) c56]; rfl) | (rw [offStep_new (not_or.2 ⟨c53, by simpa using c46⟩) (by omega)]; rfl)), rfl, ⟨rfl, rfl, rfl, rfl, trivial⟩, (by rw [hus]; first | (rw [offStep_old (.inl c53)]; exact hS5001) | (rw [offStep_old (.inr c46)]; exact hS5001) | (rw [offStep_far (not_or.2 ⟨c53, by simpa using c46⟩) c56]; exact hS5001) | (rw [offStep_new (not_or.2 ⟨c53, by simpa using c46⟩) (by omega)]; exact hS5001))⟩⟩
            ·
              skip
              refine WR.region rfl ?_
              refine S.moveT rfl ?_
              refine S.nilCheck rfl rfl ?_
              refine S.fieldB Try.underlying51 rfl ti49 rfl rfl rfl rfl ?_
              refine S.loadB (i := 0) hS5001 rfl Try.underlying49 rfl rfl rfl rfl ?_
              refine S.moveT rfl ?_
              refine S.moveT rfl ?_
              refine S.mapPut (i := 1) (_) hS5001 rfl Try.underlying49 Try.underlying2 (by omega) rfl rfl rfl (by omega) rfl ?_
              intro w2002 hS2002; clear hS5001
              refine WS.done ?_
              refine WR.region rfl ?_
              first
                | refine S.addN rfl rfl rfl (by omega) ?_
                | refine S.add rfl rfl rfl ?_
              refine S.moveT rfl ?_
              refine WS.done ?_
              exact ⟨_, (by omega), ⟨i + 1, rfl, (by omega), (by rw [hus]; first | (rw [offStep_old (.inl c53)]; rfl) | (rw [offStep_old (.inr c46)]; rfl) | (rw [offStep_far (not_or.2 ⟨c53, by simpa using c46⟩) c56]; rfl) | (rw [offStep_new (not_or.2 ⟨c53, by simpa using c46⟩) (by omega)]; rfl)), rfl, ⟨rfl, rfl, rfl, rfl, trivial⟩, (by rw [hus]; first | (rw [offStep_old (.inl c53)]; exact hS2002) | (rw [offStep_old (.inr c46)]; exact hS2002) | (rw [offStep_far (not_or.2 ⟨c53, by simpa using c46⟩) c56]; exact hS2002) | (rw [offStep_new (not_or.2 ⟨c53, by simpa using c46⟩) (by omega)]; exact hS2002))⟩⟩
      ·
        skip
        refine WR.exit ?_
        refine WR.seq ?_
        obtain rfl : i = xs.length := by omega
        refine WR.region rfl ?_
        refine S.moveT rfl ?_
        refine S.call ent21 rfl (h_release hS1001 (by exact (hI.offT (first := first) (by omega) hm hf xs.length (Nat.le_refl _)).1)) rfl ?_
        rintro v72 w72 hS72
        clear hS1001
        refine S.moveT rfl ?_
        refine S.assignT rfl ?_
        refine S.assignT rfl ?_
        refine WS.done ?_
        refine WR.ret (ret2 rfl rfl rfl ?_)
        rw [offer_in (by omega)]
        exact ⟨_, rfl, hS72⟩

set_option maxRecDepth 100000 in
set_option maxHeartbeats 4000000 in
theorem h_waiting {w : World} {R : Kn} {L : List HP} {n mo : Int} {m : List (Int × Int)} {bh bm : Nat} (hS : St w R (blk bh (.cells (#[.int .i64 n, .int .i64 mo, .map (some bm)]) 51 (0, 0)) :: Mp Try.prog 2 bm (mE iE m) :: L)) (hl : m.length ≤ 1000000) :
    Fn Try.prog 18 #[.pointer (some ⟨bh, 0, none⟩)] w (fun v w' => St w' R (Ow 2 (encI .i64) 1 v (m.map (·.1)) :: blk bh (.cells (#[.int .i64 n, .int .i64 mo, .map (some bm)]) 51 (0, 0)) :: Mp Try.prog 2 bm (mE iE m) :: L)) := by
  refine Fn.intro (n := 9) Try.func18 rfl rfl rfl ?_
  refine WR.seq ?_
  refine WR.region rfl ?_
  refine S.assignC rfl ?_
  refine WS.done ?_
  refine WR.seq ?_
  refine WR.region rfl ?_
  refine S.moveT rfl ?_
  refine S.nilCheck rfl rfl ?_
  refine S.fieldB Try.underlying51 rfl ti49 rfl rfl rfl rfl ?_
  refine S.loadB (i := 0) hS rfl Try.underlying49 rfl rfl rfl rfl ?_
  refine S.call ent25 rfl (fn_keys k_keysA hS ) rfl ?_
  rintro _ w7 ⟨bp7, rfl, hS7⟩
  clear hS
  refine S.call ent24 rfl (fn_sorted k_sortedA Try.underlying2 (((hS7.at_ (i := 1) rfl).at_ (i := 2) rfl).at_ (i := 2) rfl) (by rw [mE_len]; omega)) rfl ?_
  rintro v8 w8 hS8
  clear hS7
  refine S.assignT rfl ?_
  refine WS.done ?_
  refine WR.ret (ret1 rfl rfl ?_)
  rw [mE_keys] at hS8
  exact ((((hS8.at_ (i := 2) rfl).at_ (i := 3) rfl).at_ (i := 2) rfl).at_ (i := 3) rfl).drop

set_option maxRecDepth 100000 in
set_option maxHeartbeats 4000000 in
theorem h_clone {w : World} {R : Kn} {L : List HP} {n mo : Int} {m : List (Int × Int)} {bh bm : Nat} (hS : St w R (blk bh (.cells (#[.int .i64 n, .int .i64 mo, .map (some bm)]) 51 (0, 0)) :: Mp Try.prog 2 bm (mE iE m) :: L))  :
    Fn Try.prog 20 #[.pointer (some ⟨bh, 0, none⟩)] w (fun v w' => ∃ bh2 bm2, v = .pointer (some ⟨bh2, 0, none⟩) ∧ St w' R (blk bh2 (.cells (#[.int .i64 n, .int .i64 mo, .map (some bm2)]) 51 (0, 0)) :: Mp Try.prog 2 bm2 (mE iE m) :: blk bh (.cells (#[.int .i64 n, .int .i64 mo, .map (some bm)]) 51 (0, 0)) :: Mp Try.prog 2 bm (mE iE m) :: L)) := by
  refine Fn.intro (n := 18) Try.func20 rfl rfl rfl ?_
  refine WR.seq ?_
  refine WR.region rfl ?_
  refine S.assignC rfl ?_
  refine WS.done ?_
  refine WR.seq ?_
  refine WR.regionW (fun j => false) 16 rfl mixed hS ?_
  intro w6001 hS6001; clear hS; have hC := hS6001
  refine WA.take (fuel := 15) 0 rfl (by kernel_rfl) (by kernel_rfl) (by kernel_rfl) (by kernel_rfl) rfl rfl hC ?_
  refine Q.moveT rfl ?_
  refine WQ.done ?_
  refine WA.take (fuel := 14) 1 rfl (by kernel_rfl) (by kernel_rfl) (by kernel_rfl) (by kernel_rfl) rfl rfl hC ?_
  refine Q.nilCheck rfl rfl ?_
  refine WQ.done ?_
  refine WA.take (fuel := 13) 2 rfl (by kernel_rfl) (by kernel_rfl) (by kernel_rfl) (by kernel_rfl) rfl rfl hC ?_
  refine Q.fieldB Try.underlying51 rfl ti2 rfl rfl rfl rfl ?_
  refine WQ.done ?_
  refine WA.take (fuel := 12) 3 rfl (by kernel_rfl) (by kernel_rfl) (by kernel_rfl) (by kernel_rfl) rfl rfl hC ?_
  refine Q.loadB (i := 0) rfl Try.underlying2 rfl rfl rfl rfl ?_
  refine WQ.done ?_
  refine WA.take (fuel := 11) 4 rfl (by kernel_rfl) (by kernel_rfl) (by kernel_rfl) (by kernel_rfl) rfl rfl hC ?_
  refine Q.moveT rfl ?_
  refine WQ.done ?_
  refine WA.take (fuel := 10) 5 rfl (by kernel_rfl) (by kernel_rfl) (by kernel_rfl) (by kernel_rfl) rfl rfl hC ?_
  refine Q.nilCheck rfl rfl ?_
  refine WQ.done ?_
  refine WA.take (fuel := 9) 6 rfl (by kernel_rfl) (by kernel_rfl) (by kernel_rfl) (by kernel_rfl) rfl rfl hC ?_
  refine Q.fieldB Try.underlying51 rfl ti2 rfl rfl rfl rfl ?_
  refine WQ.done ?_
  refine WA.take (fuel := 8) 7 rfl (by kernel_rfl) (by kernel_rfl) (by kernel_rfl) (by kernel_rfl) rfl rfl hC ?_
  refine Q.loadB (i := 0) rfl Try.underlying2 rfl rfl rfl rfl ?_
  refine WQ.done ?_
  refine WA.take (fuel := 7) 8 rfl (by kernel_rfl) (by kernel_rfl) (by kernel_rfl) (by kernel_rfl) rfl rfl hC ?_
  refine Q.moveT rfl ?_
  refine WQ.done ?_
  refine WA.take (fuel := 6) 9 rfl (by kernel_rfl) (by kernel_rfl) (by kernel_rfl) (by kernel_rfl) rfl rfl hC ?_
  refine Q.nilCheck rfl rfl ?_
  refine WQ.done ?_
  refine WA.take (fuel := 5) 10 rfl (by kernel_rfl) (by kernel_rfl) (by kernel_rfl) (by kernel_rfl) rfl rfl hC ?_
  refine Q.fieldB Try.underlying51 rfl ti49 rfl rfl rfl rfl ?_
  refine WQ.done ?_
  refine WA.take (fuel := 4) 11 rfl (by kernel_rfl) (by kernel_rfl) (by kernel_rfl) (by kernel_rfl) rfl rfl hC ?_
  refine Q.loadB (i := 0) rfl Try.underlying49 rfl rfl rfl rfl ?_
  refine WQ.done ?_
  refine WA.one (fuel := 3) 12 rfl (by kernel_rfl) rfl ?_
  refine S.call ent26 rfl (fn_clone k_cloneA ((hS6001.at_ (i := 0) rfl).at_ (i := 1) rfl) ) rfl ?_
  rintro _ w15 ⟨bc15, rfl, hS15⟩
  clear hS6001
  refine WS.done ⟨fun _ => (((hS15.at_ (i := 1) rfl).at_ (i := 2) rfl).at_ (i := 2) rfl).drop, ?_⟩
  replace hC := (((hS15.at_ (i := 1) rfl).at_ (i := 2) rfl).at_ (i := 2) rfl).drop
  refine WA.one (fuel := 2) 13 rfl (by kernel_rfl) rfl ?_
  refine S.buildStruct [.int _ _, .int _ _, .map _] [(0, 1), (1, 1), (2, 1)] Try.underlying51 ti51 rfl (by kernel_rfl) rfl rfl rfl rfl rfl rfl ?_
  refine WS.done ⟨fun _ => (((hS15.at_ (i := 1) rfl).at_ (i := 2) rfl).at_ (i := 2) rfl).drop, ?_⟩
  replace hC := (((hS15.at_ (i := 1) rfl).at_ (i := 2) rfl).at_ (i := 2) rfl).drop
  refine WA.one (fuel := 1) 14 rfl (by kernel_rfl) rfl ?_
  refine S.box hS15 rfl rfl rfl ?_
  intro b17 w17 hS17; clear hS15
  refine WS.done ⟨fun _ => ((((hS17.at_ (i := 2) rfl).at_ (i := 3) rfl).at_ (i := 3) rfl).at_ (i := 3) rfl).drop.drop, ?_⟩
  replace hC := ((((hS17.at_ (i := 2) rfl).at_ (i := 3) rfl).at_ (i := 3) rfl).at_ (i := 3) rfl).drop.drop
  refine WA.take (fuel := 0) 15 rfl (by kernel_rfl) (by kernel_rfl) (by kernel_rfl) (by kernel_rfl) rfl rfl hC ?_
  refine Q.assignT rfl ?_
  refine WQ.done ?_
  refine WA.done (by kernel_rfl) ?_
  clear hC
  refine WR.ret (ret1 rfl rfl ?_)
  exact ⟨_, _, rfl, ((((hS17.at_ (i := 2) rfl).at_ (i := 3) rfl).at_ (i := 3) rfl).at_ (i := 3) rfl)⟩

set_option maxRecDepth 100000 in
set_option maxHeartbeats 4000000 in
theorem h_drain {w : World} {R : Kn} {L : List HP} {n mo : Int} {m : List (Int × Int)} {bh bm : Nat} (hS : St w R (blk bh (.cells (#[.int .i64 n, .int .i64 mo, .map (some bm)]) 51 (0, 0)) :: Mp Try.prog 2 bm (mE iE m) :: L)) (hI : HI n mo m) :
    Fn Try.prog 15 #[.pointer (some ⟨bh, 0, none⟩)] w (fun v w' => St w' R (Ow 2 (encI .i64) 1 v (m.map (·.2)) :: blk bh (.cells (#[.int .i64 n, .int .i64 mo, .map (some bm)]) 51 (0, 0)) :: Mp Try.prog 2 bm (mE iE []) :: L)) := by
  have hlen := hI.len2
  refine Fn.intro (n := 28) Try.func15 rfl rfl rfl ?_
  refine WR.seq ?_
  refine WR.region rfl ?_
  refine S.assignC rfl ?_
  refine WS.done ?_
  refine WR.seq ?_
  refine WR.region rfl ?_
  refine S.assignC rfl ?_
  have hSo := hS.nilRow (α := Int) (enc := encI .i64) (n := 1) (e := 2)
  refine WS.done ?_
  refine WR.seq ?_
  refine WR.seq ?_
  refine WR.region rfl ?_
  refine S.moveT rfl ?_
  refine S.call ent18 rfl (h_waiting (((hSo.at_ (i := 0) rfl).at_ (i := 2) rfl).at_ (i := 2) rfl) (by omega)) rfl ?_
  rintro v7 w7 hS7
  clear hSo
  obtain ⟨R7, hR7, hro7, hSf7⟩ := hS7.freeze (fun _ _ => rfl)
  obtain ⟨a7, c7, rfl, hl7⟩ := hro7.len
  refine S.lenSl Try.underlying32 rfl rfl ?_
  refine S.moveC rfl ?_
  refine WS.done ?_
  refine WR.block ?_
  refine WR.loopE (fun rq mm rr wr => ∃ (i : Nat) (v3 : Value), mm = m.length - i ∧ (i ≤ m.length) ∧ rr 3 = v3 ∧ rr 9 = .int .i64 (i : Int) ∧ Agr [0, 7, 8] rr rq ∧ St wr R7 (Ow 2 (encI .i64) 1 v3 ((m.take i).map (·.2)) :: blk bh (.cells (#[.int .i64 n, .int .i64 mo, .map (some bm)]) 51 (0, 0)) :: Mp Try.prog 2 bm (mE iE m) :: L)) ⟨0, _, rfl, (by omega), rfl, rfl, ⟨rfl, rfl, rfl, trivial⟩, (hSf7.at_ (i := 2) rfl)⟩ ?_
  rintro mm rr w1001 ⟨i, v3, hm1001, hi, hr1001_3, hr1001_9, hA1001, hS1001⟩
  obtain ⟨rr, rfl⟩ := agrBack hA1001
  clear hA1001
  obtain ⟨rr, rfl⟩ := back2 (r := rr) hr1001_3 hr1001_9
  clear hr1001_3 hr1001_9
  have hml : (m.map (·.1)).length = m.length := List.length_map ..
  refine WR.seq ?_
  refine WR.region rfl ?_
  refine S.lss rfl rfl rfl ?_
  refine WS.done ?_
  refine WR.seq ?_
  refine WR.condD rfl (fun c10 => ?_) (fun c10 => ?_)
  ·
    skip
    refine WR.skip ?_
    refine WR.seq ?_
    refine WR.block ?_
    refine WR.seq ?_
    refine WR.region rfl ?_
    refine S.indexRo hro7 Try.underlying32 ti2 rfl rfl (by omega) rfl ?_
    intro ad11 u11 hu11 hl11 hc11
    refine S.loadRo hS1001 hc11 rfl Try.underlying2 rfl rfl rfl ?_
    have hum : m[i]? = some (u11, (m.getD i (0, 0)).2) := by
      have h1 := getI hu11
      rw [List.getElem?_map] at h1
      obtain ⟨p, hp, rfl⟩ := Option.map_eq_some_iff.1 h1
      rw [List.getD_eq_getElem?_getD, hp]; rfl
    have hug : aget m u11 = some (m.getD i (0, 0)).2 := aget_of hI.rise (List.mem_of_getElem? hum)
    have hut := hI.top _ (List.mem_of_getElem? hum)
    have hul := hI.lo _ (List.mem_of_getElem? hum)
    have hnn := hI.n0
    simp only at hut hul
    refine S.assignT rfl ?_
    refine WS.done ?_
    refine WR.region rfl ?_
    refine S.moveT rfl ?_
    refine S.moveT rfl ?_
    refine S.nilCheck rfl rfl ?_
    refine S.fieldB Try.underlying51 rfl ti49 rfl rfl rfl rfl ?_
    refine S.loadB (i := 1) hS1001 rfl Try.underlying49 rfl rfl rfl rfl ?_
    refine S.moveT rfl ?_
    refine S.look (i := 2) hS1001 rfl Try.underlying49 Try.underlying2 ti2 rfl rfl (by omega) rfl ?_
    first
      | refine S.buildRow (vs := [.int _ _]) hS1001 Try.underlying32 ti2 rfl rfl rfl rfl rfl rfl rfl ?_
      | refine S.buildRow hS1001 Try.underlying32 ti2 rfl rfl rfl rfl rfl rfl rfl ?_
    intro b20 w20 hS20; clear hS1001
    refine S.appendTmp (i := 0) [(aget m u11).getD 0] hS20 rfl rfl (fun _ _ => rfl) Try.underlying32 ti2 rfl rfl rfl rfl encI_one (by rw [List.length_map, List.length_take, List.length_singleton]; omega) rfl ?_
    intro v21 w21 hS21; clear hS20
    refine S.assignT rfl ?_
    refine WS.done ?_
    refine WR.region rfl ?_
    first
      | refine S.addN rfl rfl rfl (by omega) ?_
      | refine S.add rfl rfl rfl ?_
    refine S.moveT rfl ?_
    refine WS.done ?_
    exact ⟨_, (by omega), ⟨i + 1, v21, rfl, (by omega), rfl, rfl, ⟨rfl, rfl, rfl, trivial⟩, (by rw [List.take_add_one, hum, List.map_append]; rw [hug] at hS21; exact hS21)⟩⟩
  ·
    skip
    refine WR.exit ?_
    refine WR.seq ?_
    refine WR.region rfl ?_
    refine S.moveT rfl ?_
    refine S.nilCheck rfl rfl ?_
    refine S.fieldB Try.underlying51 rfl ti49 rfl rfl rfl rfl ?_
    refine S.loadB (i := 1) hS1001 rfl Try.underlying49 rfl rfl rfl rfl ?_
    refine S.mapClear (i := 2) hS1001 rfl Try.underlying49 rfl rfl ?_
    intro w2001 hS2001; clear hS1001
    refine WS.done ?_
    refine WR.seq ?_
    refine WR.region rfl ?_
    refine S.moveT rfl ?_
    refine S.assignT rfl ?_
    refine WS.done ?_
    refine WR.ret (ret1 rfl rfl ?_)
    have hml : (m.map (·.1)).length = m.length := List.length_map ..
    rw [List.take_of_length_le (by omega)] at hS2001
    exact hS2001.weak hR7


end Go.Proofs.Ytcbfmbcmokafpaa.B

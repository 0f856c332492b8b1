import Derived.Test.YtmmdbincgianaaaWalkE
import Derived.Test.YtmmdbincgianaaaWalkF
namespace Go.Proofs.Ytmmdbincgianaaa.B
open Go.Proofs Go.RowKit
set_option linter.unusedVariables false
set_option linter.unusedSimpArgs false
set_option maxRecDepth 100000 in
set_option maxHeartbeats 4000000 in
theorem law_HistParts {w : World} {R : Kn} {L : List HP}  (hS : St w R (L)) {v0 : Value} {xs : List Int} {c : Int} (h0 : Ro R (encI .i64) 1 v0 xs) (hf : ∀ x ∈ xs, fits x) (hm : xs.length ≤ 140737488355328) (hc : fits c) :
    Fn Try.prog 5 #[v0, .int .i64 c] w (fun v w' => v = .bool true ∧ St w' R L) := by
  obtain ⟨a0, c0, rfl, hl0⟩ := h0.len
  refine Fn.intro (n := 79) Try.func5 rfl rfl rfl ?_
  refine WR.seq ?_
  refine WR.region rfl ?_
  refine S.assignC rfl ?_
  refine WS.done ?_
  refine WR.seq ?_
  refine WR.seq ?_
  refine WR.region rfl ?_
  refine S.call ent8 rfl (l5_alive hS ) rfl ?_
  rintro _ w11 ⟨rfl, hS11⟩
  clear hS
  refine S.not rfl rfl ?_
  refine WS.done ?_
  refine WR.condF rfl ?_
  refine WR.skip ?_
  refine WR.seq ?_
  refine WR.seq ?_
  refine WR.region rfl ?_
  refine S.moveT rfl ?_
  refine S.lenSl Try.underlying22 rfl rfl ?_
  refine S.gtr rfl rfl rfl ?_
  refine S.moveT rfl ?_
  refine S.splitD (d := 16) rfl (fun c16 => ?_) (fun c16 => ?_)
  ·
    skip
    refine S.off rfl ?_
    refine S.off rfl ?_
    refine S.pickTC rfl rfl ?_
    refine S.moveT rfl ?_
    refine S.off rfl ?_
    refine S.off rfl ?_
    refine S.off rfl ?_
    refine S.off rfl ?_
    refine S.pickTC rfl rfl ?_
    refine WS.done ?_
    refine WR.condT rfl ?_
    refine WR.seq ?_
    refine WR.region rfl ?_
    refine S.assignC rfl ?_
    refine WS.done ?_
    refine WR.ret (ret1 rfl rfl ?_)
    first | exact ⟨rfl, hS11⟩ | exact ⟨rfl, hS11.weak hR5⟩
  ·
    skip
    refine S.moveT rfl ?_
    refine S.lss rfl rfl rfl ?_
    refine S.pickF rfl rfl ?_
    refine S.moveT rfl ?_
    refine S.splitD (d := 20) rfl (fun c20 => ?_) (fun c20 => ?_)
    ·
      skip
      refine S.off rfl ?_
      refine S.off rfl ?_
      refine S.off rfl ?_
      refine S.off rfl ?_
      refine S.pickTC rfl rfl ?_
      refine WS.done ?_
      refine WR.condT rfl ?_
      refine WR.seq ?_
      refine WR.region rfl ?_
      refine S.assignC rfl ?_
      refine WS.done ?_
      refine WR.ret (ret1 rfl rfl ?_)
      first | exact ⟨rfl, hS11⟩ | exact ⟨rfl, hS11.weak hR5⟩
    ·
      skip
      refine S.moveT rfl ?_
      refine S.moveT rfl ?_
      refine S.lenSl Try.underlying22 rfl rfl ?_
      refine S.gtr rfl rfl rfl ?_
      refine S.pickF rfl rfl ?_
      refine WS.done ?_
      refine WR.condD rfl (fun c25 => ?_) (fun c25 => ?_)
      ·
        skip
        refine WR.seq ?_
        refine WR.region rfl ?_
        refine S.assignC rfl ?_
        refine WS.done ?_
        refine WR.ret (ret1 rfl rfl ?_)
        first | exact ⟨rfl, hS11⟩ | exact ⟨rfl, hS11.weak hR5⟩
      ·
        skip
        refine WR.skip ?_
        refine WR.cutE (J := fun rq rr wr => ∃ (b5 : Nat) (R5 : Kn), (R.le R5) ∧ rr 5 = .pointer (some ⟨b5, 0, none⟩) ∧ rr 6 = .int .i64 0 ∧ Agr [0] rr rq ∧ St wr R5 (blk b5 (.cells (aI (ofL xs)) 26 (0, 0)) :: L)) ?_ ?_
        ·
          skip
          obtain ⟨n, rfl⟩ : ∃ n : Nat, c = (n : Int) := ⟨c.toNat, by omega⟩
          have hn : n ≤ xs.length := by omega
          have hl200 : xs.length ≤ 200 := by omega
          refine WR.regionW (fun j => Nat.beq j 14 || Nat.beq j 15) 16 rfl mixed hS11 ?_
          intro w6002 hS6002; clear hS11; have hC := hS6002
          refine WA.take (fuel := 15) 0 rfl (by kernel_rfl) (by kernel_rfl) (by kernel_rfl) (by kernel_rfl) rfl rfl hC ?_
          refine Q.moveT rfl ?_
          refine WQ.done ?_
          refine WA.take (fuel := 14) 1 rfl (by kernel_rfl) (by kernel_rfl) (by kernel_rfl) (by kernel_rfl) rfl rfl hC ?_
          refine Q.moveT rfl ?_
          refine WQ.done ?_
          refine WA.take (fuel := 13) 2 rfl (by kernel_rfl) (by kernel_rfl) (by kernel_rfl) (by kernel_rfl) rfl rfl hC ?_
          refine Q.sliceHi (n) h0 Try.underlying22 ti2 rfl rfl (by omega) (by omega) rfl ?_
          intro a29 cc29 hro29
          refine WQ.done ?_
          refine WA.take (fuel := 12) 4 rfl (by kernel_rfl) (by kernel_rfl) (by kernel_rfl) (by kernel_rfl) rfl rfl hC ?_
          refine Q.moveT rfl ?_
          refine WQ.done ?_
          refine WA.take (fuel := 11) 5 rfl (by kernel_rfl) (by kernel_rfl) (by kernel_rfl) (by kernel_rfl) rfl rfl hC ?_
          refine Q.moveT rfl ?_
          refine WQ.done ?_
          refine WA.take (fuel := 10) 6 rfl (by kernel_rfl) (by kernel_rfl) (by kernel_rfl) (by kernel_rfl) rfl rfl hC ?_
          refine Q.sliceLo (n) h0 Try.underlying22 ti2 rfl rfl (by omega) (by omega) rfl ?_
          intro a33 cc33 hro33
          refine WQ.done ?_
          refine WA.two (fuel := 9) 3 13 rfl rfl (by kernel_rfl) rfl ?_ ?_
          ·
            skip
            refine S.call ent9 rfl (h_of hS6002 (by exact hro29) (by exact (fun x hx => hf x (List.mem_of_mem_take hx))) (by rw [List.length_take]; omega)) rfl ?_
            rintro _ w30 ⟨rfl, hS30⟩
            clear hS6002
            refine WS.done ⟨fun _ => hS30, ?_⟩
            replace hC := hS30
            refine WA.two (fuel := 8) 7 13 rfl rfl (by kernel_rfl) rfl ?_ ?_
            ·
              skip
              refine S.call ent9 rfl (h_of hS30 (by exact hro33) (by exact (fun x hx => hf x (List.mem_of_mem_drop hx))) (by rw [List.length_drop]; omega)) rfl ?_
              rintro _ w34 ⟨rfl, hS34⟩
              clear hS30
              refine WS.done ⟨fun _ => hS34, ?_⟩
              replace hC := hS34
              refine WA.two (fuel := 7) 8 13 rfl rfl (by kernel_rfl) rfl ?_ ?_
              ·
                skip
                refine S.buildRowP (n := 65) (vs := [aV _, aV _]) hS34 Try.underlying29 ti26 rfl rfl rfl rfl rfl ?_ rfl ?_
                · intro v hv; simp only [List.mem_cons, List.not_mem_nil, or_false] at hv; first | (rcases hv with rfl | rfl; all_goals (exact (encA_len _).trans (by first | assumption | exact rfl | exact tab_len | exact ofL_len | exact mrg_len | exact mixL_len | exact halfL_len | (rw [List.length_set]; first | assumption | exact ofL_len | exact mixL_len | exact halfL_len)))) | (subst hv; exact (encA_len _).trans (by first | assumption | exact rfl | exact tab_len | exact ofL_len | exact mrg_len | exact mixL_len | exact halfL_len | (rw [List.length_set]; first | assumption | exact ofL_len | exact mixL_len | exact halfL_len)))
                intro b35 w35 hS35; clear hS34
                obtain ⟨R35, hR35, hro35, hSf35⟩ := hS35.keepRow (enc := encA) (n := 65) [ofL (xs.take n), ofL (xs.drop n)] rfl (by intro x hx; rw [encA_len]; simp only [List.mem_cons, List.not_mem_nil, or_false] at hx; first | (rcases hx with rfl | rfl; all_goals (first | assumption | exact rfl | exact tab_len | exact ofL_len | exact mrg_len | exact mixL_len | exact halfL_len)) | (subst hx; first | assumption | exact rfl | exact tab_len | exact ofL_len | exact mrg_len | exact mixL_len | exact halfL_len))
                replace h0 := h0.mono hR35
                replace hro29 := hro29.mono hR35
                replace hro33 := hro33.mono hR35
                refine WS.done ⟨fun _ => (hSf35.weak hR35), ?_⟩
                replace hC := (hSf35.weak hR35)
                refine WA.two (fuel := 6) 9 13 rfl rfl (by kernel_rfl) rfl ?_ ?_
                ·
                  skip
                  refine S.call ent11 rfl (h_merge hSf35 (by exact hro35) (by exact rows_two (ofL_fits (by rw [List.length_take]; omega)) (ofL_fits (by rw [List.length_drop]; omega))) (by simp)) rfl ?_
                  rintro _ w36 ⟨rfl, hS36⟩
                  clear hSf35
                  refine S.as (d := 36) rfl (v' := .tuple #[aV (ofL xs), .int .i64 0]) (by rw [mrg_two (by rw [List.length_take, List.length_drop]; omega), List.take_append_drop]; rfl) ?_
                  refine WS.done ⟨fun _ => (hS36.weak hR35), ?_⟩
                  replace hC := (hS36.weak hR35)
                  refine WA.take (fuel := 5) 10 rfl (by kernel_rfl) (by kernel_rfl) (by kernel_rfl) (by kernel_rfl) rfl rfl hC ?_
                  refine Q.moveT rfl ?_
                  refine WQ.done ?_
                  refine WA.take (fuel := 4) 11 rfl (by kernel_rfl) (by kernel_rfl) (by kernel_rfl) (by kernel_rfl) rfl rfl hC ?_
                  refine Q.extract rfl rfl rfl ?_
                  refine WQ.done ?_
                  refine WA.takeP (fuel := 3) 12 rfl (by kernel_rfl) (by kernel_rfl) (by kernel_rfl) rfl rfl ?_
                  refine Q.extract rfl rfl rfl ?_
                  refine WQ.done ?_
                  refine WA.one (fuel := 2) 13 rfl (by kernel_rfl) rfl ?_
                  refine S.alloc (cs := aI (List.replicate 65 0)) hS36 ti26 rfl rfl ?_
                  intro b5 w5 hS5; clear hS36
                  refine WS.done ⟨fun _ => (hS5.drop.weak hR35), ?_⟩
                  replace hC := (hS5.drop.weak hR35)
                  refine WA.one (fuel := 1) 14 rfl (by kernel_rfl) rfl ?_
                  refine S.storeArr (i := 0) hS5 rfl ti26 (by first | assumption | exact rfl | exact tab_len | exact ofL_len | exact mrg_len | exact mixL_len | exact halfL_len | (rw [List.length_set]; first | assumption | exact ofL_len | exact mixL_len | exact halfL_len)) (by first | assumption | exact rfl | exact tab_len | exact ofL_len | exact mrg_len | exact mixL_len | exact halfL_len | (rw [List.length_set]; first | assumption | exact ofL_len | exact mixL_len | exact halfL_len)) rfl rfl rfl ?_
                  intro w2003 hS2003; clear hS5
                  refine WS.done ⟨fun h => absurd h (by decide), ?_⟩
                  refine WA.one (fuel := 0) 15 rfl (by kernel_rfl) rfl ?_
                  refine S.assignT rfl ?_
                  refine WS.done ⟨fun h => absurd h (by decide), ?_⟩
                  refine WA.done (by kernel_rfl) ?_
                  clear hC
                  exact ⟨_, _, (by exact hR35), rfl, rfl, ⟨rfl, trivial⟩, hS2003⟩
                ·
                  skip
                  refine S.alloc (cs := aI (List.replicate 65 0)) hSf35 ti26 rfl rfl ?_
                  intro b5 w5 hS5; clear hSf35
                  refine WS.done ⟨fun _ => (hS5.drop.weak hR35), ?_⟩
                  replace hC := (hS5.drop.weak hR35)
                  refine WA.one (fuel := 5) 9 rfl (by kernel_rfl) rfl ?_
                  refine S.call ent11 rfl (h_merge hS5 (by exact hro35) (by exact rows_two (ofL_fits (by rw [List.length_take]; omega)) (ofL_fits (by rw [List.length_drop]; omega))) (by simp)) rfl ?_
                  rintro _ w36 ⟨rfl, hS36⟩
                  clear hS5
                  refine S.as (d := 36) rfl (v' := .tuple #[aV (ofL xs), .int .i64 0]) (by rw [mrg_two (by rw [List.length_take, List.length_drop]; omega), List.take_append_drop]; rfl) ?_
                  refine WS.done ⟨fun _ => (hS36.drop.weak hR35), ?_⟩
                  replace hC := (hS36.drop.weak hR35)
                  refine WA.take (fuel := 4) 10 rfl (by kernel_rfl) (by kernel_rfl) (by kernel_rfl) (by kernel_rfl) rfl rfl hC ?_
                  refine Q.moveT rfl ?_
                  refine WQ.done ?_
                  refine WA.take (fuel := 3) 11 rfl (by kernel_rfl) (by kernel_rfl) (by kernel_rfl) (by kernel_rfl) rfl rfl hC ?_
                  refine Q.extract rfl rfl rfl ?_
                  refine WQ.done ?_
                  refine WA.takeP (fuel := 2) 12 rfl (by kernel_rfl) (by kernel_rfl) (by kernel_rfl) rfl rfl ?_
                  refine Q.extract rfl rfl rfl ?_
                  refine WQ.done ?_
                  refine WA.one (fuel := 1) 14 rfl (by kernel_rfl) rfl ?_
                  refine S.storeArr (i := 0) hS36 rfl ti26 (by first | assumption | exact rfl | exact tab_len | exact ofL_len | exact mrg_len | exact mixL_len | exact halfL_len | (rw [List.length_set]; first | assumption | exact ofL_len | exact mixL_len | exact halfL_len)) (by first | assumption | exact rfl | exact tab_len | exact ofL_len | exact mrg_len | exact mixL_len | exact halfL_len | (rw [List.length_set]; first | assumption | exact ofL_len | exact mixL_len | exact halfL_len)) rfl rfl rfl ?_
                  intro w2004 hS2004; clear hS36
                  refine WS.done ⟨fun h => absurd h (by decide), ?_⟩
                  refine WA.one (fuel := 0) 15 rfl (by kernel_rfl) rfl ?_
                  refine S.assignT rfl ?_
                  refine WS.done ⟨fun h => absurd h (by decide), ?_⟩
                  refine WA.done (by kernel_rfl) ?_
                  clear hC
                  exact ⟨_, _, (by exact hR35), rfl, rfl, ⟨rfl, trivial⟩, hS2004⟩
              ·
                skip
                refine S.alloc (cs := aI (List.replicate 65 0)) hS34 ti26 rfl rfl ?_
                intro b5 w5 hS5; clear hS34
                refine WS.done ⟨fun _ => hS5.drop, ?_⟩
                replace hC := hS5.drop
                refine WA.one (fuel := 6) 8 rfl (by kernel_rfl) rfl ?_
                refine S.buildRowP (n := 65) (vs := [aV _, aV _]) hS5 Try.underlying29 ti26 rfl rfl rfl rfl rfl ?_ rfl ?_
                · intro v hv; simp only [List.mem_cons, List.not_mem_nil, or_false] at hv; first | (rcases hv with rfl | rfl; all_goals (exact (encA_len _).trans (by first | assumption | exact rfl | exact tab_len | exact ofL_len | exact mrg_len | exact mixL_len | exact halfL_len | (rw [List.length_set]; first | assumption | exact ofL_len | exact mixL_len | exact halfL_len)))) | (subst hv; exact (encA_len _).trans (by first | assumption | exact rfl | exact tab_len | exact ofL_len | exact mrg_len | exact mixL_len | exact halfL_len | (rw [List.length_set]; first | assumption | exact ofL_len | exact mixL_len | exact halfL_len)))
                intro b35 w35 hS35; clear hS5
                obtain ⟨R35, hR35, hro35, hSf35⟩ := hS35.keepRow (enc := encA) (n := 65) [ofL (xs.take n), ofL (xs.drop n)] rfl (by intro x hx; rw [encA_len]; simp only [List.mem_cons, List.not_mem_nil, or_false] at hx; first | (rcases hx with rfl | rfl; all_goals (first | assumption | exact rfl | exact tab_len | exact ofL_len | exact mrg_len | exact mixL_len | exact halfL_len)) | (subst hx; first | assumption | exact rfl | exact tab_len | exact ofL_len | exact mrg_len | exact mixL_len | exact halfL_len))
                replace h0 := h0.mono hR35
                replace hro29 := hro29.mono hR35
                replace hro33 := hro33.mono hR35
                refine WS.done ⟨fun _ => (hSf35.drop.weak hR35), ?_⟩
                replace hC := (hSf35.drop.weak hR35)
                refine WA.one (fuel := 5) 9 rfl (by kernel_rfl) rfl ?_
                refine S.call ent11 rfl (h_merge hSf35 (by exact hro35) (by exact rows_two (ofL_fits (by rw [List.length_take]; omega)) (ofL_fits (by rw [List.length_drop]; omega))) (by simp)) rfl ?_
                rintro _ w36 ⟨rfl, hS36⟩
                clear hSf35
                refine S.as (d := 36) rfl (v' := .tuple #[aV (ofL xs), .int .i64 0]) (by rw [mrg_two (by rw [List.length_take, List.length_drop]; omega), List.take_append_drop]; rfl) ?_
                refine WS.done ⟨fun _ => (hS36.drop.weak hR35), ?_⟩
                replace hC := (hS36.drop.weak hR35)
                refine WA.take (fuel := 4) 10 rfl (by kernel_rfl) (by kernel_rfl) (by kernel_rfl) (by kernel_rfl) rfl rfl hC ?_
                refine Q.moveT rfl ?_
                refine WQ.done ?_
                refine WA.take (fuel := 3) 11 rfl (by kernel_rfl) (by kernel_rfl) (by kernel_rfl) (by kernel_rfl) rfl rfl hC ?_
                refine Q.extract rfl rfl rfl ?_
                refine WQ.done ?_
                refine WA.takeP (fuel := 2) 12 rfl (by kernel_rfl) (by kernel_rfl) (by kernel_rfl) rfl rfl ?_
                refine Q.extract rfl rfl rfl ?_
                refine WQ.done ?_
                refine WA.one (fuel := 1) 14 rfl (by kernel_rfl) rfl ?_
                refine S.storeArr (i := 0) hS36 rfl ti26 (by first | assumption | exact rfl | exact tab_len | exact ofL_len | exact mrg_len | exact mixL_len | exact halfL_len | (rw [List.length_set]; first | assumption | exact ofL_len | exact mixL_len | exact halfL_len)) (by first | assumption | exact rfl | exact tab_len | exact ofL_len | exact mrg_len | exact mixL_len | exact halfL_len | (rw [List.length_set]; first | assumption | exact ofL_len | exact mixL_len | exact halfL_len)) rfl rfl rfl ?_
                intro w2005 hS2005; clear hS36
                refine WS.done ⟨fun h => absurd h (by decide), ?_⟩
                refine WA.one (fuel := 0) 15 rfl (by kernel_rfl) rfl ?_
                refine S.assignT rfl ?_
                refine WS.done ⟨fun h => absurd h (by decide), ?_⟩
                refine WA.done (by kernel_rfl) ?_
                clear hC
                exact ⟨_, _, (by exact hR35), rfl, rfl, ⟨rfl, trivial⟩, hS2005⟩
            ·
              skip
              refine S.alloc (cs := aI (List.replicate 65 0)) hS30 ti26 rfl rfl ?_
              intro b5 w5 hS5; clear hS30
              refine WS.done ⟨fun _ => hS5.drop, ?_⟩
              replace hC := hS5.drop
              refine WA.one (fuel := 7) 7 rfl (by kernel_rfl) rfl ?_
              refine S.call ent9 rfl (h_of hS5 (by exact hro33) (by exact (fun x hx => hf x (List.mem_of_mem_drop hx))) (by rw [List.length_drop]; omega)) rfl ?_
              rintro _ w34 ⟨rfl, hS34⟩
              clear hS5
              refine WS.done ⟨fun _ => hS34.drop, ?_⟩
              replace hC := hS34.drop
              refine WA.one (fuel := 6) 8 rfl (by kernel_rfl) rfl ?_
              refine S.buildRowP (n := 65) (vs := [aV _, aV _]) hS34 Try.underlying29 ti26 rfl rfl rfl rfl rfl ?_ rfl ?_
              · intro v hv; simp only [List.mem_cons, List.not_mem_nil, or_false] at hv; first | (rcases hv with rfl | rfl; all_goals (exact (encA_len _).trans (by first | assumption | exact rfl | exact tab_len | exact ofL_len | exact mrg_len | exact mixL_len | exact halfL_len | (rw [List.length_set]; first | assumption | exact ofL_len | exact mixL_len | exact halfL_len)))) | (subst hv; exact (encA_len _).trans (by first | assumption | exact rfl | exact tab_len | exact ofL_len | exact mrg_len | exact mixL_len | exact halfL_len | (rw [List.length_set]; first | assumption | exact ofL_len | exact mixL_len | exact halfL_len)))
              intro b35 w35 hS35; clear hS34
              obtain ⟨R35, hR35, hro35, hSf35⟩ := hS35.keepRow (enc := encA) (n := 65) [ofL (xs.take n), ofL (xs.drop n)] rfl (by intro x hx; rw [encA_len]; simp only [List.mem_cons, List.not_mem_nil, or_false] at hx; first | (rcases hx with rfl | rfl; all_goals (first | assumption | exact rfl | exact tab_len | exact ofL_len | exact mrg_len | exact mixL_len | exact halfL_len)) | (subst hx; first | assumption | exact rfl | exact tab_len | exact ofL_len | exact mrg_len | exact mixL_len | exact halfL_len))
              replace h0 := h0.mono hR35
              replace hro29 := hro29.mono hR35
              replace hro33 := hro33.mono hR35
              refine WS.done ⟨fun _ => (hSf35.drop.weak hR35), ?_⟩
              replace hC := (hSf35.drop.weak hR35)
              refine WA.one (fuel := 5) 9 rfl (by kernel_rfl) rfl ?_
              refine S.call ent11 rfl (h_merge hSf35 (by exact hro35) (by exact rows_two (ofL_fits (by rw [List.length_take]; omega)) (ofL_fits (by rw [List.length_drop]; omega))) (by simp)) rfl ?_
              rintro _ w36 ⟨rfl, hS36⟩
              clear hSf35
              refine S.as (d := 36) rfl (v' := .tuple #[aV (ofL xs), .int .i64 0]) (by rw [mrg_two (by rw [List.length_take, List.length_drop]; omega), List.take_append_drop]; rfl) ?_
              refine WS.done ⟨fun _ => (hS36.drop.weak hR35), ?_⟩
              replace hC := (hS36.drop.weak hR35)
              refine WA.take (fuel := 4) 10 rfl (by kernel_rfl) (by kernel_rfl) (by kernel_rfl) (by kernel_rfl) rfl rfl hC ?_
              refine Q.moveT rfl ?_
              refine WQ.done ?_
              refine WA.take (fuel := 3) 11 rfl (by kernel_rfl) (by kernel_rfl) (by kernel_rfl) (by kernel_rfl) rfl rfl hC ?_
              refine Q.extract rfl rfl rfl ?_
              refine WQ.done ?_
              refine WA.takeP (fuel := 2) 12 rfl (by kernel_rfl) (by kernel_rfl) (by kernel_rfl) rfl rfl ?_
              refine Q.extract rfl rfl rfl ?_
              refine WQ.done ?_
              refine WA.one (fuel := 1) 14 rfl (by kernel_rfl) rfl ?_
              refine S.storeArr (i := 0) hS36 rfl ti26 (by first | assumption | exact rfl | exact tab_len | exact ofL_len | exact mrg_len | exact mixL_len | exact halfL_len | (rw [List.length_set]; first | assumption | exact ofL_len | exact mixL_len | exact halfL_len)) (by first | assumption | exact rfl | exact tab_len | exact ofL_len | exact mrg_len | exact mixL_len | exact halfL_len | (rw [List.length_set]; first | assumption | exact ofL_len | exact mixL_len | exact halfL_len)) rfl rfl rfl ?_
              intro w2006 hS2006; clear hS36
              refine WS.done ⟨fun h => absurd h (by decide), ?_⟩
              refine WA.one (fuel := 0) 15 rfl (by kernel_rfl) rfl ?_
              refine S.assignT rfl ?_
              refine WS.done ⟨fun h => absurd h (by decide), ?_⟩
              refine WA.done (by kernel_rfl) ?_
              clear hC
              exact ⟨_, _, (by exact hR35), rfl, rfl, ⟨rfl, trivial⟩, hS2006⟩
          ·
            skip
            refine S.alloc (cs := aI (List.replicate 65 0)) hS6002 ti26 rfl rfl ?_
            intro b5 w5 hS5; clear hS6002
            refine WS.done ⟨fun _ => hS5.drop, ?_⟩
            replace hC := hS5.drop
            refine WA.one (fuel := 8) 3 rfl (by kernel_rfl) rfl ?_
            refine S.call ent9 rfl (h_of hS5 (by exact hro29) (by exact (fun x hx => hf x (List.mem_of_mem_take hx))) (by rw [List.length_take]; omega)) rfl ?_
            rintro _ w30 ⟨rfl, hS30⟩
            clear hS5
            refine WS.done ⟨fun _ => hS30.drop, ?_⟩
            replace hC := hS30.drop
            refine WA.one (fuel := 7) 7 rfl (by kernel_rfl) rfl ?_
            refine S.call ent9 rfl (h_of hS30 (by exact hro33) (by exact (fun x hx => hf x (List.mem_of_mem_drop hx))) (by rw [List.length_drop]; omega)) rfl ?_
            rintro _ w34 ⟨rfl, hS34⟩
            clear hS30
            refine WS.done ⟨fun _ => hS34.drop, ?_⟩
            replace hC := hS34.drop
            refine WA.one (fuel := 6) 8 rfl (by kernel_rfl) rfl ?_
            refine S.buildRowP (n := 65) (vs := [aV _, aV _]) hS34 Try.underlying29 ti26 rfl rfl rfl rfl rfl ?_ rfl ?_
            · intro v hv; simp only [List.mem_cons, List.not_mem_nil, or_false] at hv; first | (rcases hv with rfl | rfl; all_goals (exact (encA_len _).trans (by first | assumption | exact rfl | exact tab_len | exact ofL_len | exact mrg_len | exact mixL_len | exact halfL_len | (rw [List.length_set]; first | assumption | exact ofL_len | exact mixL_len | exact halfL_len)))) | (subst hv; exact (encA_len _).trans (by first | assumption | exact rfl | exact tab_len | exact ofL_len | exact mrg_len | exact mixL_len | exact halfL_len | (rw [List.length_set]; first | assumption | exact ofL_len | exact mixL_len | exact halfL_len)))
            intro b35 w35 hS35; clear hS34
            obtain ⟨R35, hR35, hro35, hSf35⟩ := hS35.keepRow (enc := encA) (n := 65) [ofL (xs.take n), ofL (xs.drop n)] rfl (by intro x hx; rw [encA_len]; simp only [List.mem_cons, List.not_mem_nil, or_false] at hx; first | (rcases hx with rfl | rfl; all_goals (first | assumption | exact rfl | exact tab_len | exact ofL_len | exact mrg_len | exact mixL_len | exact halfL_len)) | (subst hx; first | assumption | exact rfl | exact tab_len | exact ofL_len | exact mrg_len | exact mixL_len | exact halfL_len))
            replace h0 := h0.mono hR35
            replace hro29 := hro29.mono hR35
            replace hro33 := hro33.mono hR35
            refine WS.done ⟨fun _ => (hSf35.drop.weak hR35), ?_⟩
            replace hC := (hSf35.drop.weak hR35)
            refine WA.one (fuel := 5) 9 rfl (by kernel_rfl) rfl ?_
            refine S.call ent11 rfl (h_merge hSf35 (by exact hro35) (by exact rows_two (ofL_fits (by rw [List.length_take]; omega)) (ofL_fits (by rw [List.length_drop]; omega))) (by simp)) rfl ?_
            rintro _ w36 ⟨rfl, hS36⟩
            clear hSf35
            refine S.as (d := 36) rfl (v' := .tuple #[aV (ofL xs), .int .i64 0]) (by rw [mrg_two (by rw [List.length_take, List.length_drop]; omega), List.take_append_drop]; rfl) ?_
            refine WS.done ⟨fun _ => (hS36.drop.weak hR35), ?_⟩
            replace hC := (hS36.drop.weak hR35)
            refine WA.take (fuel := 4) 10 rfl (by kernel_rfl) (by kernel_rfl) (by kernel_rfl) (by kernel_rfl) rfl rfl hC ?_
            refine Q.moveT rfl ?_
            refine WQ.done ?_
            refine WA.take (fuel := 3) 11 rfl (by kernel_rfl) (by kernel_rfl) (by kernel_rfl) (by kernel_rfl) rfl rfl hC ?_
            refine Q.extract rfl rfl rfl ?_
            refine WQ.done ?_
            refine WA.takeP (fuel := 2) 12 rfl (by kernel_rfl) (by kernel_rfl) (by kernel_rfl) rfl rfl ?_
            refine Q.extract rfl rfl rfl ?_
            refine WQ.done ?_
            refine WA.one (fuel := 1) 14 rfl (by kernel_rfl) rfl ?_
            refine S.storeArr (i := 0) hS36 rfl ti26 (by first | assumption | exact rfl | exact tab_len | exact ofL_len | exact mrg_len | exact mixL_len | exact halfL_len | (rw [List.length_set]; first | assumption | exact ofL_len | exact mixL_len | exact halfL_len)) (by first | assumption | exact rfl | exact tab_len | exact ofL_len | exact mrg_len | exact mixL_len | exact halfL_len | (rw [List.length_set]; first | assumption | exact ofL_len | exact mixL_len | exact halfL_len)) rfl rfl rfl ?_
            intro w2007 hS2007; clear hS36
            refine WS.done ⟨fun h => absurd h (by decide), ?_⟩
            refine WA.one (fuel := 0) 15 rfl (by kernel_rfl) rfl ?_
            refine S.assignT rfl ?_
            refine WS.done ⟨fun h => absurd h (by decide), ?_⟩
            refine WA.done (by kernel_rfl) ?_
            clear hC
            exact ⟨_, _, (by exact hR35), rfl, rfl, ⟨rfl, trivial⟩, hS2007⟩
        ·
          skip
          rintro rr w8001 ⟨b5, R5, hR5, hr8001_5, hr8001_6, hA8001, hS8001⟩
          obtain ⟨rr, rfl⟩ := agrBack hA8001
          clear hA8001
          obtain ⟨rr, rfl⟩ := back2 (r := rr) hr8001_5 hr8001_6
          clear hr8001_5 hr8001_6
          clear hS11
          have h0 := h0.mono hR5
          refine WR.seq ?_
          refine WR.region rfl ?_
          refine S.buildZero (cs := aI (List.replicate 65 0)) ti26 rfl (by kernel_rfl) rfl ?_
          refine S.alloc (cs := aI (List.replicate 65 0)) hS8001 ti26 rfl rfl ?_
          intro b7 w7 hS7; clear hS8001
          refine S.storeArr (i := 0) hS7 rfl ti26 (by first | assumption | exact rfl | exact tab_len | exact ofL_len | exact mrg_len | exact mixL_len | exact halfL_len | (rw [List.length_set]; first | assumption | exact ofL_len | exact mixL_len | exact halfL_len)) (by first | assumption | exact rfl | exact tab_len | exact ofL_len | exact mrg_len | exact mixL_len | exact halfL_len | (rw [List.length_set]; first | assumption | exact ofL_len | exact mixL_len | exact halfL_len)) rfl rfl rfl ?_
          intro w2008 hS2008; clear hS7
          refine WS.done ?_
          refine WR.seq ?_
          refine WR.seq ?_
          refine WR.region rfl ?_
          refine S.assignC rfl ?_
          refine WS.done ?_
          refine WR.block ?_
          refine WR.loopE (fun rq mm rr wr => ∃ (i : Nat), mm = xs.length - i ∧ (i ≤ xs.length) ∧ rr 8 = .int .i64 (i : Int) ∧ Agr [0, 5, 6, 7] rr rq ∧ St wr R5 (blk b7 (.cells (aI (ofL (xs.take i))) 26 (0, 0)) :: blk b5 (.cells (aI (ofL xs)) 26 (0, 0)) :: L)) ⟨0, rfl, (by omega), rfl, ⟨rfl, rfl, rfl, rfl, trivial⟩, (by rw [show xs.take 0 = [] from rfl, ofL_nil]; exact hS2008)⟩ ?_
          rintro mm rr w1001 ⟨i, hm1001, hi, hr1001_8, hA1001, hS1001⟩
          obtain ⟨rr, rfl⟩ := agrBack hA1001
          clear hA1001
          obtain ⟨rr, rfl⟩ := back1 (r := rr) hr1001_8
          clear hr1001_8
          refine WR.seq ?_
          refine WR.seq ?_
          refine WR.region rfl ?_
          refine S.moveT rfl ?_
          refine S.moveT rfl ?_
          refine S.lenSl Try.underlying22 rfl rfl ?_
          refine S.lss rfl rfl rfl ?_
          refine WS.done ?_
          refine WR.condD rfl (fun c43 => ?_) (fun c43 => ?_)
          ·
            skip
            refine WR.skip ?_
            refine WR.seq ?_
            refine WR.block ?_
            refine WR.seq ?_
            refine WR.regionW (fun j => Nat.beq j 10 || Nat.beq j 11) 12 rfl mixed hS1001 ?_
            intro w6009 hS6009; clear hS1001; have hC := hS6009
            refine WA.take (fuel := 11) 0 rfl (by kernel_rfl) (by kernel_rfl) (by kernel_rfl) (by kernel_rfl) rfl rfl hC ?_
            refine Q.loadArr (i := 0) rfl Try.underlying26 ti26 (by first | assumption | exact rfl | exact tab_len | exact ofL_len | exact mrg_len | exact mixL_len | exact halfL_len | (rw [List.length_set]; first | assumption | exact ofL_len | exact mixL_len | exact halfL_len)) rfl rfl ?_
            refine WQ.done ?_
            refine WA.take (fuel := 10) 1 rfl (by kernel_rfl) (by kernel_rfl) (by kernel_rfl) (by kernel_rfl) rfl rfl hC ?_
            refine Q.moveT rfl ?_
            refine WQ.done ?_
            refine WA.take (fuel := 9) 2 rfl (by kernel_rfl) (by kernel_rfl) (by kernel_rfl) (by kernel_rfl) rfl rfl hC ?_
            refine Q.moveT rfl ?_
            refine WQ.done ?_
            refine WA.take (fuel := 8) 3 rfl (by kernel_rfl) (by kernel_rfl) (by kernel_rfl) (by kernel_rfl) rfl rfl hC ?_
            refine Q.indexRo h0 Try.underlying22 ti2 rfl rfl (by omega) rfl ?_
            intro ad50 u50 hu50 hl50 hc50
            have hfu := hf u50 (List.mem_of_getElem? hu50)
            refine WQ.done ?_
            refine WA.take (fuel := 7) 4 rfl (by kernel_rfl) (by kernel_rfl) (by kernel_rfl) (by kernel_rfl) rfl rfl hC ?_
            refine Q.loadRo hc50 rfl Try.underlying2 rfl rfl rfl ?_
            refine WQ.done ?_
            refine WA.two (fuel := 6) 5 9 rfl rfl (by kernel_rfl) rfl ?_ ?_
            ·
              skip
              refine S.call ent14 rfl (h_add hS6009 (by exact ofL_len) (by exact ofL_fits (by rw [List.length_take]; omega)) (by exact hfu)) rfl ?_
              rintro _ w52 ⟨rfl, hS52⟩
              clear hS6009
              refine S.as (d := 52) rfl (v' := .tuple #[aV (ofL (xs.take (i + 1))), .int .i64 0]) (by rw [mrg_two (by rw [List.length_take]; simp; omega), take_snoc (getI hu50)]; rfl) ?_
              refine WS.done ⟨fun _ => hS52, ?_⟩
              replace hC := hS52
              refine WA.take (fuel := 5) 6 rfl (by kernel_rfl) (by kernel_rfl) (by kernel_rfl) (by kernel_rfl) rfl rfl hC ?_
              refine Q.moveT rfl ?_
              refine WQ.done ?_
              refine WA.take (fuel := 4) 7 rfl (by kernel_rfl) (by kernel_rfl) (by kernel_rfl) (by kernel_rfl) rfl rfl hC ?_
              refine Q.extract rfl rfl rfl ?_
              refine WQ.done ?_
              refine WA.takeP (fuel := 3) 8 rfl (by kernel_rfl) (by kernel_rfl) (by kernel_rfl) rfl rfl ?_
              refine Q.extract rfl rfl rfl ?_
              refine WQ.done ?_
              refine WA.one (fuel := 2) 9 rfl (by kernel_rfl) rfl ?_
              refine S.alloc (cs := aI (List.replicate 65 0)) hS52 ti26 rfl rfl ?_
              intro b9 w9 hS9; clear hS52
              refine WS.done ⟨fun _ => hS9.drop, ?_⟩
              replace hC := hS9.drop
              refine WA.one (fuel := 1) 10 rfl (by kernel_rfl) rfl ?_
              refine S.storeArr (i := 0) hS9 rfl ti26 (by first | assumption | exact rfl | exact tab_len | exact ofL_len | exact mrg_len | exact mixL_len | exact halfL_len | (rw [List.length_set]; first | assumption | exact ofL_len | exact mixL_len | exact halfL_len)) (by first | assumption | exact rfl | exact tab_len | exact ofL_len | exact mrg_len | exact mixL_len | exact halfL_len | (rw [List.length_set]; first | assumption | exact ofL_len | exact mixL_len | exact halfL_len)) rfl rfl rfl ?_
              intro w2010 hS2010; clear hS9
              refine WS.done ⟨fun h => absurd h (by decide), ?_⟩
              refine WA.one (fuel := 0) 11 rfl (by kernel_rfl) rfl ?_
              refine S.assignT rfl ?_
              refine WS.done ⟨fun h => absurd h (by decide), ?_⟩
              refine WA.done (by kernel_rfl) ?_
              clear hC
              refine WR.seq ?_
              refine WR.seq ?_
              refine WR.region rfl ?_
              refine S.moveT rfl ?_
              refine S.neq rfl rfl rfl ?_
              refine S.isFD (d := 56) rfl (by simp) ?_
              refine WS.done ?_
              refine WR.condF rfl ?_
              refine WR.skip ?_
              refine WR.region rfl ?_
              refine S.loadArr (i := 0) hS2010 rfl Try.underlying26 ti26 (by first | assumption | exact rfl | exact tab_len | exact ofL_len | exact mrg_len | exact mixL_len | exact halfL_len | (rw [List.length_set]; first | assumption | exact ofL_len | exact mixL_len | exact halfL_len)) rfl rfl ?_
              refine S.storeArr (i := 1) hS2010 rfl ti26 (by first | assumption | exact rfl | exact tab_len | exact ofL_len | exact mrg_len | exact mixL_len | exact halfL_len | (rw [List.length_set]; first | assumption | exact ofL_len | exact mixL_len | exact halfL_len)) (by first | assumption | exact rfl | exact tab_len | exact ofL_len | exact mrg_len | exact mixL_len | exact halfL_len | (rw [List.length_set]; first | assumption | exact ofL_len | exact mixL_len | exact halfL_len)) rfl rfl rfl ?_
              intro w2011 hS2011; clear hS2010
              refine WS.done ?_
              refine WR.region rfl ?_
              refine S.moveT rfl ?_
              first
                | refine S.addN rfl rfl rfl (by omega) ?_
                | refine S.add rfl rfl rfl ?_
              refine S.assignT rfl ?_
              refine WS.done ?_
              exact ⟨_, (by omega), ⟨i + 1, rfl, (by omega), rfl, ⟨rfl, rfl, rfl, rfl, trivial⟩, hS2011.drop⟩⟩
            ·
              skip
              refine S.alloc (cs := aI (List.replicate 65 0)) hS6009 ti26 rfl rfl ?_
              intro b9 w9 hS9; clear hS6009
              refine WS.done ⟨fun _ => hS9.drop, ?_⟩
              replace hC := hS9.drop
              refine WA.one (fuel := 5) 5 rfl (by kernel_rfl) rfl ?_
              refine S.call ent14 rfl (h_add hS9 (by exact ofL_len) (by exact ofL_fits (by rw [List.length_take]; omega)) (by exact hfu)) rfl ?_
              rintro _ w52 ⟨rfl, hS52⟩
              clear hS9
              refine S.as (d := 52) rfl (v' := .tuple #[aV (ofL (xs.take (i + 1))), .int .i64 0]) (by rw [mrg_two (by rw [List.length_take]; simp; omega), take_snoc (getI hu50)]; rfl) ?_
              refine WS.done ⟨fun _ => hS52.drop, ?_⟩
              replace hC := hS52.drop
              refine WA.take (fuel := 4) 6 rfl (by kernel_rfl) (by kernel_rfl) (by kernel_rfl) (by kernel_rfl) rfl rfl hC ?_
              refine Q.moveT rfl ?_
              refine WQ.done ?_
              refine WA.take (fuel := 3) 7 rfl (by kernel_rfl) (by kernel_rfl) (by kernel_rfl) (by kernel_rfl) rfl rfl hC ?_
              refine Q.extract rfl rfl rfl ?_
              refine WQ.done ?_
              refine WA.takeP (fuel := 2) 8 rfl (by kernel_rfl) (by kernel_rfl) (by kernel_rfl) rfl rfl ?_
              refine Q.extract rfl rfl rfl ?_
              refine WQ.done ?_
              refine WA.one (fuel := 1) 10 rfl (by kernel_rfl) rfl ?_
              refine S.storeArr (i := 0) hS52 rfl ti26 (by first | assumption | exact rfl | exact tab_len | exact ofL_len | exact mrg_len | exact mixL_len | exact halfL_len | (rw [List.length_set]; first | assumption | exact ofL_len | exact mixL_len | exact halfL_len)) (by first | assumption | exact rfl | exact tab_len | exact ofL_len | exact mrg_len | exact mixL_len | exact halfL_len | (rw [List.length_set]; first | assumption | exact ofL_len | exact mixL_len | exact halfL_len)) rfl rfl rfl ?_
              intro w2012 hS2012; clear hS52
              refine WS.done ⟨fun h => absurd h (by decide), ?_⟩
              refine WA.one (fuel := 0) 11 rfl (by kernel_rfl) rfl ?_
              refine S.assignT rfl ?_
              refine WS.done ⟨fun h => absurd h (by decide), ?_⟩
              refine WA.done (by kernel_rfl) ?_
              clear hC
              refine WR.seq ?_
              refine WR.seq ?_
              refine WR.region rfl ?_
              refine S.moveT rfl ?_
              refine S.neq rfl rfl rfl ?_
              refine S.isFD (d := 56) rfl (by simp) ?_
              refine WS.done ?_
              refine WR.condF rfl ?_
              refine WR.skip ?_
              refine WR.region rfl ?_
              refine S.loadArr (i := 0) hS2012 rfl Try.underlying26 ti26 (by first | assumption | exact rfl | exact tab_len | exact ofL_len | exact mrg_len | exact mixL_len | exact halfL_len | (rw [List.length_set]; first | assumption | exact ofL_len | exact mixL_len | exact halfL_len)) rfl rfl ?_
              refine S.storeArr (i := 1) hS2012 rfl ti26 (by first | assumption | exact rfl | exact tab_len | exact ofL_len | exact mrg_len | exact mixL_len | exact halfL_len | (rw [List.length_set]; first | assumption | exact ofL_len | exact mixL_len | exact halfL_len)) (by first | assumption | exact rfl | exact tab_len | exact ofL_len | exact mrg_len | exact mixL_len | exact halfL_len | (rw [List.length_set]; first | assumption | exact ofL_len | exact mixL_len | exact halfL_len)) rfl rfl rfl ?_
              intro w2013 hS2013; clear hS2012
              refine WS.done ?_
              refine WR.region rfl ?_
              refine S.moveT rfl ?_
              first
                | refine S.addN rfl rfl rfl (by omega) ?_
                | refine S.add rfl rfl rfl ?_
              refine S.assignT rfl ?_
              refine WS.done ?_
              exact ⟨_, (by omega), ⟨i + 1, rfl, (by omega), rfl, ⟨rfl, rfl, rfl, rfl, trivial⟩, hS2013.drop⟩⟩
          ·
            skip
            refine WR.exit ?_
            refine WR.seq ?_
            refine WR.regionW (fun j => false) 22 rfl mixed hS1001 ?_
            intro w6014 hS6014; clear hS1001; have hC := hS6014
            refine WA.take (fuel := 21) 0 rfl (by kernel_rfl) (by kernel_rfl) (by kernel_rfl) (by kernel_rfl) rfl rfl hC ?_
            refine Q.moveT rfl ?_
            refine WQ.done ?_
            refine WA.take (fuel := 20) 1 rfl (by kernel_rfl) (by kernel_rfl) (by kernel_rfl) (by kernel_rfl) rfl rfl hC ?_
            refine Q.eql rfl rfl rfl ?_
            refine Q.isTD (d := 59) rfl (by rfl) ?_
            refine WQ.done ?_
            refine WA.take (fuel := 19) 2 rfl (by kernel_rfl) (by kernel_rfl) (by kernel_rfl) (by kernel_rfl) rfl rfl hC ?_
            refine Q.moveT rfl ?_
            refine WQ.done ?_
            refine WA.take (fuel := 18) 3 rfl (by kernel_rfl) (by kernel_rfl) (by kernel_rfl) (by kernel_rfl) rfl rfl hC ?_
            refine Q.loadArr (i := 1) rfl Try.underlying26 ti26 (by first | assumption | exact rfl | exact tab_len | exact ofL_len | exact mrg_len | exact mixL_len | exact halfL_len | (rw [List.length_set]; first | assumption | exact ofL_len | exact mixL_len | exact halfL_len)) rfl rfl ?_
            refine WQ.done ?_
            refine WA.take (fuel := 17) 4 rfl (by kernel_rfl) (by kernel_rfl) (by kernel_rfl) (by kernel_rfl) rfl rfl hC ?_
            refine Q.moveT rfl ?_
            refine WQ.done ?_
            refine WA.one (fuel := 16) 5 rfl (by kernel_rfl) rfl ?_
            refine S.call ent9 rfl (h_of hS6014 (by exact h0) (by exact hf) (by omega)) rfl ?_
            rintro _ w63 ⟨rfl, hS63⟩
            clear hS6014
            refine WS.done ⟨fun _ => hS63, ?_⟩
            replace hC := hS63
            refine WA.take (fuel := 15) 6 rfl (by kernel_rfl) (by kernel_rfl) (by kernel_rfl) (by kernel_rfl) rfl rfl hC ?_
            refine Q.eqlS rfl rfl (by kernel_rfl) (Eq1.arrT Try.underlying26 ti2 Try.underlying2 (by first | assumption | exact rfl | exact tab_len | exact ofL_len | exact mrg_len | exact mixL_len | exact halfL_len | (rw [List.length_set]; first | assumption | exact ofL_len | exact mixL_len | exact halfL_len)) (by first | assumption | exact rfl | exact tab_len | exact ofL_len | exact mrg_len | exact mixL_len | exact halfL_len | (rw [List.length_set]; first | assumption | exact ofL_len | exact mixL_len | exact halfL_len))) rfl ?_
            refine Q.isTD (d := 64) rfl (by rfl) ?_
            refine WQ.done ?_
            refine WA.take (fuel := 14) 7 rfl (by kernel_rfl) (by kernel_rfl) (by kernel_rfl) (by kernel_rfl) rfl rfl hC ?_
            refine Q.pickT rfl rfl ?_
            refine WQ.done ?_
            refine WA.take (fuel := 13) 8 rfl (by kernel_rfl) (by kernel_rfl) (by kernel_rfl) (by kernel_rfl) rfl rfl hC ?_
            refine Q.moveT rfl ?_
            refine WQ.done ?_
            refine WA.take (fuel := 12) 9 rfl (by kernel_rfl) (by kernel_rfl) (by kernel_rfl) (by kernel_rfl) rfl rfl hC ?_
            refine Q.loadArr (i := 1) rfl Try.underlying26 ti26 (by first | assumption | exact rfl | exact tab_len | exact ofL_len | exact mrg_len | exact mixL_len | exact halfL_len | (rw [List.length_set]; first | assumption | exact ofL_len | exact mixL_len | exact halfL_len)) rfl rfl ?_
            refine WQ.done ?_
            refine WA.take (fuel := 11) 10 rfl (by kernel_rfl) (by kernel_rfl) (by kernel_rfl) (by kernel_rfl) rfl rfl hC ?_
            refine Q.loadArr (i := 0) rfl Try.underlying26 ti26 (by first | assumption | exact rfl | exact tab_len | exact ofL_len | exact mrg_len | exact mixL_len | exact halfL_len | (rw [List.length_set]; first | assumption | exact ofL_len | exact mixL_len | exact halfL_len)) rfl rfl ?_
            refine WQ.done ?_
            refine WA.take (fuel := 10) 11 rfl (by kernel_rfl) (by kernel_rfl) (by kernel_rfl) (by kernel_rfl) rfl rfl hC ?_
            refine Q.eqlS rfl rfl (by kernel_rfl) (Eq1.arrT Try.underlying26 ti2 Try.underlying2 (by first | assumption | exact rfl | exact tab_len | exact ofL_len | exact mrg_len | exact mixL_len | exact halfL_len | (rw [List.length_set]; first | assumption | exact ofL_len | exact mixL_len | exact halfL_len)) (by first | assumption | exact rfl | exact tab_len | exact ofL_len | exact mrg_len | exact mixL_len | exact halfL_len | (rw [List.length_set]; first | assumption | exact ofL_len | exact mixL_len | exact halfL_len))) rfl ?_
            refine Q.isTD (d := 69) rfl (by rw [List.take_of_length_le (by omega)]) ?_
            refine WQ.done ?_
            refine WA.take (fuel := 9) 12 rfl (by kernel_rfl) (by kernel_rfl) (by kernel_rfl) (by kernel_rfl) rfl rfl hC ?_
            refine Q.pickT rfl rfl ?_
            refine WQ.done ?_
            refine WA.take (fuel := 8) 13 rfl (by kernel_rfl) (by kernel_rfl) (by kernel_rfl) (by kernel_rfl) rfl rfl hC ?_
            refine Q.moveT rfl ?_
            refine WQ.done ?_
            refine WA.take (fuel := 7) 14 rfl (by kernel_rfl) (by kernel_rfl) (by kernel_rfl) (by kernel_rfl) rfl rfl hC ?_
            refine Q.loadArr (i := 1) rfl Try.underlying26 ti26 (by first | assumption | exact rfl | exact tab_len | exact ofL_len | exact mrg_len | exact mixL_len | exact halfL_len | (rw [List.length_set]; first | assumption | exact ofL_len | exact mixL_len | exact halfL_len)) rfl rfl ?_
            refine WQ.done ?_
            refine WA.take (fuel := 6) 16 rfl (by kernel_rfl) (by kernel_rfl) (by kernel_rfl) (by kernel_rfl) rfl rfl hC ?_
            refine Q.moveT rfl ?_
            refine WQ.done ?_
            refine WA.two (fuel := 5) 15 17 rfl rfl (by kernel_rfl) rfl ?_ ?_
            ·
              skip
              refine S.call ent18 rfl (h_total hS63 (by exact ofL_len) (by exact ofL_fits hm)) rfl ?_
              rintro _ w73 ⟨rfl, hS73⟩
              clear hS63
              refine WS.done ⟨fun _ => hS73, ?_⟩
              replace hC := hS73
              refine WA.one (fuel := 4) 17 rfl (by kernel_rfl) rfl ?_
              refine S.lenSl Try.underlying22 rfl rfl ?_
              refine WS.done ⟨fun _ => hS73, ?_⟩
              replace hC := hS73
              refine WA.one (fuel := 3) 18 rfl (by kernel_rfl) rfl ?_
              refine S.call ent22 rfl (w_of hS73 (by unfold fits; omega)) rfl ?_
              rintro _ w76 ⟨rfl, hS76⟩
              clear hS73
              refine WS.done ⟨fun _ => hS76, ?_⟩
              replace hC := hS76
              refine WA.take (fuel := 2) 19 rfl (by kernel_rfl) (by kernel_rfl) (by kernel_rfl) (by kernel_rfl) rfl rfl hC ?_
              refine Q.eqlS rfl rfl (by kernel_rfl) (Eq1.struct Try.underlying40 (by kernel_rfl) (EqF.cons (by decide) (Part1.one Try.underlying2 rfl rfl) (Part1.one Try.underlying2 rfl rfl) (Eq1.int Try.underlying2) (EqF.one (by decide) (Part1.one Try.underlying38 rfl rfl) (Part1.one Try.underlying38 rfl rfl) (Eq1.int Try.underlying38)))) rfl ?_
              refine Q.isTD (d := 77) rfl (by rw [ofL_sum hf]; exact ⟨rfl, rfl⟩) ?_
              refine WQ.done ?_
              refine WA.take (fuel := 1) 20 rfl (by kernel_rfl) (by kernel_rfl) (by kernel_rfl) (by kernel_rfl) rfl rfl hC ?_
              refine Q.pickT rfl rfl ?_
              refine WQ.done ?_
              refine WA.take (fuel := 0) 21 rfl (by kernel_rfl) (by kernel_rfl) (by kernel_rfl) (by kernel_rfl) rfl rfl hC ?_
              refine Q.assignT rfl ?_
              refine WQ.done ?_
              refine WA.done (by kernel_rfl) ?_
              clear hC
              refine WR.ret (ret1 rfl rfl ?_)
              first | exact ⟨rfl, hS76⟩ | exact ⟨rfl, hS76.drop.drop.weak hR5⟩
            ·
              skip
              refine S.lenSl Try.underlying22 rfl rfl ?_
              refine WS.done ⟨fun _ => hS63, ?_⟩
              replace hC := hS63
              refine WA.one (fuel := 4) 15 rfl (by kernel_rfl) rfl ?_
              refine S.call ent18 rfl (h_total hS63 (by exact ofL_len) (by exact ofL_fits hm)) rfl ?_
              rintro _ w73 ⟨rfl, hS73⟩
              clear hS63
              refine WS.done ⟨fun _ => hS73, ?_⟩
              replace hC := hS73
              refine WA.one (fuel := 3) 18 rfl (by kernel_rfl) rfl ?_
              refine S.call ent22 rfl (w_of hS73 (by unfold fits; omega)) rfl ?_
              rintro _ w76 ⟨rfl, hS76⟩
              clear hS73
              refine WS.done ⟨fun _ => hS76, ?_⟩
              replace hC := hS76
              refine WA.take (fuel := 2) 19 rfl (by kernel_rfl) (by kernel_rfl) (by kernel_rfl) (by kernel_rfl) rfl rfl hC ?_
              refine Q.eqlS rfl rfl (by kernel_rfl) (Eq1.struct Try.underlying40 (by kernel_rfl) (EqF.cons (by decide) (Part1.one Try.underlying2 rfl rfl) (Part1.one Try.underlying2 rfl rfl) (Eq1.int Try.underlying2) (EqF.one (by decide) (Part1.one Try.underlying38 rfl rfl) (Part1.one Try.underlying38 rfl rfl) (Eq1.int Try.underlying38)))) rfl ?_
              refine Q.isTD (d := 77) rfl (by rw [ofL_sum hf]; exact ⟨rfl, rfl⟩) ?_
              refine WQ.done ?_
              refine WA.take (fuel := 1) 20 rfl (by kernel_rfl) (by kernel_rfl) (by kernel_rfl) (by kernel_rfl) rfl rfl hC ?_
              refine Q.pickT rfl rfl ?_
              refine WQ.done ?_
              refine WA.take (fuel := 0) 21 rfl (by kernel_rfl) (by kernel_rfl) (by kernel_rfl) (by kernel_rfl) rfl rfl hC ?_
              refine Q.assignT rfl ?_
              refine WQ.done ?_
              refine WA.done (by kernel_rfl) ?_
              clear hC
              refine WR.ret (ret1 rfl rfl ?_)
              first | exact ⟨rfl, hS76⟩ | exact ⟨rfl, hS76.drop.drop.weak hR5⟩


end Go.Proofs.Ytmmdbincgianaaa.B

import Derived.Test.YtnfideifgegijaaWalkE
namespace Go.Proofs.Ytnfideifgegijaa.B
open Go.Proofs Go.RowKit
set_option linter.unusedVariables false
set_option linter.unusedSimpArgs false
theorem pv_small {ds : List Int} (hl : ds.length ≤ 40) (hd : digits ds) : 0 ≤ pv ds ∧ pv ds < 10000000000000000000000000000000000000000 := by
  have h := pv_bound _ ds rfl hd
  have h2 : (10 : Int) ^ ds.length ≤ 10 ^ 40 := by
    have h3 : (10 : Nat) ^ ds.length ≤ 10 ^ 40 := Nat.pow_le_pow_right (by decide) hl
    exact_mod_cast h3
  have h4 : (10 : Int) ^ 40 = 10000000000000000000000000000000000000000 := by decide
  omega
theorem str_at {s : ByteArray} (h : 0 < (s.size : Int)) : ∃ u, (sB s)[0]? = some u := ⟨_, List.getElem?_eq_getElem (by rw [sB_len]; omega)⟩
theorem str_ne {s : ByteArray} (h : ¬ s = ⟨#[]⟩) : ∃ u, (sB s)[0]? = some u := by
  have := sB_len s
  match hq : sB s with
  | [] => exact absurd (sB_nil hq) h
  | a :: l => exact ⟨a, rfl⟩
theorem head_of {xs : List Int} {u : Int} (h : xs[0]? = some u) : xs.head? = some u := by rw [List.head?_eq_getElem?]; exact h
theorem str_sign {s : ByteArray} {u : Int} (h : (sB s)[0]? = some u) : (decide (u = 45) = true ∧ (sB s).head? = some 45) ∨ (decide (u = 45) = false ∧ (sB s).head? ≠ some 45) := by
  rw [head_of h]
  by_cases hu : u = 45
  · subst hu; exact .inl ⟨rfl, rfl⟩
  · exact .inr ⟨decide_eq_false hu, fun e => hu (by injection e)⟩
theorem str_none {s : ByteArray} (h : ¬ 0 < (s.size : Int)) : (sB s).head? ≠ some 45 := by
  have := sB_len s
  rw [List.eq_nil_of_length_eq_zero (show (sB s).length = 0 by omega)]
  simp
theorem sgn_t {s : ByteArray} {ng : Bool} (h : (ng = true ∧ (sB s).head? = some 45) ∨ (ng = false ∧ (sB s).head? ≠ some 45)) (hg : ng = true) : (sB s).head? = some 45 := by
  rcases h with ⟨_, h⟩ | ⟨h, _⟩
  · exact h
  · rw [h] at hg; cases hg
theorem sgn_f {s : ByteArray} {ng : Bool} (h : (ng = true ∧ (sB s).head? = some 45) ∨ (ng = false ∧ (sB s).head? ≠ some 45)) (hg : ng = false) : (sB s).head? ≠ some 45 := by
  rcases h with ⟨h, _⟩ | ⟨_, h⟩
  · rw [h] at hg; cases hg
  · exact h
theorem head_size {s : ByteArray} (h : (sB s).head? = some 45) : 1 ≤ s.size := by
  have := sB_len s
  match hq : sB s, h with
  | a :: l, _ => rw [hq, List.length_cons] at this; omega
theorem gd_nil {t : ByteArray} {ng : Bool} (h : t = ⟨#[]⟩) : ¬ gdL ng (sB t) := fun k => k.1 (by rw [h]; rfl)
theorem gd_long {t : ByteArray} {ng : Bool} (h : 40 < (t.size : Int)) : ¬ gdL ng (sB t) := fun k => by have := k.2.1; rw [sB_len] at this; omega
theorem gd_zero {t : ByteArray} {ng : Bool} {u : Int} (hu : (sB t)[0]? = some u) (h : u = 48) (h1 : 1 < (t.size : Int)) : ¬ gdL ng (sB t) := fun k => by
  subst h
  have := (k.2.2 (head_of hu)).1
  rw [sB_len] at this; omega
theorem str_pos {t : ByteArray} {u : Int} (hu : (sB t)[0]? = some u) : sB t ≠ [] := fun e => by rw [e] at hu; cases hu
theorem gd_one {t : ByteArray} {ng : Bool} {u : Int} (hu : (sB t)[0]? = some u) (h : u = 48) (h1 : ¬ 1 < (t.size : Int)) : (ng = true ∧ ¬ gdL ng (sB t)) ∨ (ng = false ∧ gdL ng (sB t)) := by
  subst h
  have hl := sB_len t
  cases ng with
  | true => exact .inl ⟨rfl, fun k => by have := (k.2.2 (head_of hu)).2; cases this⟩
  | false => exact .inr ⟨rfl, str_pos hu, by omega, fun _ => ⟨by omega, rfl⟩⟩
theorem gd_ok {t : ByteArray} {ng : Bool} {u : Int} (hu : (sB t)[0]? = some u) (h : ¬ u = 48) (h1 : ¬ 40 < (t.size : Int)) : gdL ng (sB t) := by
  have hl := sB_len t
  exact ⟨str_pos hu, by omega, fun q => absurd (by rw [head_of hu] at q; injection q) h⟩
set_option maxRecDepth 100000 in
set_option maxHeartbeats 4000000 in
theorem r2_parse {w : World} {R : Kn} {L : List HP}  (hS : St w R (L)) {s : ByteArray} (hs : s.size ≤ 1000000) :
    Fn Try.prog 28 #[.string s] w (fun v w' => ∃ R' v1 z b, R.le R' ∧ v = .tuple #[v1, .bool b] ∧ NumR R' v1 z ∧ (z.natAbs : Int) < 10000000000000000000000000000000000000000 ∧ ((b = true ∧ rprs (sB s) = some z) ∨ (b = false ∧ rprs (sB s) = none ∧ z = 0)) ∧ St w' R' L) := by
  refine Fn.intro (n := 71) Try.func28 rfl rfl rfl ?_
  refine WR.seq ?_
  refine WR.region rfl ?_
  refine S.alloc hS ti34 rfl rfl ?_
  intro b2 w2 hS2; clear hS
  refine S.assignC rfl ?_
  refine WS.done ?_
  refine WR.seq ?_
  refine WR.region rfl ?_
  refine S.buildZero ti34 rfl (by kernel_rfl) rfl ?_
  refine S.alloc hS2 ti34 rfl rfl ?_
  intro b4 w4 hS4; clear hS2
  refine S.storeB (i := 0) hS4 rfl ti34 rfl rfl rfl rfl rfl rfl rfl rfl ?_
  intro w2001 hS2001; clear hS4
  refine WS.done ?_
  refine WR.cutE (J := fun rq rr wr => ∃ (ng : Bool), ((ng = true ∧ (sB s).head? = some 45) ∨ (ng = false ∧ (sB s).head? ≠ some 45)) ∧ rr 5 = .bool ng ∧ Agr [0, 2, 4] rr rq ∧ St wr R (blk b4 (.cells (#[.bool false, .slice none 0 0]) 34 (0, 0)) :: blk b2 (.cells (#[.bool false, .slice none 0 0]) 34 (0, 0)) :: L)) ?_ ?_
  ·
    skip
    refine WR.region rfl ?_
    refine S.moveT rfl ?_
    refine S.lenStr Try.underlying9 rfl rfl ?_
    refine S.gtr rfl rfl rfl ?_
    refine S.moveT rfl ?_
    refine S.splitD (d := 11) rfl (fun c11 => ?_) (fun c11 => ?_)
    ·
      skip
      refine S.moveT rfl ?_
      obtain ⟨u0, hu0⟩ := str_at (s := s) (by omega)
      refine S.indexB Try.underlying9 rfl rfl (by omega) hu0 rfl ?_
      refine S.eql rfl rfl rfl ?_
      refine S.pickT rfl rfl ?_
      refine S.assignT rfl ?_
      refine WS.done ?_
      exact ⟨_, (by first | exact str_sign hu0 | exact .inr ⟨rfl, str_none (by omega)⟩), rfl, ⟨rfl, rfl, rfl, trivial⟩, hS2001⟩
    ·
      skip
      refine S.off rfl ?_
      refine S.off rfl ?_
      refine S.off rfl ?_
      refine S.pickFC rfl rfl ?_
      refine S.assignT rfl ?_
      refine WS.done ?_
      exact ⟨_, (by first | exact str_sign hu0 | exact .inr ⟨rfl, str_none (by omega)⟩), rfl, ⟨rfl, rfl, rfl, trivial⟩, hS2001⟩
  ·
    skip
    rintro rr w8002 ⟨ng, hng, hr8002_5, hA8002, hS8002⟩
    obtain ⟨rr, rfl⟩ := agrBack hA8002
    clear hA8002
    obtain ⟨rr, rfl⟩ := back1 (r := rr) hr8002_5
    clear hr8002_5
    clear hS2001
    refine WR.cutE (J := fun rq rr wr => ∃ (t : ByteArray), (Cutd s t ng) ∧ rr 0 = .string t ∧ Agr [2, 4, 5] rr rq ∧ St wr R (blk b4 (.cells (#[.bool false, .slice none 0 0]) 34 (0, 0)) :: blk b2 (.cells (#[.bool false, .slice none 0 0]) 34 (0, 0)) :: L)) ?_ ?_
    ·
      skip
      refine WR.seq ?_
      refine WR.region rfl ?_
      refine S.moveT rfl ?_
      refine WS.done ?_
      refine WR.cond rfl (fun c16 => ?_) (fun c16 => ?_)
      ·
        skip
        have hsz := head_size (sgn_t hng c16)
        refine WR.region rfl ?_
        refine S.moveT rfl ?_
        refine S.strLo Try.underlying9 rfl rfl (by omega) rfl ?_
        refine S.assignT rfl ?_
        refine WS.done ?_
        exact ⟨_, (by first | exact .inl ⟨c16, head_cons (sgn_t hng c16)⟩ | exact .inr ⟨c16, sgn_f hng c16, rfl⟩), rfl, ⟨rfl, rfl, rfl, trivial⟩, hS8002⟩
      ·
        skip
        refine WR.skip ?_
        exact ⟨_, (by first | exact .inl ⟨c16, head_cons (sgn_t hng c16)⟩ | exact .inr ⟨c16, sgn_f hng c16, rfl⟩), rfl, ⟨rfl, rfl, rfl, trivial⟩, hS8002⟩
    ·
      skip
      rintro rr w8003 ⟨t, hC, hr8003_0, hA8003, hS8003⟩
      obtain ⟨rr, rfl⟩ := agrBack hA8003
      clear hA8003
      obtain ⟨rr, rfl⟩ := back1 (r := rr) hr8003_0
      clear hr8003_0
      clear hS8002
      have hts := hC.size
      refine WR.seq ?_
      refine WR.cutE (J := fun rq rr wr => ∃ (bd : Bool), ((bd = true ∧ ¬ gdL ng (sB t)) ∨ (bd = false ∧ gdL ng (sB t))) ∧ rr 38 = .bool bd ∧ Agr [0, 2, 4, 5] rr rq ∧ St wr R (blk b4 (.cells (#[.bool false, .slice none 0 0]) 34 (0, 0)) :: blk b2 (.cells (#[.bool false, .slice none 0 0]) 34 (0, 0)) :: L)) ?_ ?_
      ·
        skip
        refine WR.region rfl ?_
        refine S.moveT rfl ?_
        refine S.eqlStr rfl rfl rfl ?_
        refine S.moveT rfl ?_
        refine S.splitD (d := 21) rfl (fun c21 => ?_) (fun c21 => ?_)
        ·
          skip
          refine S.off rfl ?_
          refine S.off rfl ?_
          refine S.off rfl ?_
          refine S.pickTC rfl rfl ?_
          refine S.moveT rfl ?_
          refine S.off rfl ?_
          refine S.off rfl ?_
          refine S.off rfl ?_
          refine S.off rfl ?_
          refine S.off rfl ?_
          refine S.off rfl ?_
          refine S.off rfl ?_
          refine S.off rfl ?_
          refine S.off rfl ?_
          refine S.off rfl ?_
          refine S.off rfl ?_
          refine S.pickTC rfl rfl ?_
          refine WS.done ?_
          exact ⟨_, (by first | exact .inl ⟨rfl, gd_nil c21⟩ | exact .inl ⟨rfl, gd_long (by omega)⟩ | exact .inl ⟨rfl, gd_zero hu0 c30 (by omega)⟩ | exact gd_one hu0 c30 (by omega) | exact .inr ⟨rfl, gd_ok hu0 c30 (by omega)⟩), rfl, ⟨rfl, rfl, rfl, rfl, trivial⟩, hS8003⟩
        ·
          skip
          refine S.moveT rfl ?_
          refine S.lenStr Try.underlying9 rfl rfl ?_
          refine S.gtr rfl rfl rfl ?_
          refine S.pickF rfl rfl ?_
          refine S.moveT rfl ?_
          refine S.splitD (d := 26) rfl (fun c26 => ?_) (fun c26 => ?_)
          ·
            skip
            refine S.off rfl ?_
            refine S.off rfl ?_
            refine S.off rfl ?_
            refine S.off rfl ?_
            refine S.off rfl ?_
            refine S.off rfl ?_
            refine S.off rfl ?_
            refine S.off rfl ?_
            refine S.off rfl ?_
            refine S.off rfl ?_
            refine S.off rfl ?_
            refine S.pickTC rfl rfl ?_
            refine WS.done ?_
            exact ⟨_, (by first | exact .inl ⟨rfl, gd_nil c21⟩ | exact .inl ⟨rfl, gd_long (by omega)⟩ | exact .inl ⟨rfl, gd_zero hu0 c30 (by omega)⟩ | exact gd_one hu0 c30 (by omega) | exact .inr ⟨rfl, gd_ok hu0 c30 (by omega)⟩), rfl, ⟨rfl, rfl, rfl, rfl, trivial⟩, hS8003⟩
          ·
            skip
            refine S.moveT rfl ?_
            obtain ⟨u0, hu0⟩ := str_ne c21
            refine S.indexB Try.underlying9 rfl rfl (by omega) hu0 rfl ?_
            refine S.eql rfl rfl rfl ?_
            refine S.moveT rfl ?_
            refine S.splitD (d := 30) rfl (fun c30 => ?_) (fun c30 => ?_)
            ·
              skip
              refine S.moveT rfl ?_
              refine S.lenStr Try.underlying9 rfl rfl ?_
              refine S.gtr rfl rfl rfl ?_
              refine S.moveT rfl ?_
              refine S.splitD (d := 34) rfl (fun c34 => ?_) (fun c34 => ?_)
              ·
                skip
                refine S.off rfl ?_
                refine S.pickTC rfl rfl ?_
                refine S.pickT rfl rfl ?_
                refine S.pickF rfl rfl ?_
                refine WS.done ?_
                exact ⟨_, (by first | exact .inl ⟨rfl, gd_nil c21⟩ | exact .inl ⟨rfl, gd_long (by omega)⟩ | exact .inl ⟨rfl, gd_zero hu0 c30 (by omega)⟩ | exact gd_one hu0 c30 (by omega) | exact .inr ⟨rfl, gd_ok hu0 c30 (by omega)⟩), rfl, ⟨rfl, rfl, rfl, rfl, trivial⟩, hS8003⟩
              ·
                skip
                refine S.moveT rfl ?_
                refine S.pickF rfl rfl ?_
                refine S.pickT rfl rfl ?_
                refine S.pickF rfl rfl ?_
                refine WS.done ?_
                exact ⟨_, (by first | exact .inl ⟨rfl, gd_nil c21⟩ | exact .inl ⟨rfl, gd_long (by omega)⟩ | exact .inl ⟨rfl, gd_zero hu0 c30 (by omega)⟩ | exact gd_one hu0 c30 (by omega) | exact .inr ⟨rfl, gd_ok hu0 c30 (by omega)⟩), rfl, ⟨rfl, rfl, rfl, rfl, trivial⟩, hS8003⟩
            ·
              skip
              refine S.off rfl ?_
              refine S.off rfl ?_
              refine S.off rfl ?_
              refine S.off rfl ?_
              refine S.off rfl ?_
              refine S.off rfl ?_
              refine S.pickFC rfl rfl ?_
              refine S.pickF rfl rfl ?_
              refine WS.done ?_
              exact ⟨_, (by first | exact .inl ⟨rfl, gd_nil c21⟩ | exact .inl ⟨rfl, gd_long (by omega)⟩ | exact .inl ⟨rfl, gd_zero hu0 c30 (by omega)⟩ | exact gd_one hu0 c30 (by omega) | exact .inr ⟨rfl, gd_ok hu0 c30 (by omega)⟩), rfl, ⟨rfl, rfl, rfl, rfl, trivial⟩, hS8003⟩
      ·
        skip
        rintro rr w8004 ⟨bd, hbd, hr8004_38, hA8004, hS8004⟩
        obtain ⟨rr, rfl⟩ := agrBack hA8004
        clear hA8004
        obtain ⟨rr, rfl⟩ := back1 (r := rr) hr8004_38
        clear hr8004_38
        clear hS8003
        refine WR.cond rfl (fun c38 => ?_) (fun c38 => ?_)
        ·
          skip
          refine WR.seq ?_
          refine WR.region rfl ?_
          refine S.loadBA (i := 0) hS8004 rfl Try.underlying34 rfl ti34 rfl rfl rfl rfl ?_
          refine S.storeB (i := 1) hS8004 rfl ti34 rfl rfl rfl rfl rfl rfl rfl rfl ?_
          intro w2005 hS2005; clear hS8004
          refine S.assignC rfl ?_
          refine WS.done ?_
          refine WR.ret (retC1 rfl rfl (run_loadBA (i := 1) hS2005 rfl Try.underlying34 rfl ti34 rfl rfl) rfl ?_)
          have hng2 : ¬ gdL ng (sB t) := by
            rcases hbd with ⟨_, k⟩ | ⟨k, _⟩
            · exact k
            · rw [k] at c38; cases c38
          exact ⟨_, _, 0, false, Kn.le.refl _, rfl, NumR.zero, by decide, .inr ⟨rfl, by rw [hC.rprs]; exact rprsB_bad hng2, rfl⟩, hS2005.drop.drop⟩
        ·
          skip
          refine WR.skip ?_
          refine WR.seq ?_
          refine WR.seq ?_
          have hg : gdL ng (sB t) := by
            rcases hbd with ⟨k, _⟩ | ⟨_, k⟩
            · rw [k] at c38; cases c38
            · exact k
          have hgl := hg.2.1
          have htl := sB_len t
          refine WR.region rfl ?_
          refine S.assignC rfl ?_
          refine WS.done ?_
          refine WR.block ?_
          refine WR.loopE (fun rq mm rr wr => ∃ (i : Nat) (R2 : Kn) (nk : Bool) (ac : Option Addr) (al acp : Nat), mm = t.size - i ∧ (i ≤ t.size ∧ R.le R2 ∧ NumR R2 (.agg #[.bool nk, .slice ac al acp]) (pv ((sB t).take i)) ∧ digits ((sB t).take i)) ∧ rr 6 = .int .i64 (i : Int) ∧ Agr [0, 2, 4, 5] rr rq ∧ St wr R2 (blk b4 (.cells (#[.bool nk, .slice ac al acp]) 34 (0, 0)) :: blk b2 (.cells (#[.bool false, .slice none 0 0]) 34 (0, 0)) :: L)) ⟨0, R, _, _, _, _, rfl, (by exact ⟨by omega, Kn.le.refl _, NumR.zero, fun d h => by simp at h⟩), rfl, ⟨rfl, rfl, rfl, rfl, trivial⟩, hS8004⟩ ?_
          rintro mm rr w1001 ⟨i, R2, nk, ac, al, acp, hm1001, ⟨hi, hR2, hacc, hdg⟩, hr1001_6, hA1001, hS1001⟩
          obtain ⟨rr, rfl⟩ := agrBack hA1001
          clear hA1001
          obtain ⟨rr, rfl⟩ := back1 (r := rr) hr1001_6
          clear hr1001_6
          have hpb := pv_small (ds := (sB t).take i) (by rw [List.length_take]; omega) hdg
          refine WR.seq ?_
          refine WR.seq ?_
          refine WR.region rfl ?_
          refine S.moveT rfl ?_
          refine S.moveT rfl ?_
          refine S.lenStr Try.underlying9 rfl rfl ?_
          refine S.lss rfl rfl rfl ?_
          refine WS.done ?_
          refine WR.condD rfl (fun c43 => ?_) (fun c43 => ?_)
          ·
            skip
            refine WR.skip ?_
            refine WR.seq ?_
            refine WR.block ?_
            refine WR.seq ?_
            refine WR.seq ?_
            obtain ⟨u, hu⟩ : ∃ u, (sB t)[i]? = some u := ⟨_, List.getElem?_eq_getElem (by omega)⟩
            have hui : (sB t)[((i : Int)).toNat]? = some u := by rw [show ((i : Int)).toNat = i by omega]; exact hu
            have hub := sB_byte t u (List.mem_of_getElem? hu)
            refine WR.region rfl ?_
            refine S.moveT rfl ?_
            refine S.moveT rfl ?_
            refine S.indexB Try.underlying9 rfl rfl (by omega) hui rfl ?_
            refine S.lss rfl rfl rfl ?_
            refine S.moveT rfl ?_
            refine S.splitD (d := 50) rfl (fun c50 => ?_) (fun c50 => ?_)
            ·
              skip
              refine S.off rfl ?_
              refine S.off rfl ?_
              refine S.off rfl ?_
              refine S.off rfl ?_
              refine S.pickTC rfl rfl ?_
              refine WS.done ?_
              refine WR.condT rfl ?_
              refine WR.seq ?_
              refine WR.region rfl ?_
              refine S.buildZero ti34 rfl (by kernel_rfl) rfl ?_
              refine S.storeB (i := 1) hS1001 rfl ti34 rfl rfl rfl rfl rfl rfl rfl rfl ?_
              intro w2006 hS2006; clear hS1001
              refine S.assignC rfl ?_
              refine WS.done ?_
              refine WR.ret (retC1 rfl rfl (run_loadBA (i := 1) hS2006 rfl Try.underlying34 rfl ti34 rfl rfl) rfl ?_)
              first | exact ⟨_, _, 0, false, hR2, rfl, NumR.zero, by decide, .inr ⟨rfl, by rw [hC.rprs]; exact rprsB_dig (fun k => by have := k u (List.mem_of_getElem? hu); omega), rfl⟩, hS2006.drop.drop⟩ | exact ⟨_, _, _, true, hR2, rfl, hM69, by omega, .inl ⟨rfl, by rw [hC.rprs, rprsB_ok hg hdg, c67]; rfl⟩, hS2006.drop.drop⟩ | exact ⟨_, _, _, true, hR2, rfl, hacc, by omega, .inl ⟨rfl, by rw [hC.rprs, rprsB_ok hg hdg, c67]; rfl⟩, hS2006.drop.drop⟩
            ·
              skip
              refine S.moveT rfl ?_
              refine S.moveT rfl ?_
              refine S.indexB Try.underlying9 rfl rfl (by omega) hui rfl ?_
              refine S.gtr rfl rfl rfl ?_
              refine S.pickF rfl rfl ?_
              refine WS.done ?_
              refine WR.condD rfl (fun c55 => ?_) (fun c55 => ?_)
              ·
                skip
                refine WR.seq ?_
                refine WR.region rfl ?_
                refine S.buildZero ti34 rfl (by kernel_rfl) rfl ?_
                refine S.storeB (i := 1) hS1001 rfl ti34 rfl rfl rfl rfl rfl rfl rfl rfl ?_
                intro w2007 hS2007; clear hS1001
                refine S.assignC rfl ?_
                refine WS.done ?_
                refine WR.ret (retC1 rfl rfl (run_loadBA (i := 1) hS2007 rfl Try.underlying34 rfl ti34 rfl rfl) rfl ?_)
                first | exact ⟨_, _, 0, false, hR2, rfl, NumR.zero, by decide, .inr ⟨rfl, by rw [hC.rprs]; exact rprsB_dig (fun k => by have := k u (List.mem_of_getElem? hu); omega), rfl⟩, hS2007.drop.drop⟩ | exact ⟨_, _, _, true, hR2, rfl, hM69, by omega, .inl ⟨rfl, by rw [hC.rprs, rprsB_ok hg hdg, c67]; rfl⟩, hS2007.drop.drop⟩ | exact ⟨_, _, _, true, hR2, rfl, hacc, by omega, .inl ⟨rfl, by rw [hC.rprs, rprsB_ok hg hdg, c67]; rfl⟩, hS2007.drop.drop⟩
              ·
                skip
                refine WR.skip ?_
                have hud : 48 ≤ u ∧ u ≤ 57 := by omega
                refine WR.regionW (fun j => Nat.beq j 10) 11 rfl mixed hS1001 ?_
                intro w6008 hS6008; clear hS1001; have hC := hS6008
                refine WA.take (fuel := 10) 0 rfl (by kernel_rfl) (by kernel_rfl) (by kernel_rfl) (by kernel_rfl) rfl rfl hC ?_
                refine Q.loadBA (i := 0) rfl Try.underlying34 rfl ti34 rfl rfl rfl rfl ?_
                refine WQ.done ?_
                refine WA.take (fuel := 9) 3 rfl (by kernel_rfl) (by kernel_rfl) (by kernel_rfl) (by kernel_rfl) rfl rfl hC ?_
                refine Q.moveT rfl ?_
                refine WQ.done ?_
                refine WA.take (fuel := 8) 4 rfl (by kernel_rfl) (by kernel_rfl) (by kernel_rfl) (by kernel_rfl) rfl rfl hC ?_
                refine Q.moveT rfl ?_
                refine WQ.done ?_
                refine WA.take (fuel := 7) 5 rfl (by kernel_rfl) (by kernel_rfl) (by kernel_rfl) (by kernel_rfl) rfl rfl hC ?_
                refine Q.indexB Try.underlying9 rfl rfl (by omega) hui rfl ?_
                refine WQ.done ?_
                refine WA.take (fuel := 6) 6 rfl (by kernel_rfl) (by kernel_rfl) (by kernel_rfl) (by kernel_rfl) rfl rfl hC ?_
                first
                  | refine Q.convN Try.underlying5 Try.underlying2 rfl rfl (wrap_i64 (by omega) (by omega)) ?_
                  | refine Q.conv Try.underlying5 Try.underlying2 rfl rfl ?_
                refine WQ.done ?_
                refine WA.take (fuel := 5) 7 rfl (by kernel_rfl) (by kernel_rfl) (by kernel_rfl) (by kernel_rfl) rfl rfl hC ?_
                first
                  | refine Q.subN rfl rfl rfl (by omega) ?_
                  | refine Q.sub rfl rfl rfl ?_
                refine WQ.done ?_
                refine WA.one (fuel := 4) 1 rfl (by kernel_rfl) rfl ?_
                refine S.call ent20 rfl (r_of hS6008 (by decide)) rfl ?_
                rintro v58 w58 ⟨R58, hR58, hN58, hS58⟩
                clear hS6008
                have hM58 := hN58
                obtain ⟨ng58, s58, ds58, rfl, hro58, hd58, hcn58, hnz58, hz58⟩ := hN58
                obtain ⟨aa58, cc58, rfl, hll58⟩ := hro58.len
                replace hacc := hacc.mono hR58
                refine WS.done ⟨fun _ => (hS58.weak hR58), ?_⟩
                replace hC := (hS58.weak hR58)
                refine WA.one (fuel := 3) 2 rfl (by kernel_rfl) rfl ?_
                refine S.call ent19 rfl (r_mul hS58 (by exact hacc) (by exact hM58) (by exact lt_big (by omega)) (by exact fits_big (by decide))) rfl ?_
                rintro v59 w59 ⟨R59, hR59, hN59, hS59⟩
                clear hS58
                have hM59 := hN59
                obtain ⟨ng59, s59, ds59, rfl, hro59, hd59, hcn59, hnz59, hz59⟩ := hN59
                obtain ⟨aa59, cc59, rfl, hll59⟩ := hro59.len
                replace hacc := hacc.mono hR59
                replace hro58 := hro58.mono hR59
                refine WS.done ⟨fun _ => ((hS59.weak hR59).weak hR58), ?_⟩
                replace hC := ((hS59.weak hR59).weak hR58)
                refine WA.one (fuel := 2) 8 rfl (by kernel_rfl) rfl ?_
                refine S.call ent20 rfl (r_of hS59 (by unfold fits; omega)) rfl ?_
                rintro v65 w65 ⟨R65, hR65, hN65, hS65⟩
                clear hS59
                have hM65 := hN65
                obtain ⟨ng65, s65, ds65, rfl, hro65, hd65, hcn65, hnz65, hz65⟩ := hN65
                obtain ⟨aa65, cc65, rfl, hll65⟩ := hro65.len
                replace hacc := hacc.mono hR65
                replace hro58 := hro58.mono hR65
                replace hro59 := hro59.mono hR65
                refine WS.done ⟨fun _ => (((hS65.weak hR65).weak hR59).weak hR58), ?_⟩
                replace hC := (((hS65.weak hR65).weak hR59).weak hR58)
                refine WA.one (fuel := 1) 9 rfl (by kernel_rfl) rfl ?_
                refine S.call ent15 rfl (r_add hS65 (by exact hM59.mono hR65) (by exact hM65) (by exact lt_big (by omega)) (by exact lt_big (by omega))) rfl ?_
                rintro v66 w66 ⟨R66, hR66, hN66, hS66⟩
                clear hS65
                have hM66 := hN66
                obtain ⟨ng66, s66, ds66, rfl, hro66, hd66, hcn66, hnz66, hz66⟩ := hN66
                obtain ⟨aa66, cc66, rfl, hll66⟩ := hro66.len
                replace hacc := hacc.mono hR66
                replace hro58 := hro58.mono hR66
                replace hro59 := hro59.mono hR66
                replace hro65 := hro65.mono hR66
                refine WS.done ⟨fun _ => ((((hS66.weak hR66).weak hR65).weak hR59).weak hR58), ?_⟩
                replace hC := ((((hS66.weak hR66).weak hR65).weak hR59).weak hR58)
                refine WA.one (fuel := 0) 10 rfl (by kernel_rfl) rfl ?_
                refine S.storeB (i := 0) hS66 rfl ti34 rfl rfl rfl rfl rfl rfl rfl rfl ?_
                intro w2009 hS2009; clear hS66
                refine WS.done ⟨fun h => absurd h (by decide), ?_⟩
                refine WA.done (by kernel_rfl) ?_
                clear hC
                refine WR.region rfl ?_
                refine S.moveT rfl ?_
                first
                  | refine S.addN rfl rfl rfl (by omega) ?_
                  | refine S.add rfl rfl rfl ?_
                refine S.assignT rfl ?_
                refine WS.done ?_
                exact ⟨_, (by omega), ⟨i + 1, _, _, _, _, _, rfl, (by exact ⟨by omega, hR2.trans (hR58.trans (hR59.trans (hR65.trans hR66))), by rw [pv_succ hu]; exact hM66, dig_succ hdg hu hud⟩), rfl, ⟨rfl, rfl, rfl, rfl, trivial⟩, hS2009⟩⟩
          ·
            skip
            refine WR.exit ?_
            refine WR.seq ?_
            refine WR.seq ?_
            have hall : (sB t).take i = sB t := List.take_of_length_le (by omega)
            rw [hall] at hacc hdg hpb
            refine WR.region rfl ?_
            refine S.moveT rfl ?_
            refine WS.done ?_
            refine WR.cond rfl (fun c67 => ?_) (fun c67 => ?_)
            ·
              skip
              refine WR.region rfl ?_
              refine S.loadBA (i := 0) hS1001 rfl Try.underlying34 rfl ti34 rfl rfl rfl rfl ?_
              refine S.call ent16 rfl (r_neg hS1001 (by exact hacc) (by exact lt_big (by omega))) rfl ?_
              rintro v69 w69 ⟨hN69, hS69⟩
              clear hS1001
              have hM69 := hN69
              obtain ⟨ng69, s69, ds69, rfl, hro69, hd69, hcn69, hnz69, hz69⟩ := hN69
              obtain ⟨aa69, cc69, rfl, hll69⟩ := hro69.len
              refine S.storeB (i := 0) hS69 rfl ti34 rfl rfl rfl rfl rfl rfl rfl rfl ?_
              intro w2010 hS2010; clear hS69
              refine WS.done ?_
              refine WR.seq ?_
              refine WR.region rfl ?_
              refine S.loadBA (i := 0) hS2010 rfl Try.underlying34 rfl ti34 rfl rfl rfl rfl ?_
              refine S.storeB (i := 1) hS2010 rfl ti34 rfl rfl rfl rfl rfl rfl rfl rfl ?_
              intro w2011 hS2011; clear hS2010
              refine S.assignC rfl ?_
              refine WS.done ?_
              refine WR.ret (retC1 rfl rfl (run_loadBA (i := 1) hS2011 rfl Try.underlying34 rfl ti34 rfl rfl) rfl ?_)
              first | exact ⟨_, _, 0, false, hR2, rfl, NumR.zero, by decide, .inr ⟨rfl, by rw [hC.rprs]; exact rprsB_dig (fun k => by have := k u (List.mem_of_getElem? hu); omega), rfl⟩, hS2011.drop.drop⟩ | exact ⟨_, _, _, true, hR2, rfl, hM69, by omega, .inl ⟨rfl, by rw [hC.rprs, rprsB_ok hg hdg, c67]; rfl⟩, hS2011.drop.drop⟩ | exact ⟨_, _, _, true, hR2, rfl, hacc, by omega, .inl ⟨rfl, by rw [hC.rprs, rprsB_ok hg hdg, c67]; rfl⟩, hS2011.drop.drop⟩
            ·
              skip
              refine WR.skip ?_
              refine WR.seq ?_
              refine WR.region rfl ?_
              refine S.loadBA (i := 0) hS1001 rfl Try.underlying34 rfl ti34 rfl rfl rfl rfl ?_
              refine S.storeB (i := 1) hS1001 rfl ti34 rfl rfl rfl rfl rfl rfl rfl rfl ?_
              intro w2012 hS2012; clear hS1001
              refine S.assignC rfl ?_
              refine WS.done ?_
              refine WR.ret (retC1 rfl rfl (run_loadBA (i := 1) hS2012 rfl Try.underlying34 rfl ti34 rfl rfl) rfl ?_)
              first | exact ⟨_, _, 0, false, hR2, rfl, NumR.zero, by decide, .inr ⟨rfl, by rw [hC.rprs]; exact rprsB_dig (fun k => by have := k u (List.mem_of_getElem? hu); omega), rfl⟩, hS2012.drop.drop⟩ | exact ⟨_, _, _, true, hR2, rfl, hM69, by omega, .inl ⟨rfl, by rw [hC.rprs, rprsB_ok hg hdg, c67]; rfl⟩, hS2012.drop.drop⟩ | exact ⟨_, _, _, true, hR2, rfl, hacc, by omega, .inl ⟨rfl, by rw [hC.rprs, rprsB_ok hg hdg, c67]; rfl⟩, hS2012.drop.drop⟩


end Go.Proofs.Ytnfideifgegijaa.B

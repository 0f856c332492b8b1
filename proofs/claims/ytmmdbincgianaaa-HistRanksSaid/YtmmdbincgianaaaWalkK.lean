import Derived.Test.YtmmdbincgianaaaWalkE
import Derived.Test.YtmmdbincgianaaaWalkF
namespace Go.Proofs.Ytmmdbincgianaaa.B
open Go.Proofs Go.RowKit
set_option linter.unusedVariables false
set_option linter.unusedSimpArgs false
set_option maxRecDepth 100000 in
set_option maxHeartbeats 4000000 in
theorem law_HistRanks {w : World} {R : Kn} {L : List HP}  (hS : St w R (L)) {xs : List Int} (hl : xs.length = 65) (hf : ∀ x ∈ xs, fits x) {kh kl : Int} (hkh : fits kh) (hkl : 0 ≤ kl ∧ kl < 18446744073709551616) :
    Fn Try.prog 4 #[aV xs, .agg #[.int .i64 (kh), .int .u64 (kl)]] w (fun v w' => v = .bool true ∧ St w' R L) := by
  have hps := psum_abs hf hl 65
  have hpe := psum_all (xs := xs) hl
  refine Fn.introG (n := 120) Try.func4 rfl rfl rfl ?_
  refine WG.seq ?_
  refine WG.region rfl ?_
  refine S.box (v := aV _) (cs := aI _) hS rfl rfl rfl ?_
  intro b2 w2 hS2; clear hS
  obtain ⟨R2, hR2, hro2, hSf2⟩ := hS2.keepRow (enc := encI .i64) (n := 1) xs (aI_flat _) (fun _ _ => rfl)
  refine S.box hSf2 rfl rfl rfl ?_
  intro b3 w3 hS3; clear hSf2
  refine S.alloc hS3 ti4 rfl rfl ?_
  intro b4 w4 hS4; clear hS3
  refine WS.done ?_
  refine WG.seq ?_
  refine WG.seq ?_
  refine WG.region rfl ?_
  refine S.call ent8 rfl (l5_alive hS4 ) rfl ?_
  rintro _ w17 ⟨rfl, hS17⟩
  clear hS4
  refine S.not rfl rfl ?_
  refine WS.done ?_
  refine WG.condF rfl ?_
  refine WG.skip ?_
  refine WG.seq ?_
  refine WG.region rfl ?_
  refine S.loadKn hS17 hro2 Try.underlying25 ti25 (by first | assumption | exact rfl | exact tab_len | exact ofL_len | exact mrg_len | exact mixL_len | exact halfL_len | (rw [List.length_set]; first | assumption | exact ofL_len | exact mixL_len | exact halfL_len)) rfl rfl ?_
  refine S.alloc (cs := aI (List.replicate 65 0)) hS17 ti26 rfl rfl ?_
  intro b5 w5 hS5; clear hS17
  refine S.storeArr (i := 0) hS5 rfl ti26 (by first | assumption | exact rfl | exact tab_len | exact ofL_len | exact mrg_len | exact mixL_len | exact halfL_len | (rw [List.length_set]; first | assumption | exact ofL_len | exact mixL_len | exact halfL_len)) (by first | assumption | exact rfl | exact tab_len | exact ofL_len | exact mrg_len | exact mixL_len | exact halfL_len | (rw [List.length_set]; first | assumption | exact ofL_len | exact mixL_len | exact halfL_len)) rfl rfl rfl ?_
  intro w2001 hS2001; clear hS5
  refine WS.done ?_
  refine WG.seq ?_
  refine WG.region rfl ?_
  refine S.buildZero ti43 rfl (by kernel_rfl) rfl ?_
  refine S.alloc hS2001 ti43 rfl rfl ?_
  intro b6 w6 hS6; clear hS2001
  refine S.storeB (i := 0) hS6 rfl ti43 rfl rfl rfl rfl rfl rfl rfl rfl ?_
  intro w2002 hS2002; clear hS6
  refine WS.done ?_
  refine WG.seq ?_
  refine WG.seq ?_
  refine WG.region rfl ?_
  refine S.assignC rfl ?_
  refine WS.done ?_
  refine WG.block ?_
  refine WG.loopE (fun rq mm rr wr => ∃ (i : Nat) (R9 : Kn) (ng : Bool) (ac : Option Addr) (dm : List Int) (acp : Nat), mm = 65 - i ∧ (i ≤ 65 ∧ R2.le R9 ∧ NumR R9 (.agg #[.bool ng, .slice ac dm.length acp]) (psum xs i)) ∧ rr 7 = .int .i64 (i : Int) ∧ Agr [2, 3, 4, 5, 6] rr rq ∧ St wr R9 (blk b6 (.cells (#[.bool ng, .slice ac dm.length acp]) 43 (0, 0)) :: blk b5 (.cells (aI xs) 26 (0, 0)) :: blk b4 (.cells (#[.bool false]) 4 (0, 0)) :: blk b3 (.cells (#[.int .i64 kh, .int .u64 kl]) 40 (0, 0)) :: L)) ⟨0, R2, false, none, [], 0, rfl, (by exact ⟨by omega, Kn.le.refl _, NumR.zero⟩), rfl, ⟨rfl, rfl, rfl, rfl, rfl, trivial⟩, hS2002⟩ ?_
  rintro mm rr w1001 ⟨i, R9, ng, ac, dm, acp, hm1001, ⟨hi, hR9, hMS⟩, hr1001_7, hA1001, hS1001⟩
  obtain ⟨rr, rfl⟩ := agrBack hA1001
  clear hA1001
  obtain ⟨rr, rfl⟩ := back1 (r := rr) hr1001_7
  clear hr1001_7
  have hro2 := hro2.mono hR9
  refine WG.seq ?_
  refine WG.seq ?_
  refine WG.region rfl ?_
  refine S.moveT rfl ?_
  refine S.lss rfl rfl rfl ?_
  refine WS.done ?_
  refine WG.condD rfl (fun c22 => ?_) (fun c22 => ?_)
  ·
    skip
    refine WG.skip ?_
    refine WG.seq ?_
    refine WG.block ?_
    refine WG.of (WR.regionW (fun j => Nat.beq j 6) 7 rfl mixed hS1001 ?_)
    intro w6003 hS6003; clear hS1001; have hC := hS6003
    refine WA.take (fuel := 6) 0 rfl (by kernel_rfl) (by kernel_rfl) (by kernel_rfl) (by kernel_rfl) rfl rfl hC ?_
    refine Q.loadBA (i := 0) rfl Try.underlying43 rfl ti43 rfl rfl rfl rfl ?_
    refine WQ.done ?_
    refine WA.take (fuel := 5) 1 rfl (by kernel_rfl) (by kernel_rfl) (by kernel_rfl) (by kernel_rfl) rfl rfl hC ?_
    refine Q.moveT rfl ?_
    refine WQ.done ?_
    refine WA.take (fuel := 4) 2 rfl (by kernel_rfl) (by kernel_rfl) (by kernel_rfl) (by kernel_rfl) rfl rfl hC ?_
    refine Q.ixArr Try.underlying25 ti2 rfl rfl (by omega) rfl ?_
    refine WQ.done ?_
    refine WA.take (fuel := 3) 3 rfl (by kernel_rfl) (by kernel_rfl) (by kernel_rfl) (by kernel_rfl) rfl rfl hC ?_
    refine Q.loadKnAt (m := 65) hro2 Try.underlying2 rfl rfl (by first | assumption | exact rfl | exact tab_len | exact ofL_len | exact mrg_len | exact mixL_len | exact halfL_len | (rw [List.length_set]; first | assumption | exact ofL_len | exact mixL_len | exact halfL_len)) (by omega) rfl ?_
    first | refine Q.as (d := 28) rfl (congrArg (Value.int .i64) gd_nat) ?_ | skip
    have hfi := hf _ (getD_mem (k := i) (show i < xs.length by omega))
    have hpa := psum_abs hf hl i
    have hpn := psum_succ (h := xs) (b := i) (by omega)
    refine WQ.done ?_
    refine WA.one (fuel := 2) 4 rfl (by kernel_rfl) rfl ?_
    refine S.call ent16 rfl (r_of hS6003 (by exact hfi)) rfl ?_
    rintro v29 w29 ⟨R29, hR29, hN29, hS29⟩
    clear hS6003
    have hM29 := hN29
    obtain ⟨ng29, s29, ds29, rfl, hro29, hd29, hcn29, hnz29, hz29⟩ := hN29
    obtain ⟨aa29, cc29, rfl, hll29⟩ := hro29.len
    replace hro2 := hro2.mono hR29
    refine WS.done ⟨fun _ => (hS29.weak hR29), ?_⟩
    replace hC := (hS29.weak hR29)
    refine WA.one (fuel := 1) 5 rfl (by kernel_rfl) rfl ?_
    refine S.call ent15 rfl (r_add hS29 (by exact hMS.mono hR29) (by exact hM29) (by exact lt_big (by omega)) (by exact fits_big hfi)) rfl ?_
    rintro v30 w30 ⟨R30, hR30, hN30, hS30⟩
    clear hS29
    have hM30 := hN30
    obtain ⟨ng30, s30, ds30, rfl, hro30, hd30, hcn30, hnz30, hz30⟩ := hN30
    obtain ⟨aa30, cc30, rfl, hll30⟩ := hro30.len
    replace hro2 := hro2.mono hR30
    replace hro29 := hro29.mono hR30
    refine WS.done ⟨fun _ => ((hS30.weak hR30).weak hR29), ?_⟩
    replace hC := ((hS30.weak hR30).weak hR29)
    refine WA.one (fuel := 0) 6 rfl (by kernel_rfl) rfl ?_
    refine S.storeB (i := 0) hS30 rfl ti43 rfl rfl rfl rfl rfl rfl rfl rfl ?_
    intro w2004 hS2004; clear hS30
    refine WS.done ⟨fun h => absurd h (by decide), ?_⟩
    refine WA.done (by kernel_rfl) ?_
    clear hC
    refine WG.region rfl ?_
    refine S.moveT rfl ?_
    first
      | refine S.addN rfl rfl rfl (by omega) ?_
      | refine S.add rfl rfl rfl ?_
    refine S.assignT rfl ?_
    refine WS.done ?_
    exact ⟨rfl, _, (by omega), ⟨i + 1, R30, _, _, _, _, rfl, (by exact ⟨by omega, hR9.trans (hR29.trans hR30), by rw [hpn]; exact hM30⟩), rfl, ⟨rfl, rfl, rfl, rfl, rfl, trivial⟩, hS2004⟩⟩
  ·
    skip
    refine WG.exit ?_
    refine WG.seq ?_
    refine WG.region rfl ?_
    obtain rfl : i = 65 := by omega
    refine S.loadBA (i := 0) hS1001 rfl Try.underlying43 rfl ti43 rfl rfl rfl rfl ?_
    refine S.call ent17 rfl (r2_words hS1001 (by exact hMS) (by omega)) rfl ?_
    rintro _ w33 ⟨h33, l33, rfl, hW33, hS33⟩
    clear hS1001
    refine S.moveT rfl ?_
    refine S.extract rfl rfl rfl ?_
    refine S.extract rfl rfl rfl ?_
    refine S.extract rfl rfl rfl ?_
    obtain ⟨rfl, rfl⟩ : h33 = wh (psum xs 65) ∧ l33 = wl (psum xs 65) := by
      rcases hW33 with ⟨_, k1, k2⟩ | ⟨k, _⟩
      · exact ⟨k1, k2⟩
      · exact absurd (show wfit (psum xs 65) by unfold wfit; omega) k
    refine S.isTD (d := 36) rfl (by unfold wfit; omega) ?_
    refine S.assignT rfl ?_
    refine S.assignT rfl ?_
    refine S.assignT rfl ?_
    refine WS.done ?_
    refine WG.seq ?_
    refine WG.seq ?_
    refine WG.region rfl ?_
    refine S.moveT rfl ?_
    refine S.not rfl rfl ?_
    refine S.moveT rfl ?_
    refine S.loadArr (i := 1) hS33 rfl Try.underlying26 ti26 (by first | assumption | exact rfl | exact tab_len | exact ofL_len | exact mrg_len | exact mixL_len | exact halfL_len | (rw [List.length_set]; first | assumption | exact ofL_len | exact mixL_len | exact halfL_len)) rfl rfl ?_
    refine S.call ent18 rfl (h_total hS33 (by exact hl) (by exact hf)) rfl ?_
    rintro _ w41 ⟨rfl, hS41⟩
    clear hS33
    refine S.moveT rfl ?_
    refine S.moveT rfl ?_
    refine S.buildStruct [.int _ _, .int _ _] [(0, 1), (1, 1)] Try.underlying40 ti40 rfl (by kernel_rfl) rfl rfl rfl rfl rfl rfl ?_
    refine S.neqS rfl rfl (by kernel_rfl) (Eq1.struct Try.underlying40 (by kernel_rfl) (EqF.cons (by decide) (Part1.one Try.underlying2 rfl rfl) (Part1.one Try.underlying2 rfl rfl) (Eq1.int Try.underlying2) (EqF.one (by decide) (Part1.one Try.underlying38 rfl rfl) (Part1.one Try.underlying38 rfl rfl) (Eq1.int Try.underlying38)))) rfl ?_
    refine S.isFD (d := 45) rfl (by rw [hpe]; simp) ?_
    refine S.pickF rfl rfl ?_
    refine WS.done ?_
    refine WG.condF rfl ?_
    refine WG.skip ?_
    refine WG.seq ?_
    refine WG.region rfl ?_
    refine S.loadArr (i := 1) hS41 rfl Try.underlying26 ti26 (by first | assumption | exact rfl | exact tab_len | exact ofL_len | exact mrg_len | exact mixL_len | exact halfL_len | (rw [List.length_set]; first | assumption | exact ofL_len | exact mixL_len | exact halfL_len)) rfl rfl ?_
    refine S.loadBA (i := 3) hS41 rfl Try.underlying40 rfl ti40 rfl rfl rfl rfl ?_
    refine S.call ent19 rfl (h_rank hS41 (by exact hl) (by exact hf) (by exact hkh) (by exact hkl)) rfl ?_
    rintro _ w50 ⟨x50, rfl, hK50, hS50⟩
    clear hS41
    refine S.moveT rfl ?_
    refine S.extract rfl rfl rfl ?_
    refine S.extract rfl rfl rfl ?_
    refine S.assignT rfl ?_
    refine S.assignT rfl ?_
    refine WS.done ?_
    refine WG.seq ?_
    refine WG.region rfl ?_
    refine S.loadKn hS50 hro2 Try.underlying25 ti25 (by first | assumption | exact rfl | exact tab_len | exact ofL_len | exact mrg_len | exact mixL_len | exact halfL_len | (rw [List.length_set]; first | assumption | exact ofL_len | exact mixL_len | exact halfL_len)) rfl rfl ?_
    refine S.fieldB Try.underlying40 rfl ti2 rfl rfl rfl rfl ?_
    refine S.loadB (i := 3) hS50 rfl Try.underlying2 rfl rfl rfl rfl ?_
    refine S.fieldB Try.underlying40 rfl ti38 rfl rfl rfl rfl ?_
    refine S.loadB (i := 3) hS50 rfl Try.underlying38 rfl rfl rfl rfl ?_
    refine S.call ent20 rfl (h5_rank hS50 (by exact hl) (by exact hf) (by exact hkh) (by exact hkl)) rfl ?_
    rintro _ w58 ⟨x58, rfl, hK58, hS58⟩
    clear hS50
    obtain rfl := hK58.same hK50
    have hxb := hK58.big
    refine S.assignT rfl ?_
    refine WS.done ?_
    refine WG.cutE (J := fun rq rr wr => (True) ∧ Agr [2, 4, 5] rr rq ∧ St wr R9 (blk b6 (.cells (#[.bool ng, .slice ac dm.length acp]) 43 (0, 0)) :: blk b5 (.cells (aI xs) 26 (0, 0)) :: blk b4 (.cells (#[.bool false]) 4 (0, 0)) :: blk b3 (.cells (#[.int .i64 kh, .int .u64 kl]) 40 (0, 0)) :: L)) ?_ ?_
    ·
      skip
      refine WG.seq ?_
      refine WG.region rfl ?_
      refine S.moveT rfl ?_
      refine S.moveT rfl ?_
      refine S.geq rfl rfl rfl ?_
      refine S.neqB Try.underlying4 rfl rfl rfl ?_
      refine S.isB (d := 62) (c := false) rfl (by rw [Bool.not_eq_false', beq_iff_eq]; exact decide_eq_decide.2 (by omega)) ?_
      refine S.moveT rfl ?_
      refine S.moveT rfl ?_
      refine S.moveT rfl ?_
      refine S.splitD (d := 65) rfl (fun c65 => ?_) (fun c65 => ?_)
      ·
        skip
        refine S.moveT rfl ?_
        refine S.moveT rfl ?_
        refine S.neq rfl rfl rfl ?_
        refine S.isFD (d := 68) rfl (by rw [if_neg c65]; simp) ?_
        refine S.pickT rfl rfl ?_
        refine S.pickF rfl rfl ?_
        refine S.moveT rfl ?_
        refine S.moveT rfl ?_
        refine S.notD rfl rfl ?_
        refine S.moveT rfl ?_
        refine S.splitD (d := 74) rfl (fun c74 => ?_) (fun c74 => ?_)
        ·
          skip
          refine S.moveT rfl ?_
          refine S.neq rfl rfl rfl ?_
          refine S.isFD (d := 76) rfl (by first | exact absurd c65 c74 | (rw [if_pos (by omega)]; simp)) ?_
          refine S.pickT rfl rfl ?_
          refine S.pickF rfl rfl ?_
          refine WS.done ?_
          refine WG.condF rfl ?_
          refine WG.skip ?_
          exact ⟨rfl, (by trivial), ⟨rfl, rfl, rfl, trivial⟩, hS58⟩
        ·
          skip
          refine S.off rfl ?_
          refine S.off rfl ?_
          refine S.pickFC rfl rfl ?_
          refine S.pickF rfl rfl ?_
          refine WS.done ?_
          refine WG.condF rfl ?_
          refine WG.skip ?_
          exact ⟨rfl, (by trivial), ⟨rfl, rfl, rfl, trivial⟩, hS58⟩
      ·
        skip
        refine S.off rfl ?_
        refine S.off rfl ?_
        refine S.off rfl ?_
        refine S.pickFC rfl rfl ?_
        refine S.pickF rfl rfl ?_
        refine S.moveT rfl ?_
        refine S.moveT rfl ?_
        refine S.notD rfl rfl ?_
        refine S.moveT rfl ?_
        refine S.splitD (d := 74) rfl (fun c74 => ?_) (fun c74 => ?_)
        ·
          skip
          refine S.moveT rfl ?_
          refine S.neq rfl rfl rfl ?_
          refine S.isFD (d := 76) rfl (by first | exact absurd c65 c74 | (rw [if_pos (by omega)]; simp)) ?_
          refine S.pickT rfl rfl ?_
          refine S.pickF rfl rfl ?_
          refine WS.done ?_
          refine WG.condF rfl ?_
          refine WG.skip ?_
          exact ⟨rfl, (by trivial), ⟨rfl, rfl, rfl, trivial⟩, hS58⟩
        ·
          skip
          refine S.off rfl ?_
          refine S.off rfl ?_
          refine S.pickFC rfl rfl ?_
          refine S.pickF rfl rfl ?_
          refine WS.done ?_
          refine WG.condF rfl ?_
          refine WG.skip ?_
          exact ⟨rfl, (by trivial), ⟨rfl, rfl, rfl, trivial⟩, hS58⟩
    ·
      skip
      rintro rr w8005 ⟨-, hA8005, hS8005⟩
      obtain ⟨rr, rfl⟩ := agrBack hA8005
      clear hA8005
      clear hS58
      refine WG.seq ?_
      refine WG.region rfl ?_
      refine S.alloc hS8005 ti3 rfl rfl ?_
      intro b14 w14 hS14; clear hS8005
      refine S.storeB (i := 0) hS14 rfl ti3 rfl rfl rfl rfl rfl rfl rfl rfl ?_
      intro w2006 hS2006; clear hS14
      refine WS.done ?_
      refine WG.seq ?_
      refine WG.seq ?_
      refine WG.region rfl ?_
      refine S.loadArr (i := 2) hS2006 rfl Try.underlying26 ti26 (by first | assumption | exact rfl | exact tab_len | exact ofL_len | exact mrg_len | exact mixL_len | exact halfL_len | (rw [List.length_set]; first | assumption | exact ofL_len | exact mixL_len | exact halfL_len)) rfl rfl ?_
      refine S.call ent21 rfl (h_full hS2006 (by exact hl)) rfl ?_
      rintro _ w80 ⟨R80, bf80, hR80, rfl, hro80, hS80⟩
      clear hS2006
      have hit := full_iter hro80 hl
      replace hro2 := hro2.mono hR80
      refine WS.done ?_
      refine WG.block ?_
      refine WG.rangeFunc (xs := fullL xs) (enc := pairE) (Lc := [blk b14 (.cells #[.int .i64 (0)] 3 (0, 0))]) (T := _) (fun pre _ Lk => Lk = [blk b14 (.cells #[.int .i64 (frm pre)] 3 (0, 0))]) (fun _ _ => False) (fun r x => cp (cp (upd (upd r 81 (.int .i64 (x.1 : Int))) 82 (.int .i64 x.2)) 15 81) 16 82) hS80 rfl (fun args w => run_callFunc ent45 args w) (fun _ => rfl) rfl hit rfl ?_ ?_ ?_ ?_
      ·
        intro l x W K hK
        rw [show pairE x = #[.int .i64 (x.1 : Int), .int .i64 x.2] from rfl, setp2]
        refine WG.seq ?_
        refine WG.region rfl ?_
        refine S.assignT rfl ?_
        refine WS.done ?_
        refine WG.region rfl ?_
        refine S.assignT rfl ?_
        refine WS.done ?_
        exact ⟨rfl, hK⟩
      ·
        intro l T' pre x suf Rk Lk W hpx hle hI hSb
        subst hI
        replace hSb : St W Rk (blk b14 (.cells #[.int .i64 (frm pre)] 3 (0, 0)) :: T') := hSb
        obtain ⟨hpe', hx1, hx2, hx3⟩ := fullTo_at 65 pre suf x hpx
        obtain ⟨hfr, hz⟩ := fullTo_frm (xs := xs) x.1
        rw [← hpe'] at hfr hz
        have hro2 := hro2.mono hle
        refine WG.block ?_
        refine WG.seq ?_
        refine WG.seq ?_
        refine WG.region rfl ?_
        refine S.moveT rfl ?_
        refine S.loadB (i := 0) hSb rfl Try.underlying3 rfl rfl rfl rfl ?_
        refine S.lss rfl rfl rfl ?_
        refine S.isFD (d := 85) rfl (by omega) ?_
        refine S.moveT rfl ?_
        refine S.moveT rfl ?_
        refine S.gtr rfl rfl rfl ?_
        refine S.isFD (d := 88) rfl (by omega) ?_
        refine S.pickF rfl rfl ?_
        refine S.moveT rfl ?_
        refine S.moveT rfl ?_
        refine S.moveT rfl ?_
        refine S.ixArr Try.underlying25 ti2 rfl rfl (by omega) rfl ?_
        refine S.loadKnAt (m := 65) hSb hro2 Try.underlying2 rfl rfl (by first | assumption | exact rfl | exact tab_len | exact ofL_len | exact mrg_len | exact mixL_len | exact halfL_len | (rw [List.length_set]; first | assumption | exact ofL_len | exact mixL_len | exact halfL_len)) (by omega) rfl ?_
        first | refine S.as (d := 94) rfl (congrArg (Value.int .i64) gd_nat) ?_ | skip
        refine S.neq rfl rfl rfl ?_
        refine S.isFD (d := 95) rfl (by rw [hx2]; simp) ?_
        refine S.pickF rfl rfl ?_
        refine S.moveT rfl ?_
        refine S.moveT rfl ?_
        refine S.eql rfl rfl rfl ?_
        refine S.isFD (d := 99) rfl (by exact hx3) ?_
        refine S.pickF rfl rfl ?_
        refine WS.done ?_
        refine WG.condF rfl ?_
        refine WG.skip ?_
        refine WG.seq ?_
        refine WG.block ?_
        refine WG.loopE (fun rq mm rr wr => ∃ (j : Nat), mm = x.1 - j ∧ (frm pre ≤ j ∧ j ≤ x.1) ∧ Agr [2, 4, 14, 15] rr rq ∧ St wr Rk (blk b14 (.cells #[.int .i64 (j)] 3 (0, 0)) :: T')) ⟨frm pre, rfl, (by omega), ⟨rfl, rfl, rfl, rfl, trivial⟩, hSb⟩ ?_
        rintro mm rr w1002 ⟨j, hm1002, ⟨hj1, hj2⟩, hA1002, hS1002⟩
        obtain ⟨rr, rfl⟩ := agrBack hA1002
        clear hA1002
        refine WG.seq ?_
        refine WG.seq ?_
        refine WG.region rfl ?_
        refine S.loadB (i := 0) hS1002 rfl Try.underlying3 rfl rfl rfl rfl ?_
        refine S.moveT rfl ?_
        refine S.lss rfl rfl rfl ?_
        refine WS.done ?_
        refine WG.condD rfl (fun c103 => ?_) (fun c103 => ?_)
        ·
          skip
          refine WG.skip ?_
          refine WG.block ?_
          refine WG.seq ?_
          refine WG.seq ?_
          refine WG.region rfl ?_
          refine S.loadB (i := 0) hS1002 rfl Try.underlying3 rfl rfl rfl rfl ?_
          refine S.ixArr Try.underlying25 ti2 rfl rfl (by omega) rfl ?_
          refine S.loadKnAt (m := 65) hS1002 hro2 Try.underlying2 rfl rfl (by first | assumption | exact rfl | exact tab_len | exact ofL_len | exact mrg_len | exact mixL_len | exact halfL_len | (rw [List.length_set]; first | assumption | exact ofL_len | exact mixL_len | exact halfL_len)) (by omega) rfl ?_
          first | refine S.as (d := 106) rfl (congrArg (Value.int .i64) gd_nat) ?_ | skip
          refine S.neq rfl rfl rfl ?_
          refine S.isFD (d := 107) rfl (by first | (rw [hz j (by omega) (by omega)]; simp) | (rw [hz2 j (by omega) (by omega)]; simp)) ?_
          refine WS.done ?_
          refine WG.condF rfl ?_
          refine WG.skip ?_
          refine WG.region rfl ?_
          refine S.loadB (i := 0) hS1002 rfl Try.underlying3 rfl rfl rfl rfl ?_
          first
            | refine S.addN rfl rfl rfl (by omega) ?_
            | refine S.add rfl rfl rfl ?_
          refine S.storeB (i := 0) hS1002 rfl ti3 rfl rfl rfl rfl rfl rfl rfl rfl ?_
          intro w2007 hS2007; clear hS1002
          refine WS.done ?_
          exact ⟨rfl, _, (by omega), ⟨j + 1, rfl, (by omega), ⟨rfl, rfl, rfl, rfl, trivial⟩, hS2007⟩⟩
        ·
          skip
          refine WG.exit ?_
          refine WG.region rfl ?_
          refine S.moveT rfl ?_
          first
            | refine S.addN rfl rfl rfl (by omega) ?_
            | refine S.add rfl rfl rfl ?_
          refine S.storeB (i := 0) hS1002 rfl ti3 rfl rfl rfl rfl rfl rfl rfl rfl ?_
          intro w2008 hS2008; clear hS1002
          refine WS.done ?_
          exact ⟨rfl, Rk, [blk b14 (.cells #[.int .i64 (frm (pre ++ [x]))] 3 (0, 0))], hle, rfl, by rw [frm_snoc]; exact hS2008⟩
      ·
        intro D Rk Lk W hle hI hSd
        subst hI
        obtain ⟨hfr, hz2⟩ := fullTo_frm (xs := xs) 65
        have hfr : frm (fullL xs) ≤ 65 := hfr
        have hz2 : ∀ j, frm (fullL xs) ≤ j → j < 65 → xs.getD j 0 = 0 := hz2
        have hro2 := hro2.mono hle
        refine WG.seq ?_
        refine WG.block ?_
        refine WG.loopE (fun rq mm rr wr => ∃ (j : Nat), mm = 65 - j ∧ (frm (fullL xs) ≤ j ∧ j ≤ 65) ∧ Agr [2, 4, 14] rr rq ∧ St wr Rk (blk b14 (.cells #[.int .i64 (j)] 3 (0, 0)) :: defC D :: blk b6 (.cells (#[.bool ng, .slice ac dm.length acp]) 43 (0, 0)) :: blk b5 (.cells (aI xs) 26 (0, 0)) :: blk b4 (.cells (#[.bool false]) 4 (0, 0)) :: blk b3 (.cells (#[.int .i64 kh, .int .u64 kl]) 40 (0, 0)) :: L)) ⟨frm (fullL xs), rfl, (by omega), ⟨rfl, rfl, rfl, trivial⟩, hSd⟩ ?_
        rintro mm rr w1003 ⟨j, hm1003, ⟨hj1, hj2⟩, hA1003, hS1003⟩
        obtain ⟨rr, rfl⟩ := agrBack hA1003
        clear hA1003
        refine WG.seq ?_
        refine WG.seq ?_
        refine WG.region rfl ?_
        refine S.loadB (i := 0) hS1003 rfl Try.underlying3 rfl rfl rfl rfl ?_
        refine S.lss rfl rfl rfl ?_
        refine WS.done ?_
        refine WG.condD rfl (fun c113 => ?_) (fun c113 => ?_)
        ·
          skip
          refine WG.skip ?_
          refine WG.block ?_
          refine WG.seq ?_
          refine WG.seq ?_
          refine WG.region rfl ?_
          refine S.loadB (i := 0) hS1003 rfl Try.underlying3 rfl rfl rfl rfl ?_
          refine S.ixArr Try.underlying25 ti2 rfl rfl (by omega) rfl ?_
          refine S.loadKnAt (m := 65) hS1003 hro2 Try.underlying2 rfl rfl (by first | assumption | exact rfl | exact tab_len | exact ofL_len | exact mrg_len | exact mixL_len | exact halfL_len | (rw [List.length_set]; first | assumption | exact ofL_len | exact mixL_len | exact halfL_len)) (by omega) rfl ?_
          first | refine S.as (d := 116) rfl (congrArg (Value.int .i64) gd_nat) ?_ | skip
          refine S.neq rfl rfl rfl ?_
          refine S.isFD (d := 117) rfl (by rw [hz2 j (by omega) (by omega)]; simp) ?_
          refine WS.done ?_
          refine WG.condF rfl ?_
          refine WG.skip ?_
          refine WG.region rfl ?_
          refine S.loadB (i := 0) hS1003 rfl Try.underlying3 rfl rfl rfl rfl ?_
          first
            | refine S.addN rfl rfl rfl (by omega) ?_
            | refine S.add rfl rfl rfl ?_
          refine S.storeB (i := 0) hS1003 rfl ti3 rfl rfl rfl rfl rfl rfl rfl rfl ?_
          intro w2009 hS2009; clear hS1003
          refine WS.done ?_
          exact ⟨rfl, _, (by omega), ⟨j + 1, rfl, (by omega), ⟨rfl, rfl, rfl, trivial⟩, hS2009⟩⟩
        ·
          skip
          refine WG.exit ?_
          refine WG.seq ?_
          refine WG.region rfl ?_
          refine S.storeB (i := 4) hS1003 rfl ti4 rfl rfl rfl rfl rfl rfl rfl rfl ?_
          intro w2010 hS2010; clear hS1003
          refine WS.done ?_
          refine WG.ret (retM (A := []) (hS2010.at_ (i := 1) rfl) (fun wz hSz => ?_))
          refine retC rfl rfl (run_loadB (i := 3) hSz rfl Try.underlying4 rfl rfl) ?_
          exact ⟨rfl, hSz.drop.drop.drop.drop.drop.weak (hR2.trans (hR9.trans (hR80.trans hle)))⟩
      ·
        intro D Rk Lk W hle hI _
        exact hI.elim


end Go.Proofs.Ytmmdbincgianaaa.B

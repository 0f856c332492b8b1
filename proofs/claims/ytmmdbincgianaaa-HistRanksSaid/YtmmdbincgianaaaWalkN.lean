import Derived.Test.YtmmdbincgianaaaTypes
namespace Go.Proofs.Ytmmdbincgianaaa.B
open Go.Proofs Go.RowKit
set_option linter.unusedVariables false
set_option linter.unusedSimpArgs false
set_option maxRecDepth 100000 in
set_option maxHeartbeats 4000000 in
theorem r_limb {w : World} {R : Kn} {L : List HP}  (hS : St w R (L)) {v0 : Value} {ds : List Int} {i : Int} {k : Nat} (h0 : Ro R (encI .i64) 1 v0 ds) (hi : 0 ≤ i) (hk : i.toNat = k) (hm : ds.length ≤ 1000000) :
    Fn Try.prog 51 #[v0, .int .i64 i] w (fun v w' => v = .int .i64 (lb ds k) ∧ St w' R L) := by
  subst hk
  obtain ⟨a0, c0, rfl, hl0⟩ := h0.len
  refine Fn.intro (n := 13) Try.func51 rfl rfl rfl ?_
  refine WR.seq ?_
  refine WR.region rfl ?_
  refine S.assignC rfl ?_
  refine WS.done ?_
  refine WR.seq ?_
  refine WR.seq ?_
  refine WR.region rfl ?_
  refine S.moveT rfl ?_
  refine S.moveT rfl ?_
  refine S.lenSl Try.underlying41 rfl rfl ?_
  refine S.lss rfl rfl rfl ?_
  refine WS.done ?_
  refine WR.condD rfl (fun c8 => ?_) (fun c8 => ?_)
  ·
    skip
    refine WR.seq ?_
    refine WR.region rfl ?_
    refine S.moveT rfl ?_
    refine S.moveT rfl ?_
    refine S.indexRo h0 Try.underlying41 ti3 rfl rfl (by omega) rfl ?_
    intro ad11 u11 hu11 hl11 hc11
    refine S.loadRo hS hc11 rfl Try.underlying3 rfl rfl rfl ?_
    refine S.assignT rfl ?_
    refine WS.done ?_
    refine WR.ret (ret1 rfl rfl ?_)
    exact ⟨congrArg (Value.int .i64) (lb_some hu11).symm, hS⟩
  ·
    skip
    refine WR.skip ?_
    refine WR.seq ?_
    refine WR.region rfl ?_
    refine S.assignC rfl ?_
    refine WS.done ?_
    refine WR.ret (ret1 rfl rfl ?_)
    exact ⟨congrArg (Value.int .i64) (lb_ge (by omega)).symm, hS⟩

set_option maxRecDepth 100000 in
set_option maxHeartbeats 4000000 in
theorem r_trim {w : World} {R : Kn} {L : List HP}  (hS : St w R (L)) {v0 : Value} {ds : List Int} (h0 : Ro R (encI .i64) 1 v0 ds) (hd : dig ds) (hm : ds.length ≤ 1000000) :
    Fn Try.prog 50 #[v0] w (fun v w' => ∃ a c es, v = .slice a es.length c ∧ Ro R (encI .i64) 1 v es ∧ dig es ∧ val es = val ds ∧ canon es ∧ es.length ≤ ds.length ∧ St w' R L) := by
  obtain ⟨a0, c0, rfl, hl0⟩ := h0.len
  refine Fn.intro (n := 21) Try.func50 rfl rfl rfl ?_
  refine WR.seq ?_
  refine WR.region rfl ?_
  refine S.assignC rfl ?_
  refine WS.done ?_
  refine WR.seq ?_
  refine WR.region rfl ?_
  refine S.moveT rfl ?_
  refine S.lenSl Try.underlying41 rfl rfl ?_
  refine S.assignT rfl ?_
  refine WS.done ?_
  refine WR.seq ?_
  refine WR.block ?_
  refine WR.loopE (fun rq mm rr wr => ∃ (n : Nat), mm = n ∧ (n ≤ ds.length ∧ vt ds n = val ds) ∧ rr 3 = .int .i64 (n : Int) ∧ Agr [0] rr rq ∧ St wr R L) ⟨ds.length, rfl, (by exact ⟨by omega, vt_all (Nat.le_refl _)⟩), rfl, ⟨rfl, trivial⟩, hS⟩ ?_
  rintro mm rr w1001 ⟨n, hm1001, ⟨hn, hvt⟩, hr1001_3, hA1001, hS1001⟩
  obtain ⟨rr, rfl⟩ := agrBack hA1001
  clear hA1001
  obtain ⟨rr, rfl⟩ := back1 (r := rr) hr1001_3
  clear hr1001_3
  refine WR.seq ?_
  refine WR.seq ?_
  refine WR.region rfl ?_
  refine S.moveT rfl ?_
  refine S.gtr rfl rfl rfl ?_
  refine S.moveT rfl ?_
  refine S.splitD (d := 8) rfl (fun c8 => ?_) (fun c8 => ?_)
  ·
    skip
    refine S.moveT rfl ?_
    refine S.moveT rfl ?_
    first
      | refine S.subN rfl rfl rfl (by omega) ?_
      | refine S.sub rfl rfl rfl ?_
    refine S.indexRo h0 Try.underlying41 ti3 rfl rfl (by omega) rfl ?_
    intro ad12 u12 hu12 hl12 hc12
    refine S.loadRo hS1001 hc12 rfl Try.underlying3 rfl rfl rfl ?_
    refine S.eql rfl rfl rfl ?_
    refine S.pickT rfl rfl ?_
    refine WS.done ?_
    refine WR.condD rfl (fun c15 => ?_) (fun c15 => ?_)
    ·
      skip
      refine WR.skip ?_
      refine WR.block ?_
      refine WR.region rfl ?_
      refine S.moveT rfl ?_
      first
        | refine S.subN rfl rfl rfl (by omega) ?_
        | refine S.sub rfl rfl rfl ?_
      refine S.assignT rfl ?_
      refine WS.done ?_
      exact ⟨_, (by omega), ⟨n - 1, rfl, (by exact ⟨by omega, by have h1 := vt_succ ds (n - 1); rw [show n - 1 + 1 = n by omega] at h1; have h2 : lb ds (n - 1) = u12 := lb_some (by rw [show ((n : Int) - 1).toNat = n - 1 by omega] at hu12; exact hu12); rw [h2, c15, Int.mul_zero] at h1; omega⟩), (by exact congrArg (Value.int .i64) (by omega)), ⟨rfl, trivial⟩, hS1001⟩⟩
    ·
      skip
      refine WR.exit ?_
      refine WR.seq ?_
      refine WR.region rfl ?_
      refine S.moveT rfl ?_
      refine S.moveT rfl ?_
      refine S.sliceHi (n) h0 Try.underlying41 ti3 rfl rfl (by omega) (by omega) rfl ?_
      intro a20 cc20 hro20
      refine S.assignT rfl ?_
      refine WS.done ?_
      refine WR.ret (ret1 rfl rfl ?_)
      refine ⟨_, _, ds.take n, by rw [List.length_take, Nat.min_eq_left hn]; rfl, hro20, dig_take hd n, hvt, .inr ?_, by rw [List.length_take, Nat.min_eq_left hn]; exact hn, hS1001⟩
      have h2 : lb ds (n - 1) = u12 := lb_some (by rw [show ((n : Int) - 1).toNat = n - 1 by omega] at hu12; exact hu12)
      rw [List.length_take, Nat.min_eq_left hn]
      unfold lb at h2 ⊢
      rw [List.getD_eq_getElem?_getD, List.getElem?_take, if_pos (by omega), ← List.getD_eq_getElem?_getD, h2]
      exact c15
  ·
    skip
    refine S.off rfl ?_
    refine S.off rfl ?_
    refine S.off rfl ?_
    refine S.off rfl ?_
    refine S.off rfl ?_
    refine S.off rfl ?_
    refine S.pickFC rfl rfl ?_
    refine WS.done ?_
    refine WR.condF rfl ?_
    refine WR.exit ?_
    refine WR.seq ?_
    refine WR.region rfl ?_
    refine S.moveT rfl ?_
    refine S.moveT rfl ?_
    refine S.sliceHi (n) h0 Try.underlying41 ti3 rfl rfl (by omega) (by omega) rfl ?_
    intro a20 cc20 hro20
    refine S.assignT rfl ?_
    refine WS.done ?_
    refine WR.ret (ret1 rfl rfl ?_)
    obtain rfl : n = 0 := by omega
    exact ⟨_, _, ds.take 0, rfl, hro20, dig_nil, hvt, canon_nil, by simp, hS1001⟩

set_option maxRecDepth 100000 in
set_option maxHeartbeats 4000000 in
theorem r_made {w : World} {R : Kn} {L : List HP}  (hS : St w R (L)) {neg : Bool} {v1 : Value} {ds : List Int} (h1 : Ro R (encI .i64) 1 v1 ds) (hd : dig ds) (hm : ds.length ≤ 1000000) :
    Fn Try.prog 32 #[.bool neg, v1] w (fun v w' => NumR R v (if neg = true then - val ds else val ds) ∧ St w' R L) := by
  refine Fn.intro (n := 15) Try.func32 rfl rfl rfl ?_
  refine WR.seq ?_
  refine WR.region rfl ?_
  refine S.alloc hS ti43 rfl rfl ?_
  intro b4 w4 hS4; clear hS
  refine WS.done ?_
  refine WR.seq ?_
  refine WR.region rfl ?_
  refine S.moveT rfl ?_
  refine S.call ent50 rfl (r_trim hS4 (by assumption) (by assumption) (by omega)) rfl ?_
  rintro _ w6 ⟨a6, c6, es6, rfl, hro6, hd6, hv6, hc6, hl6, hS6⟩
  clear hS4
  refine S.assignT rfl ?_
  refine WS.done ?_
  refine WR.seq ?_
  refine WR.region rfl ?_
  refine S.moveT rfl ?_
  refine S.moveT rfl ?_
  refine S.splitB (d := 8) rfl (fun c8 => ?_) (fun c8 => ?_)
  ·
    skip
    refine S.moveT rfl ?_
    refine S.lenSl Try.underlying41 rfl rfl ?_
    refine S.gtr rfl rfl rfl ?_
    refine S.pickT rfl rfl ?_
    refine S.moveT rfl ?_
    refine S.buildStruct [.bool _, .slice _ _ _] [(0, 1), (1, 1)] Try.underlying43 ti43 rfl (by kernel_rfl) rfl rfl rfl rfl rfl rfl ?_
    refine S.storeB (i := 0) hS6 rfl ti43 rfl rfl rfl rfl rfl rfl rfl rfl ?_
    intro w2001 hS2001; clear hS6
    refine WS.done ?_
    refine WR.ret (retC rfl rfl (run_loadBA (i := 0) hS2001 rfl Try.underlying43 rfl ti43 rfl rfl) ?_)
    subst c8
    refine ⟨⟨_, _, es6, rfl, hro6, hd6, hc6, fun h e => ?_, ?_⟩, hS2001.drop⟩
    · rw [e] at h; simp at h
    · by_cases h : es6 = []
      · subst h; rw [← hv6]; simp [val]
      · have : 0 < es6.length := List.length_pos_iff.2 h
        rw [if_pos rfl, if_pos (by simpa using this), hv6]
  ·
    skip
    refine S.off rfl ?_
    refine S.off rfl ?_
    refine S.off rfl ?_
    refine S.pickFC rfl rfl ?_
    refine S.moveT rfl ?_
    refine S.buildStruct [.bool _, .slice _ _ _] [(0, 1), (1, 1)] Try.underlying43 ti43 rfl (by kernel_rfl) rfl rfl rfl rfl rfl rfl ?_
    refine S.storeB (i := 0) hS6 rfl ti43 rfl rfl rfl rfl rfl rfl rfl rfl ?_
    intro w2002 hS2002; clear hS6
    refine WS.done ?_
    refine WR.ret (retC rfl rfl (run_loadBA (i := 0) hS2002 rfl Try.underlying43 rfl ti43 rfl rfl) ?_)
    subst c8
    exact ⟨⟨_, _, es6, rfl, hro6, hd6, hc6, (fun h => by cases h), by rw [if_neg (by decide), if_neg (by decide), hv6]⟩, hS2002.drop⟩

set_option maxRecDepth 100000 in
set_option maxHeartbeats 4000000 in
theorem r_plus {w : World} {R : Kn} {L : List HP}  (hS : St w R (L)) {v0 v1 : Value} {xs bs : List Int} (h0 : Ro R (encI .i64) 1 v0 xs) (h1 : Ro R (encI .i64) 1 v1 bs) (hda : dig xs) (hdb : dig bs) (hla : xs.length ≤ 1000) (hlb : bs.length ≤ 1000) :
    Fn Try.prog 33 #[v0, v1] w (fun v w' => ∃ R' a c es, R.le R' ∧ v = .slice a es.length c ∧ Ro R' (encI .i64) 1 v es ∧ dig es ∧ val es = val xs + val bs ∧ canon es ∧ es.length ≤ 1001 ∧ St w' R' L) := by
  obtain ⟨a0, c0, rfl, hl0⟩ := h0.len
  obtain ⟨a1, c1, rfl, hl1⟩ := h1.len
  refine Fn.intro (n := 36) Try.func33 rfl rfl rfl ?_
  refine WR.seq ?_
  refine WR.region rfl ?_
  refine S.assignC rfl ?_
  refine WS.done ?_
  refine WR.seq ?_
  refine WR.region rfl ?_
  first
    | refine S.buildRow (vs := []) hS Try.underlying41 ti3 rfl rfl rfl rfl rfl rfl rfl ?_
    | refine S.buildRow hS Try.underlying41 ti3 rfl rfl rfl rfl rfl rfl rfl ?_
  intro b8 w8 hS8; clear hS
  have hSo := hS8.ownRow (enc := encI .i64) (n := 1) [] rfl (fun _ h => by cases h) (by simp)
  refine S.assignT rfl ?_
  refine WS.done ?_
  refine WR.seq ?_
  refine WR.region rfl ?_
  refine S.assignC rfl ?_
  refine WS.done ?_
  refine WR.seq ?_
  refine WR.seq ?_
  refine WR.region rfl ?_
  refine S.assignC rfl ?_
  refine WS.done ?_
  refine WR.block ?_
  refine WR.loopE (fun rq mm rr wr => ∃ (i : Nat) (v5 : Value) (c : Int) (out : List Int), mm = max xs.length bs.length + 1 - i ∧ (i ≤ max xs.length bs.length + 1 ∧ (0 ≤ c ∧ c ≤ 1) ∧ out.length = i ∧ dig out ∧ val out + c * pw i = vt xs i + vt bs i) ∧ rr 5 = v5 ∧ rr 6 = .int .i64 c ∧ rr 7 = .int .i64 (i : Int) ∧ Agr [0, 1] rr rq ∧ St wr R (Ow 3 (encI .i64) 1 v5 out :: L)) ⟨0, _, 0, [], rfl, (by exact ⟨by omega, by omega, rfl, dig_nil, rfl⟩), rfl, rfl, rfl, ⟨rfl, rfl, trivial⟩, hSo⟩ ?_
  rintro mm rr w1001 ⟨i, v5, c, out, hm1001, hF, hr1001_5, hr1001_6, hr1001_7, hA1001, hS1001⟩
  obtain ⟨rr, rfl⟩ := agrBack hA1001
  clear hA1001
  obtain ⟨rr, rfl⟩ := back3 (r := rr) hr1001_5 hr1001_6 hr1001_7
  clear hr1001_5 hr1001_6 hr1001_7
  obtain ⟨hi, hc, hol, hod, hov⟩ := id hF
  refine WR.seq ?_
  refine WR.seq ?_
  refine WR.region rfl ?_
  refine S.moveT rfl ?_
  refine S.moveT rfl ?_
  refine S.lenSl Try.underlying41 rfl rfl ?_
  refine S.moveT rfl ?_
  refine S.lenSl Try.underlying41 rfl rfl ?_
  refine S.max2 rfl rfl rfl ?_
  refine S.leq rfl rfl rfl ?_
  refine WS.done ?_
  refine WR.condD rfl (fun c15 => ?_) (fun c15 => ?_)
  ·
    skip
    refine WR.skip ?_
    refine WR.seq ?_
    refine WR.block ?_
    refine WR.seq ?_
    refine WR.region rfl ?_
    have hx := lb_dig hda i
    have hy := lb_dig hdb i
    refine S.moveT rfl ?_
    refine S.moveT rfl ?_
    refine S.moveT rfl ?_
    refine S.call ent51 rfl (r_limb hS1001 (by exact h0) (by omega) (by exact Int.toNat_natCast _) (by omega)) rfl ?_
    rintro _ w21 ⟨rfl, hS21⟩
    clear hS1001
    refine S.moveT rfl ?_
    refine S.moveT rfl ?_
    refine S.call ent51 rfl (r_limb hS21 (by exact h1) (by omega) (by exact Int.toNat_natCast _) (by omega)) rfl ?_
    rintro _ w24 ⟨rfl, hS24⟩
    clear hS21
    first
      | refine S.addN rfl rfl rfl (by omega) ?_
      | refine S.add rfl rfl rfl ?_
    first
      | refine S.addN rfl rfl rfl (by omega) ?_
      | refine S.add rfl rfl rfl ?_
    refine S.assignT rfl ?_
    refine WS.done ?_
    refine WR.seq ?_
    refine WR.region rfl ?_
    refine S.moveT rfl ?_
    refine S.moveT rfl ?_
    first
      | refine S.remN rfl rfl (by omega) (by omega) rfl ?_
      | refine S.rem rfl rfl (by omega) rfl ?_
    first
      | refine S.buildRow (vs := [.int _ _]) hS24 Try.underlying41 ti3 rfl rfl rfl rfl rfl rfl rfl ?_
      | refine S.buildRow hS24 Try.underlying41 ti3 rfl rfl rfl rfl rfl rfl rfl ?_
    intro b30 w30 hS30; clear hS24
    refine S.appendTmp (i := 0) [_] hS30 rfl rfl (fun _ _ => rfl) Try.underlying41 ti3 rfl rfl rfl rfl encI_one (by first | omega | (simp; omega)) rfl ?_
    intro v31 w31 hS31; clear hS30
    refine S.assignT rfl ?_
    refine WS.done ?_
    refine WR.region rfl ?_
    refine S.moveT rfl ?_
    first
      | refine S.quoN rfl rfl (by omega) (by omega) rfl ?_
      | refine S.quo rfl rfl (by omega) rfl ?_
    refine S.assignT rfl ?_
    refine WS.done ?_
    refine WR.region rfl ?_
    refine S.moveT rfl ?_
    first
      | refine S.addN rfl rfl rfl (by omega) ?_
      | refine S.add rfl rfl rfl ?_
    refine S.assignT rfl ?_
    refine WS.done ?_
    exact ⟨_, (by omega), ⟨i + 1, v31, _, _, rfl, (by exact ⟨by omega, by have hx := lb_dig hda i; have hy := lb_dig hdb i; omega, by rw [List.length_append, hol]; rfl, dig_append.2 ⟨hod, fun d hd => by rw [List.mem_singleton] at hd; subst hd; omega⟩, by rw [pw_succ, vt_succ, vt_succ]; exact plus_step hov (by rw [hol])⟩), rfl, rfl, rfl, ⟨rfl, rfl, trivial⟩, hS31⟩⟩
  ·
    skip
    refine WR.exit ?_
    refine WR.seq ?_
    refine WR.region rfl ?_
    refine S.moveT rfl ?_
    obtain ⟨R1, hR1, hroO, hSf⟩ := hS1001.freeze (fun _ _ => rfl)
    have hdo := hF.2.2.2.1
    refine S.call ent50 rfl (r_trim hSf (by exact hroO) (by exact hdo) (by omega)) rfl ?_
    rintro _ w35 ⟨a35, c35, es35, rfl, hro35, hd35, hv35, hc35, hl35, hS35⟩
    clear hSf
    refine S.assignT rfl ?_
    refine WS.done ?_
    refine WR.ret (ret1 rfl rfl ?_)
    have hi2 : i = max xs.length bs.length + 1 := by omega
    have e1 := vt_all (a := xs) (i := i) (by omega)
    have e2 := vt_all (a := bs) (i := i) (by omega)
    rw [e1, e2] at hov
    have e3 := val_lt hda; have e4 := val_lt hdb
    have e5 := pw_le (show xs.length ≤ max xs.length bs.length by omega)
    have e6 := pw_le (show bs.length ≤ max xs.length bs.length by omega)
    have e7 := pw_succ (max xs.length bs.length)
    rw [← hi2] at e7
    have e8 := val_nonneg hod
    have e9 := pw_pos (max xs.length bs.length)
    have hc0 : c = 0 := by
      by_cases h : c = 0
      · exact h
      · have hc1 : c = 1 := by omega
        rw [hc1, Int.one_mul] at hov; omega
    rw [hc0, Int.zero_mul, Int.add_zero] at hov
    exact ⟨R1, _, _, es35, hR1, rfl, hro35, hd35, hv35.trans hov, hc35, by omega, hS35⟩

set_option maxRecDepth 100000 in
set_option maxHeartbeats 4000000 in
theorem r_minus {w : World} {R : Kn} {L : List HP}  (hS : St w R (L)) {v0 v1 : Value} {xs bs : List Int} (h0 : Ro R (encI .i64) 1 v0 xs) (h1 : Ro R (encI .i64) 1 v1 bs) (hda : dig xs) (hdb : dig bs) (hla : xs.length ≤ 1000) (hlb : bs.length ≤ 1000) (hge : val bs ≤ val xs) :
    Fn Try.prog 35 #[v0, v1] w (fun v w' => ∃ R' a c es, R.le R' ∧ v = .slice a es.length c ∧ Ro R' (encI .i64) 1 v es ∧ dig es ∧ val es = val xs - val bs ∧ canon es ∧ es.length ≤ 1001 ∧ St w' R' L) := by
  obtain ⟨a0, c0, rfl, hl0⟩ := h0.len
  obtain ⟨a1, c1, rfl, hl1⟩ := h1.len
  refine Fn.intro (n := 37) Try.func35 rfl rfl rfl ?_
  refine WR.seq ?_
  refine WR.region rfl ?_
  refine S.assignC rfl ?_
  refine WS.done ?_
  refine WR.seq ?_
  refine WR.region rfl ?_
  first
    | refine S.buildRow (vs := []) hS Try.underlying41 ti3 rfl rfl rfl rfl rfl rfl rfl ?_
    | refine S.buildRow hS Try.underlying41 ti3 rfl rfl rfl rfl rfl rfl rfl ?_
  intro b8 w8 hS8; clear hS
  have hSo := hS8.ownRow (enc := encI .i64) (n := 1) [] rfl (fun _ h => by cases h) (by simp)
  refine S.assignT rfl ?_
  refine WS.done ?_
  refine WR.seq ?_
  refine WR.region rfl ?_
  refine S.assignC rfl ?_
  refine WS.done ?_
  refine WR.seq ?_
  refine WR.seq ?_
  refine WR.region rfl ?_
  refine S.assignC rfl ?_
  refine WS.done ?_
  refine WR.block ?_
  refine WR.loopE (fun rq mm rr wr => ∃ (i : Nat) (v5 : Value) (c : Int) (out : List Int), mm = xs.length - i ∧ (i ≤ xs.length ∧ (0 ≤ c ∧ c ≤ 1) ∧ out.length = i ∧ dig out ∧ val out - c * pw i = vt xs i - vt bs i) ∧ rr 5 = v5 ∧ rr 6 = .int .i64 c ∧ rr 7 = .int .i64 (i : Int) ∧ Agr [0, 1] rr rq ∧ St wr R (Ow 3 (encI .i64) 1 v5 out :: L)) ⟨0, _, 0, [], rfl, (by exact ⟨by omega, by omega, rfl, dig_nil, rfl⟩), rfl, rfl, rfl, ⟨rfl, rfl, trivial⟩, hSo⟩ ?_
  rintro mm rr w1001 ⟨i, v5, c, out, hm1001, ⟨hi, hc, hol, hod, hov⟩, hr1001_5, hr1001_6, hr1001_7, hA1001, hS1001⟩
  obtain ⟨rr, rfl⟩ := agrBack hA1001
  clear hA1001
  obtain ⟨rr, rfl⟩ := back3 (r := rr) hr1001_5 hr1001_6 hr1001_7
  clear hr1001_5 hr1001_6 hr1001_7
  refine WR.seq ?_
  refine WR.seq ?_
  refine WR.region rfl ?_
  refine S.moveT rfl ?_
  refine S.moveT rfl ?_
  refine S.lenSl Try.underlying41 rfl rfl ?_
  refine S.lss rfl rfl rfl ?_
  refine WS.done ?_
  refine WR.condD rfl (fun c12 => ?_) (fun c12 => ?_)
  ·
    skip
    refine WR.skip ?_
    refine WR.seq ?_
    refine WR.block ?_
    refine WR.seq ?_
    refine WR.region rfl ?_
    have hx := lb_dig hda i
    have hy := lb_dig hdb i
    refine S.moveT rfl ?_
    refine S.moveT rfl ?_
    refine S.call ent51 rfl (r_limb hS1001 (by exact h0) (by omega) (by exact Int.toNat_natCast _) (by omega)) rfl ?_
    rintro _ w17 ⟨rfl, hS17⟩
    clear hS1001
    refine S.moveT rfl ?_
    refine S.moveT rfl ?_
    refine S.call ent51 rfl (r_limb hS17 (by exact h1) (by omega) (by exact Int.toNat_natCast _) (by omega)) rfl ?_
    rintro _ w20 ⟨rfl, hS20⟩
    clear hS17
    first
      | refine S.subN rfl rfl rfl (by omega) ?_
      | refine S.sub rfl rfl rfl ?_
    refine S.moveT rfl ?_
    first
      | refine S.subN rfl rfl rfl (by omega) ?_
      | refine S.sub rfl rfl rfl ?_
    refine S.assignT rfl ?_
    refine WS.done ?_
    refine WR.seq ?_
    refine WR.region rfl ?_
    refine S.moveT rfl ?_
    refine S.lss rfl rfl rfl ?_
    refine WS.done ?_
    refine WR.condD rfl (fun c25 => ?_) (fun c25 => ?_)
    ·
      skip
      refine WR.seq ?_
      refine WR.region rfl ?_
      refine S.moveT rfl ?_
      refine S.moveT rfl ?_
      first
        | refine S.addN rfl rfl rfl (by omega) ?_
        | refine S.add rfl rfl rfl ?_
      first
        | refine S.buildRow (vs := [.int _ _]) hS20 Try.underlying41 ti3 rfl rfl rfl rfl rfl rfl rfl ?_
        | refine S.buildRow hS20 Try.underlying41 ti3 rfl rfl rfl rfl rfl rfl rfl ?_
      intro b29 w29 hS29; clear hS20
      refine S.appendTmp (i := 0) [_] hS29 rfl rfl (fun _ _ => rfl) Try.underlying41 ti3 rfl rfl rfl rfl encI_one (by first | omega | (simp; omega)) rfl ?_
      intro v30 w30 hS30; clear hS29
      refine S.assignT rfl ?_
      refine WS.done ?_
      refine WR.region rfl ?_
      refine S.assignC rfl ?_
      refine WS.done ?_
      refine WR.region rfl ?_
      refine S.moveT rfl ?_
      first
        | refine S.addN rfl rfl rfl (by omega) ?_
        | refine S.add rfl rfl rfl ?_
      refine S.assignT rfl ?_
      refine WS.done ?_
      exact ⟨_, (by omega), ⟨i + 1, v30, _, _, rfl, (by exact ⟨by omega, by omega, by rw [List.length_append, hol]; rfl, dig_append.2 ⟨hod, fun d hd => by rw [List.mem_singleton] at hd; subst hd; omega⟩, by rw [pw_succ, vt_succ, vt_succ]; exact minus_step1 hov (by rw [hol])⟩), rfl, rfl, rfl, ⟨rfl, rfl, trivial⟩, hS30⟩⟩
    ·
      skip
      refine WR.seq ?_
      refine WR.region rfl ?_
      refine S.moveT rfl ?_
      refine S.moveT rfl ?_
      first
        | refine S.buildRow (vs := [.int _ _]) hS20 Try.underlying41 ti3 rfl rfl rfl rfl rfl rfl rfl ?_
        | refine S.buildRow hS20 Try.underlying41 ti3 rfl rfl rfl rfl rfl rfl rfl ?_
      intro b33 w33 hS33; clear hS20
      refine S.appendTmp (i := 0) [_] hS33 rfl rfl (fun _ _ => rfl) Try.underlying41 ti3 rfl rfl rfl rfl encI_one (by first | omega | (simp; omega)) rfl ?_
      intro v34 w34 hS34; clear hS33
      refine S.assignT rfl ?_
      refine WS.done ?_
      refine WR.region rfl ?_
      refine S.assignC rfl ?_
      refine WS.done ?_
      refine WR.region rfl ?_
      refine S.moveT rfl ?_
      first
        | refine S.addN rfl rfl rfl (by omega) ?_
        | refine S.add rfl rfl rfl ?_
      refine S.assignT rfl ?_
      refine WS.done ?_
      exact ⟨_, (by omega), ⟨i + 1, v34, _, _, rfl, (by exact ⟨by omega, by omega, by rw [List.length_append, hol]; rfl, dig_append.2 ⟨hod, fun d hd => by rw [List.mem_singleton] at hd; subst hd; omega⟩, by rw [pw_succ, vt_succ, vt_succ]; exact minus_step0 hov (by rw [hol])⟩), rfl, rfl, rfl, ⟨rfl, rfl, trivial⟩, hS34⟩⟩
  ·
    skip
    refine WR.exit ?_
    refine WR.seq ?_
    refine WR.region rfl ?_
    refine S.moveT rfl ?_
    obtain ⟨R1, hR1, hroO, hSf⟩ := hS1001.freeze (fun _ _ => rfl)
    refine S.call ent50 rfl (r_trim hSf (by exact hroO) (by exact hod) (by omega)) rfl ?_
    rintro _ w36 ⟨a36, c36, es36, rfl, hro36, hd36, hv36, hc36, hl36, hS36⟩
    clear hSf
    refine S.assignT rfl ?_
    refine WS.done ?_
    refine WR.ret (ret1 rfl rfl ?_)
    obtain rfl : i = xs.length := by omega
    rw [vt_all (Nat.le_refl _)] at hov
    have e1 := vt_vd bs xs.length
    have e2 := vt_lt hdb xs.length
    have e3 := vd_nonneg hdb xs.length
    have e4 := val_lt hda
    have e5 := vt_nonneg hdb xs.length
    have e6 := pw_pos xs.length
    have hz : vd bs xs.length = 0 := by
      by_cases h : vd bs xs.length = 0
      · exact h
      · have h1 : pw xs.length * 1 ≤ pw xs.length * vd bs xs.length := Int.mul_le_mul_of_nonneg_left (by omega) (Int.le_of_lt e6)
        omega
    rw [hz, Int.mul_zero, Int.add_zero] at e1
    rw [← e1] at hov
    have e7 := val_lt hod; have e8 := val_nonneg hod
    rw [hol] at e7
    have hc0 : c = 0 := by
      by_cases h : c = 0
      · exact h
      · have hc1 : c = 1 := by omega
        rw [hc1, Int.one_mul] at hov; omega
    rw [hc0, Int.zero_mul, Int.sub_zero] at hov
    exact ⟨R1, _, _, es36, hR1, rfl, hro36, hd36, hv36.trans hov, hc36, by omega, hS36⟩

set_option maxRecDepth 100000 in
set_option maxHeartbeats 4000000 in
theorem r_above {w : World} {R : Kn} {L : List HP}  (hS : St w R (L)) {v0 v1 : Value} {xs bs : List Int} (h0 : Ro R (encI .i64) 1 v0 xs) (h1 : Ro R (encI .i64) 1 v1 bs) (hda : dig xs) (hdb : dig bs) (hla : xs.length ≤ 1000) (hlb : bs.length ≤ 1000) :
    Fn Try.prog 34 #[v0, v1] w (fun v w' => v = .int .i64 (if val bs < val xs then 1 else if val xs < val bs then -1 else 0) ∧ St w' R L) := by
  obtain ⟨a0, c0, rfl, hl0⟩ := h0.len
  obtain ⟨a1, c1, rfl, hl1⟩ := h1.len
  refine Fn.intro (n := 30) Try.func34 rfl rfl rfl ?_
  refine WR.seq ?_
  refine WR.region rfl ?_
  refine S.assignC rfl ?_
  refine WS.done ?_
  refine WR.seq ?_
  refine WR.seq ?_
  refine WR.region rfl ?_
  refine S.moveT rfl ?_
  refine S.lenSl Try.underlying41 rfl rfl ?_
  refine S.moveT rfl ?_
  refine S.lenSl Try.underlying41 rfl rfl ?_
  refine S.max2 rfl rfl rfl ?_
  first
    | refine S.subN rfl rfl rfl (by omega) ?_
    | refine S.sub rfl rfl rfl ?_
  refine S.assignT rfl ?_
  refine WS.done ?_
  refine WR.block ?_
  refine WR.loopE (fun rq mm rr wr => ∃ (k : Nat), mm = k ∧ (k ≤ max xs.length bs.length ∧ vd xs k = vd bs k) ∧ rr 5 = .int .i64 ((k : Int) - 1) ∧ Agr [0, 1] rr rq ∧ St wr R L) ⟨max xs.length bs.length, rfl, (by exact ⟨Nat.le_refl _, by rw [vd_ge (by omega), vd_ge (by omega)]⟩), (by exact congrArg (Value.int .i64) (by omega)), ⟨rfl, rfl, trivial⟩, hS⟩ ?_
  rintro mm rr w1001 ⟨k, hm1001, ⟨hk, hvd⟩, hr1001_5, hA1001, hS1001⟩
  obtain ⟨rr, rfl⟩ := agrBack hA1001
  clear hA1001
  obtain ⟨rr, rfl⟩ := back1 (r := rr) hr1001_5
  clear hr1001_5
  refine WR.seq ?_
  refine WR.seq ?_
  refine WR.region rfl ?_
  refine S.moveT rfl ?_
  refine S.geq rfl rfl rfl ?_
  refine WS.done ?_
  refine WR.condD rfl (fun c13 => ?_) (fun c13 => ?_)
  ·
    skip
    refine WR.skip ?_
    refine WR.seq ?_
    refine WR.block ?_
    refine WR.seq ?_
    refine WR.seq ?_
    refine WR.region rfl ?_
    have hk1 : ((k : Int) - 1).toNat = k - 1 := by omega
    refine S.moveT rfl ?_
    refine S.moveT rfl ?_
    refine S.call ent51 rfl (r_limb hS1001 (by exact h0) (by omega) (by exact hk1) (by omega)) rfl ?_
    rintro _ w18 ⟨rfl, hS18⟩
    clear hS1001
    refine S.moveT rfl ?_
    refine S.moveT rfl ?_
    refine S.call ent51 rfl (r_limb hS18 (by exact h1) (by omega) (by exact hk1) (by omega)) rfl ?_
    rintro _ w21 ⟨rfl, hS21⟩
    clear hS18
    refine S.gtr rfl rfl rfl ?_
    refine WS.done ?_
    refine WR.condD rfl (fun c22 => ?_) (fun c22 => ?_)
    ·
      skip
      refine WR.seq ?_
      refine WR.region rfl ?_
      refine S.assignC rfl ?_
      refine WS.done ?_
      refine WR.ret (ret1 rfl rfl ?_)
      have := above_hi hda hdb (k - 1) (by rw [show k - 1 + 1 = k by omega]; exact hvd) c22
      exact ⟨congrArg (Value.int .i64) (if_pos this).symm, hS21⟩
    ·
      skip
      refine WR.skip ?_
      refine WR.seq ?_
      refine WR.region rfl ?_
      refine S.moveT rfl ?_
      refine S.moveT rfl ?_
      refine S.call ent51 rfl (r_limb hS21 (by exact h0) (by omega) (by exact hk1) (by omega)) rfl ?_
      rintro _ w25 ⟨rfl, hS25⟩
      clear hS21
      refine S.moveT rfl ?_
      refine S.moveT rfl ?_
      refine S.call ent51 rfl (r_limb hS25 (by exact h1) (by omega) (by exact hk1) (by omega)) rfl ?_
      rintro _ w28 ⟨rfl, hS28⟩
      clear hS25
      refine S.lss rfl rfl rfl ?_
      refine WS.done ?_
      refine WR.condD rfl (fun c29 => ?_) (fun c29 => ?_)
      ·
        skip
        refine WR.seq ?_
        refine WR.region rfl ?_
        refine S.assignC rfl ?_
        refine WS.done ?_
        refine WR.ret (ret1 rfl rfl ?_)
        have := above_hi hdb hda (k - 1) (by rw [show k - 1 + 1 = k by omega]; exact hvd.symm) c29
        exact ⟨congrArg (Value.int .i64) (by rw [if_neg (by omega), if_pos this]), hS28⟩
      ·
        skip
        refine WR.skip ?_
        refine WR.region rfl ?_
        refine S.moveT rfl ?_
        first
          | refine S.subN rfl rfl rfl (by omega) ?_
          | refine S.sub rfl rfl rfl ?_
        refine S.assignT rfl ?_
        refine WS.done ?_
        exact ⟨_, (by omega), ⟨k - 1, rfl, (by exact ⟨by omega, by refine above_eq (k - 1) (by rw [show k - 1 + 1 = k by omega]; exact hvd) (by omega)⟩), (by exact congrArg (Value.int .i64) (by omega)), ⟨rfl, rfl, trivial⟩, hS28⟩⟩
  ·
    skip
    refine WR.exit ?_
    refine WR.seq ?_
    refine WR.region rfl ?_
    refine S.assignC rfl ?_
    refine WS.done ?_
    refine WR.ret (ret1 rfl rfl ?_)
    obtain rfl : k = 0 := by omega
    rw [vd_zero, vd_zero] at hvd
    exact ⟨congrArg (Value.int .i64) (by rw [if_neg (by omega), if_neg (by omega)]), hS1001⟩

set_option maxRecDepth 100000 in
set_option maxHeartbeats 4000000 in
theorem r_whole {w : World} {R : Kn} {L : List HP}  (hS : St w R (L)) {x : Int} (hx : 0 ≤ x ∧ x < 18446744073709551616) :
    Fn Try.prog 36 #[.int .u64 x] w (fun v w' => ∃ R', R.le R' ∧ NumR R' v x ∧ St w' R' L) := by
  refine Fn.intro (n := 20) Try.func36 rfl rfl rfl ?_
  refine WR.seq ?_
  refine WR.region rfl ?_
  refine S.alloc hS ti43 rfl rfl ?_
  intro b2 w2 hS2; clear hS
  refine WS.done ?_
  refine WR.seq ?_
  refine WR.region rfl ?_
  first
    | refine S.buildRow (vs := []) hS2 Try.underlying41 ti3 rfl rfl rfl rfl rfl rfl rfl ?_
    | refine S.buildRow hS2 Try.underlying41 ti3 rfl rfl rfl rfl rfl rfl rfl ?_
  intro b5 w5 hS5; clear hS2
  have hSo := hS5.ownRow (enc := encI .i64) (n := 1) [] rfl (fun _ h => by cases h) (by simp)
  refine S.assignT rfl ?_
  refine WS.done ?_
  refine WR.seq ?_
  refine WR.seq ?_
  refine WR.region rfl ?_
  refine S.assignC rfl ?_
  refine WS.done ?_
  refine WR.block ?_
  refine WR.loopE (fun rq mm rr wr => ∃ (i : Nat) (y : Int) (v3 : Value) (out : List Int), mm = 4 - i ∧ (i ≤ 4 ∧ out.length = i ∧ dig out ∧ val out + pw i * y = x ∧ (0 ≤ y ∧ y < pw (4 - i))) ∧ rr 0 = .int .u64 y ∧ rr 3 = v3 ∧ rr 4 = .int .i64 (i : Int) ∧ Agr [2] rr rq ∧ St wr R (Ow 3 (encI .i64) 1 v3 out :: blk b2 (.cells (#[.bool false, .slice none 0 0]) 43 (0, 0)) :: L)) ⟨0, x, _, [], rfl, (by exact ⟨by omega, rfl, dig_nil, by simp [val, pw], hx.1, by have : pw (4 - 0) = 18446744073709551616 := rfl; omega⟩), rfl, rfl, rfl, ⟨rfl, trivial⟩, hSo⟩ ?_
  rintro mm rr w1001 ⟨i, y, v3, out, hm1001, ⟨hi4, hol, hod, hov, hl⟩, hr1001_0, hr1001_3, hr1001_4, hA1001, hS1001⟩
  obtain ⟨rr, rfl⟩ := agrBack hA1001
  clear hA1001
  obtain ⟨rr, rfl⟩ := back3 (r := rr) hr1001_0 hr1001_3 hr1001_4
  clear hr1001_0 hr1001_3 hr1001_4
  refine WR.seq ?_
  refine WR.seq ?_
  refine WR.region rfl ?_
  refine S.moveT rfl ?_
  refine S.lss rfl rfl rfl ?_
  refine WS.done ?_
  refine WR.condD rfl (fun c7 => ?_) (fun c7 => ?_)
  ·
    skip
    refine WR.skip ?_
    refine WR.seq ?_
    refine WR.block ?_
    refine WR.seq ?_
    refine WR.region rfl ?_
    have hb := whole_lt hl hi4
    refine S.moveT rfl ?_
    refine S.moveT rfl ?_
    first
      | refine S.remN rfl rfl (by omega) (by omega) rfl ?_
      | refine S.rem rfl rfl (by omega) rfl ?_
    first
      | refine S.convN Try.underlying38 Try.underlying3 rfl rfl (wrap_i64 (by omega) (by omega)) ?_
      | refine S.conv Try.underlying38 Try.underlying3 rfl rfl ?_
    first
      | refine S.buildRow (vs := [.int _ _]) hS1001 Try.underlying41 ti3 rfl rfl rfl rfl rfl rfl rfl ?_
      | refine S.buildRow hS1001 Try.underlying41 ti3 rfl rfl rfl rfl rfl rfl rfl ?_
    intro b14 w14 hS14; clear hS1001
    refine S.appendTmp (i := 0) [_] hS14 rfl rfl (fun _ _ => rfl) Try.underlying41 ti3 rfl rfl rfl rfl encI_one (by first | omega | (simp; omega)) rfl ?_
    intro v15 w15 hS15; clear hS14
    refine S.assignT rfl ?_
    refine WS.done ?_
    refine WR.region rfl ?_
    refine S.moveT rfl ?_
    refine S.quoU rfl rfl (by omega) (by omega) rfl ?_
    refine S.assignT rfl ?_
    refine WS.done ?_
    refine WR.region rfl ?_
    refine S.moveT rfl ?_
    first
      | refine S.addN rfl rfl rfl (by omega) ?_
      | refine S.add rfl rfl rfl ?_
    refine S.assignT rfl ?_
    refine WS.done ?_
    exact ⟨_, (by omega), ⟨i + 1, _, v15, _, rfl, (by exact whole_step hol hod hov hl (by omega)), rfl, rfl, rfl, ⟨rfl, trivial⟩, hS15⟩⟩
  ·
    skip
    refine WR.exit ?_
    refine WR.seq ?_
    refine WR.region rfl ?_
    refine S.moveT rfl ?_
    obtain ⟨R1, hR1, hroO, hSf⟩ := hS1001.freeze (fun _ _ => rfl)
    refine S.call ent32 rfl (r_made hSf (by exact hroO) (by exact hod) (by omega)) rfl ?_
    rintro v19 w19 ⟨hN19, hS19⟩
    clear hSf
    have hM19 := hN19
    obtain ⟨ng19, s19, ds19, rfl, hro19, hd19, hcn19, hnz19, hz19⟩ := hN19
    obtain ⟨aa19, cc19, rfl, hll19⟩ := hro19.len
    refine S.storeB (i := 0) hS19 rfl ti43 rfl rfl rfl rfl rfl rfl rfl rfl ?_
    intro w2001 hS2001; clear hS19
    refine WS.done ?_
    refine WR.ret (retC rfl rfl (run_loadBA (i := 0) hS2001 rfl Try.underlying43 rfl ti43 rfl rfl) ?_)
    obtain rfl : i = 4 := by omega
    have hy0 : y = 0 := by have : pw (4 - 4) = 1 := rfl; omega
    rw [hy0, Int.mul_zero, Int.add_zero] at hov
    exact ⟨R1, hR1, ⟨ng19, _, ds19, rfl, hro19, hd19, hcn19, hnz19, by rw [← hz19, if_neg (by decide)]; exact hov.symm⟩, hS2001.drop⟩

set_option maxRecDepth 100000 in
set_option maxHeartbeats 4000000 in
theorem r_of {w : World} {R : Kn} {L : List HP}  (hS : St w R (L)) {x : Int} (hx : fits x) :
    Fn Try.prog 16 #[.int .i64 x] w (fun v w' => ∃ R', R.le R' ∧ NumR R' v x ∧ St w' R' L) := by
  obtain ⟨hx1, hx2⟩ := hx
  refine Fn.intro (n := 16) Try.func16 rfl rfl rfl ?_
  refine WR.seq ?_
  refine WR.region rfl ?_
  refine S.alloc hS ti43 rfl rfl ?_
  intro b2 w2 hS2; clear hS
  refine WS.done ?_
  refine WR.seq ?_
  refine WR.seq ?_
  refine WR.region rfl ?_
  refine S.moveT rfl ?_
  refine S.geq rfl rfl rfl ?_
  refine WS.done ?_
  refine WR.condD rfl (fun c4 => ?_) (fun c4 => ?_)
  ·
    skip
    refine WR.seq ?_
    refine WR.region rfl ?_
    refine S.moveT rfl ?_
    first
      | refine S.convN Try.underlying2 Try.underlying38 rfl rfl (wrap_u64 (by omega) (by omega)) ?_
      | refine S.conv Try.underlying2 Try.underlying38 rfl rfl ?_
    refine S.call ent36 rfl (r_whole hS2 (by omega)) rfl ?_
    rintro v7 w7 ⟨R7, hR7, hN7, hS7⟩
    clear hS2
    have hM7 := hN7
    obtain ⟨ng7, s7, ds7, rfl, hro7, hd7, hcn7, hnz7, hz7⟩ := hN7
    obtain ⟨aa7, cc7, rfl, hll7⟩ := hro7.len
    refine S.storeB (i := 0) hS7 rfl ti43 rfl rfl rfl rfl rfl rfl rfl rfl ?_
    intro w2001 hS2001; clear hS7
    refine WS.done ?_
    refine WR.ret (retC rfl rfl (run_loadBA (i := 0) hS2001 rfl Try.underlying43 rfl ti43 rfl rfl) ?_)
    exact ⟨R7, hR7, ⟨ng7, _, ds7, rfl, hro7, hd7, hcn7, hnz7, hz7⟩, hS2001.drop⟩
  ·
    skip
    refine WR.skip ?_
    refine WR.seq ?_
    refine WR.region rfl ?_
    refine S.moveT rfl ?_
    first
      | refine S.addN rfl rfl rfl (by omega) ?_
      | refine S.add rfl rfl rfl ?_
    first
      | refine S.negN rfl rfl (by omega) ?_
      | refine S.neg rfl rfl ?_
    first
      | refine S.convN Try.underlying2 Try.underlying38 rfl rfl (wrap_u64 (by omega) (by omega)) ?_
      | refine S.conv Try.underlying2 Try.underlying38 rfl rfl ?_
    first
      | refine S.addU rfl rfl rfl (by omega) ?_
      | refine S.add rfl rfl rfl ?_
    refine S.call ent36 rfl (r_whole hS2 (by omega)) rfl ?_
    rintro v13 w13 ⟨R13, hR13, hN13, hS13⟩
    clear hS2
    have hM13 := hN13
    obtain ⟨ng13, s13, ds13, rfl, hro13, hd13, hcn13, hnz13, hz13⟩ := hN13
    obtain ⟨aa13, cc13, rfl, hll13⟩ := hro13.len
    refine S.field1 Try.underlying43 rfl Try.underlying41 rfl rfl rfl rfl ?_
    refine S.call ent32 rfl (r_made hS13 (by exact hro13) (by exact hd13) (by have := of_len hd13 hcn13 hz13 (by omega); omega)) rfl ?_
    rintro v15 w15 ⟨hN15, hS15⟩
    clear hS13
    have hM15 := hN15
    obtain ⟨ng15, s15, ds15, rfl, hro15, hd15, hcn15, hnz15, hz15⟩ := hN15
    obtain ⟨aa15, cc15, rfl, hll15⟩ := hro15.len
    refine S.storeB (i := 0) hS15 rfl ti43 rfl rfl rfl rfl rfl rfl rfl rfl ?_
    intro w2002 hS2002; clear hS15
    refine WS.done ?_
    refine WR.ret (retC rfl rfl (run_loadBA (i := 0) hS2002 rfl Try.underlying43 rfl ti43 rfl rfl) ?_)
    exact ⟨R13, hR13, ⟨ng15, _, ds15, rfl, hro15, hd15, hcn15, hnz15, by rw [← hz15, if_pos rfl]; have := of_neg hd13 hz13 (by omega); omega⟩, hS2002.drop⟩

set_option maxRecDepth 100000 in
set_option maxHeartbeats 4000000 in
theorem r_add {w : World} {R : Kn} {L : List HP}  (hS : St w R (L)) {v0 v1 : Value} {x y : Int} (h0 : NumR R v0 x) (h1 : NumR R v1 y) (hbx : (x.natAbs : Int) < big) (hby : (y.natAbs : Int) < big) :
    Fn Try.prog 15 #[v0, v1] w (fun v w' => ∃ R', R.le R' ∧ NumR R' v (x + y) ∧ St w' R' L) := by
  have hM0 := h0
  obtain ⟨ng0, s0, ds0, rfl, hro0, hd0, hcn0, hnz0, hz0⟩ := h0
  obtain ⟨a0, c0, rfl, hl0⟩ := hro0.len
  have hM1 := h1
  obtain ⟨ng1, s1, ds1, rfl, hro1, hd1, hcn1, hnz1, hz1⟩ := h1
  obtain ⟨a1, c1, rfl, hl1⟩ := hro1.len
  have hn0 := num_len hd0 hcn0 hz0 hbx
  have hn1 := num_len hd1 hcn1 hz1 hby
  refine Fn.intro (n := 40) Try.func15 rfl rfl rfl ?_
  refine WR.seq ?_
  refine WR.region rfl ?_
  refine S.box hS rfl rfl rfl ?_
  intro b2 w2 hS2; clear hS
  refine S.box hS2 rfl rfl rfl ?_
  intro b3 w3 hS3; clear hS2
  refine S.alloc hS3 ti43 rfl rfl ?_
  intro b4 w4 hS4; clear hS3
  refine WS.done ?_
  refine WR.seq ?_
  refine WR.seq ?_
  refine WR.region rfl ?_
  refine S.fieldB Try.underlying43 rfl ti4 rfl rfl rfl rfl ?_
  refine S.loadB (i := 2) hS4 rfl Try.underlying4 rfl rfl rfl rfl ?_
  refine S.fieldB Try.underlying43 rfl ti4 rfl rfl rfl rfl ?_
  refine S.loadB (i := 1) hS4 rfl Try.underlying4 rfl rfl rfl rfl ?_
  refine S.eqlB Try.underlying4 rfl rfl rfl ?_
  refine WS.done ?_
  refine WR.cond rfl (fun c9 => ?_) (fun c9 => ?_)
  ·
    skip
    refine WR.seq ?_
    refine WR.regionW (fun j => Nat.beq j 8) 9 rfl mixed hS4 ?_
    intro w6001 hS6001; clear hS4; have hC := hS6001
    refine WA.take (fuel := 8) 0 rfl (by kernel_rfl) (by kernel_rfl) (by kernel_rfl) (by kernel_rfl) rfl rfl hC ?_
    refine Q.fieldB Try.underlying43 rfl ti4 rfl rfl rfl rfl ?_
    refine WQ.done ?_
    refine WA.take (fuel := 7) 1 rfl (by kernel_rfl) (by kernel_rfl) (by kernel_rfl) (by kernel_rfl) rfl rfl hC ?_
    refine Q.loadB (i := 2) rfl Try.underlying4 rfl rfl rfl rfl ?_
    refine WQ.done ?_
    refine WA.take (fuel := 6) 2 rfl (by kernel_rfl) (by kernel_rfl) (by kernel_rfl) (by kernel_rfl) rfl rfl hC ?_
    refine Q.fieldB Try.underlying43 rfl ti41 rfl rfl rfl rfl ?_
    refine WQ.done ?_
    refine WA.take (fuel := 5) 3 rfl (by kernel_rfl) (by kernel_rfl) (by kernel_rfl) (by kernel_rfl) rfl rfl hC ?_
    refine Q.loadB (i := 2) rfl Try.underlying41 rfl rfl rfl rfl ?_
    refine WQ.done ?_
    refine WA.take (fuel := 4) 4 rfl (by kernel_rfl) (by kernel_rfl) (by kernel_rfl) (by kernel_rfl) rfl rfl hC ?_
    refine Q.fieldB Try.underlying43 rfl ti41 rfl rfl rfl rfl ?_
    refine WQ.done ?_
    refine WA.take (fuel := 3) 5 rfl (by kernel_rfl) (by kernel_rfl) (by kernel_rfl) (by kernel_rfl) rfl rfl hC ?_
    refine Q.loadB (i := 1) rfl Try.underlying41 rfl rfl rfl rfl ?_
    refine WQ.done ?_
    refine WA.one (fuel := 2) 6 rfl (by kernel_rfl) rfl ?_
    refine S.call ent33 rfl (r_plus hS6001 (by exact hro0) (by exact hro1) (by exact hd0) (by exact hd1) (by omega) (by omega)) rfl ?_
    rintro _ w16 ⟨R16, a16, c16, es16, hR16, rfl, hro16, hd16, hv16, hc16, hl16, hS16⟩
    clear hS6001
    replace hro0 := hro0.mono hR16
    replace hro1 := hro1.mono hR16
    replace hM0 := hM0.mono hR16
    replace hM1 := hM1.mono hR16
    refine WS.done ⟨fun _ => (hS16.weak hR16), ?_⟩
    replace hC := (hS16.weak hR16)
    refine WA.one (fuel := 1) 7 rfl (by kernel_rfl) rfl ?_
    refine S.call ent32 rfl (r_made (neg := ng0) hS16 (by exact hro16) (by exact hd16) (by omega)) rfl ?_
    rintro v17 w17 ⟨hN17, hS17⟩
    clear hS16
    have hM17 := hN17
    obtain ⟨ng17, s17, ds17, rfl, hro17, hd17, hcn17, hnz17, hz17⟩ := hN17
    obtain ⟨aa17, cc17, rfl, hll17⟩ := hro17.len
    refine WS.done ⟨fun _ => (hS17.weak hR16), ?_⟩
    replace hC := (hS17.weak hR16)
    refine WA.one (fuel := 0) 8 rfl (by kernel_rfl) rfl ?_
    refine S.storeB (i := 0) hS17 rfl ti43 rfl rfl rfl rfl rfl rfl rfl rfl ?_
    intro w2002 hS2002; clear hS17
    refine WS.done ⟨fun h => absurd h (by decide), ?_⟩
    refine WA.done (by kernel_rfl) ?_
    clear hC
    refine WR.ret (retC rfl rfl (run_loadBA (i := 0) hS2002 rfl Try.underlying43 rfl ti43 rfl rfl) ?_)
    exact ⟨R16, hR16, ⟨ng17, _, ds17, rfl, hro17, hd17, hcn17, hnz17, (add_same hz0 hz1 c9).trans ((if_val hv16).symm.trans hz17)⟩, hS2002.drop.drop.drop⟩
  ·
    skip
    refine WR.skip ?_
    refine WR.seq ?_
    refine WR.seq ?_
    refine WR.region rfl ?_
    refine S.fieldB Try.underlying43 rfl ti41 rfl rfl rfl rfl ?_
    refine S.loadB (i := 2) hS4 rfl Try.underlying41 rfl rfl rfl rfl ?_
    refine S.fieldB Try.underlying43 rfl ti41 rfl rfl rfl rfl ?_
    refine S.loadB (i := 1) hS4 rfl Try.underlying41 rfl rfl rfl rfl ?_
    refine S.call ent34 rfl (r_above hS4 (by exact hro0) (by exact hro1) (by exact hd0) (by exact hd1) (by omega) (by omega)) rfl ?_
    rintro _ w22 ⟨rfl, hS22⟩
    clear hS4
    refine S.geq rfl rfl rfl ?_
    refine WS.done ?_
    refine WR.condD rfl (fun c23 => ?_) (fun c23 => ?_)
    ·
      skip
      refine WR.seq ?_
      refine WR.regionW (fun j => Nat.beq j 8) 9 rfl mixed hS22 ?_
      intro w6003 hS6003; clear hS22; have hC := hS6003
      refine WA.take (fuel := 8) 0 rfl (by kernel_rfl) (by kernel_rfl) (by kernel_rfl) (by kernel_rfl) rfl rfl hC ?_
      refine Q.fieldB Try.underlying43 rfl ti4 rfl rfl rfl rfl ?_
      refine WQ.done ?_
      refine WA.take (fuel := 7) 1 rfl (by kernel_rfl) (by kernel_rfl) (by kernel_rfl) (by kernel_rfl) rfl rfl hC ?_
      refine Q.loadB (i := 2) rfl Try.underlying4 rfl rfl rfl rfl ?_
      refine WQ.done ?_
      refine WA.take (fuel := 6) 2 rfl (by kernel_rfl) (by kernel_rfl) (by kernel_rfl) (by kernel_rfl) rfl rfl hC ?_
      refine Q.fieldB Try.underlying43 rfl ti41 rfl rfl rfl rfl ?_
      refine WQ.done ?_
      refine WA.take (fuel := 5) 3 rfl (by kernel_rfl) (by kernel_rfl) (by kernel_rfl) (by kernel_rfl) rfl rfl hC ?_
      refine Q.loadB (i := 2) rfl Try.underlying41 rfl rfl rfl rfl ?_
      refine WQ.done ?_
      refine WA.take (fuel := 4) 4 rfl (by kernel_rfl) (by kernel_rfl) (by kernel_rfl) (by kernel_rfl) rfl rfl hC ?_
      refine Q.fieldB Try.underlying43 rfl ti41 rfl rfl rfl rfl ?_
      refine WQ.done ?_
      refine WA.take (fuel := 3) 5 rfl (by kernel_rfl) (by kernel_rfl) (by kernel_rfl) (by kernel_rfl) rfl rfl hC ?_
      refine Q.loadB (i := 1) rfl Try.underlying41 rfl rfl rfl rfl ?_
      refine WQ.done ?_
      refine WA.one (fuel := 2) 6 rfl (by kernel_rfl) rfl ?_
      refine S.call ent35 rfl (r_minus hS6003 (by exact hro0) (by exact hro1) (by exact hd0) (by exact hd1) (by omega) (by omega) (by exact above_ge c23)) rfl ?_
      rintro _ w30 ⟨R30, a30, c30, es30, hR30, rfl, hro30, hd30, hv30, hc30, hl30, hS30⟩
      clear hS6003
      replace hro0 := hro0.mono hR30
      replace hro1 := hro1.mono hR30
      replace hM0 := hM0.mono hR30
      replace hM1 := hM1.mono hR30
      refine WS.done ⟨fun _ => (hS30.weak hR30), ?_⟩
      replace hC := (hS30.weak hR30)
      refine WA.one (fuel := 1) 7 rfl (by kernel_rfl) rfl ?_
      refine S.call ent32 rfl (r_made (neg := ng0) hS30 (by exact hro30) (by exact hd30) (by omega)) rfl ?_
      rintro v31 w31 ⟨hN31, hS31⟩
      clear hS30
      have hM31 := hN31
      obtain ⟨ng31, s31, ds31, rfl, hro31, hd31, hcn31, hnz31, hz31⟩ := hN31
      obtain ⟨aa31, cc31, rfl, hll31⟩ := hro31.len
      refine WS.done ⟨fun _ => (hS31.weak hR30), ?_⟩
      replace hC := (hS31.weak hR30)
      refine WA.one (fuel := 0) 8 rfl (by kernel_rfl) rfl ?_
      refine S.storeB (i := 0) hS31 rfl ti43 rfl rfl rfl rfl rfl rfl rfl rfl ?_
      intro w2004 hS2004; clear hS31
      refine WS.done ⟨fun h => absurd h (by decide), ?_⟩
      refine WA.done (by kernel_rfl) ?_
      clear hC
      refine WR.ret (retC rfl rfl (run_loadBA (i := 0) hS2004 rfl Try.underlying43 rfl ti43 rfl rfl) ?_)
      exact ⟨R30, hR30, ⟨ng31, _, ds31, rfl, hro31, hd31, hcn31, hnz31, (add_diff hz0 hz1 c9).trans ((if_val hv30).symm.trans hz31)⟩, hS2004.drop.drop.drop⟩
    ·
      skip
      refine WR.skip ?_
      refine WR.seq ?_
      refine WR.regionW (fun j => Nat.beq j 8) 9 rfl mixed hS22 ?_
      intro w6005 hS6005; clear hS22; have hC := hS6005
      refine WA.take (fuel := 8) 0 rfl (by kernel_rfl) (by kernel_rfl) (by kernel_rfl) (by kernel_rfl) rfl rfl hC ?_
      refine Q.fieldB Try.underlying43 rfl ti4 rfl rfl rfl rfl ?_
      refine WQ.done ?_
      refine WA.take (fuel := 7) 1 rfl (by kernel_rfl) (by kernel_rfl) (by kernel_rfl) (by kernel_rfl) rfl rfl hC ?_
      refine Q.loadB (i := 1) rfl Try.underlying4 rfl rfl rfl rfl ?_
      refine WQ.done ?_
      refine WA.take (fuel := 6) 2 rfl (by kernel_rfl) (by kernel_rfl) (by kernel_rfl) (by kernel_rfl) rfl rfl hC ?_
      refine Q.fieldB Try.underlying43 rfl ti41 rfl rfl rfl rfl ?_
      refine WQ.done ?_
      refine WA.take (fuel := 5) 3 rfl (by kernel_rfl) (by kernel_rfl) (by kernel_rfl) (by kernel_rfl) rfl rfl hC ?_
      refine Q.loadB (i := 1) rfl Try.underlying41 rfl rfl rfl rfl ?_
      refine WQ.done ?_
      refine WA.take (fuel := 4) 4 rfl (by kernel_rfl) (by kernel_rfl) (by kernel_rfl) (by kernel_rfl) rfl rfl hC ?_
      refine Q.fieldB Try.underlying43 rfl ti41 rfl rfl rfl rfl ?_
      refine WQ.done ?_
      refine WA.take (fuel := 3) 5 rfl (by kernel_rfl) (by kernel_rfl) (by kernel_rfl) (by kernel_rfl) rfl rfl hC ?_
      refine Q.loadB (i := 2) rfl Try.underlying41 rfl rfl rfl rfl ?_
      refine WQ.done ?_
      refine WA.one (fuel := 2) 6 rfl (by kernel_rfl) rfl ?_
      refine S.call ent35 rfl (r_minus hS6005 (by exact hro1) (by exact hro0) (by exact hd1) (by exact hd0) (by omega) (by omega) (by exact above_lt c23)) rfl ?_
      rintro _ w38 ⟨R38, a38, c38, es38, hR38, rfl, hro38, hd38, hv38, hc38, hl38, hS38⟩
      clear hS6005
      replace hro0 := hro0.mono hR38
      replace hro1 := hro1.mono hR38
      replace hM0 := hM0.mono hR38
      replace hM1 := hM1.mono hR38
      refine WS.done ⟨fun _ => (hS38.weak hR38), ?_⟩
      replace hC := (hS38.weak hR38)
      refine WA.one (fuel := 1) 7 rfl (by kernel_rfl) rfl ?_
      refine S.call ent32 rfl (r_made (neg := ng1) hS38 (by exact hro38) (by exact hd38) (by omega)) rfl ?_
      rintro v39 w39 ⟨hN39, hS39⟩
      clear hS38
      have hM39 := hN39
      obtain ⟨ng39, s39, ds39, rfl, hro39, hd39, hcn39, hnz39, hz39⟩ := hN39
      obtain ⟨aa39, cc39, rfl, hll39⟩ := hro39.len
      refine WS.done ⟨fun _ => (hS39.weak hR38), ?_⟩
      replace hC := (hS39.weak hR38)
      refine WA.one (fuel := 0) 8 rfl (by kernel_rfl) rfl ?_
      refine S.storeB (i := 0) hS39 rfl ti43 rfl rfl rfl rfl rfl rfl rfl rfl ?_
      intro w2006 hS2006; clear hS39
      refine WS.done ⟨fun h => absurd h (by decide), ?_⟩
      refine WA.done (by kernel_rfl) ?_
      clear hC
      refine WR.ret (retC rfl rfl (run_loadBA (i := 0) hS2006 rfl Try.underlying43 rfl ti43 rfl rfl) ?_)
      exact ⟨R38, hR38, ⟨ng39, _, ds39, rfl, hro39, hd39, hcn39, hnz39, (add_diff' hz0 hz1 c9).trans ((if_val hv38).symm.trans hz39)⟩, hS2006.drop.drop.drop⟩

set_option maxRecDepth 100000 in
set_option maxHeartbeats 4000000 in
theorem r_long {w : World} {R : Kn} {L : List HP}  (hS : St w R (L)) {v0 : Value} {x : Int} (h0 : NumR R v0 x) :
    Fn Try.prog 37 #[v0] w (fun v w' => ∃ x0, v = .tuple #[.int .i64 x0, .bool (decide (fits x))] ∧ (fits x → x0 = x) ∧ St w' R L) := by
  have hM0 := h0
  obtain ⟨ng0, s0, ds0, rfl, hro0, hd0, hcn0, hnz0, hz0⟩ := h0
  obtain ⟨a0, c0, rfl, hl0⟩ := hro0.len
  have hvn := val_nonneg hd0
  refine Fn.intro (n := 40) Try.func37 rfl rfl rfl ?_
  refine WR.seq ?_
  refine WR.region rfl ?_
  refine S.box hS rfl rfl rfl ?_
  intro b1 w1 hS1; clear hS
  refine S.assignC rfl ?_
  refine S.assignC rfl ?_
  refine WS.done ?_
  refine WR.seq ?_
  refine WR.seq ?_
  refine WR.region rfl ?_
  refine S.fieldB Try.underlying43 rfl ti41 rfl rfl rfl rfl ?_
  refine S.loadB (i := 0) hS1 rfl Try.underlying41 rfl rfl rfl rfl ?_
  refine S.lenSl Try.underlying41 rfl rfl ?_
  refine S.gtr rfl rfl rfl ?_
  refine WS.done ?_
  refine WR.condD rfl (fun c9 => ?_) (fun c9 => ?_)
  ·
    skip
    refine WR.seq ?_
    refine WR.region rfl ?_
    refine S.assignC rfl ?_
    refine S.assignC rfl ?_
    refine WS.done ?_
    refine WR.ret (ret2 rfl rfl rfl ?_)
    exact ⟨_, tup2 rfl (congrArg Value.bool (decide_eq_false (long_far hd0 hcn0 hz0 (by omega))).symm), fun h => absurd h (long_far hd0 hcn0 hz0 (by omega)), hS1.drop⟩
  ·
    skip
    refine WR.skip ?_
    refine WR.seq ?_
    refine WR.region rfl ?_
    refine S.assignC rfl ?_
    refine WS.done ?_
    refine WR.seq ?_
    refine WR.seq ?_
    refine WR.region rfl ?_
    refine S.fieldB Try.underlying43 rfl ti41 rfl rfl rfl rfl ?_
    refine S.loadB (i := 0) hS1 rfl Try.underlying41 rfl rfl rfl rfl ?_
    refine S.lenSl Try.underlying41 rfl rfl ?_
    first
      | refine S.subN rfl rfl rfl (by omega) ?_
      | refine S.sub rfl rfl rfl ?_
    refine S.assignT rfl ?_
    refine WS.done ?_
    refine WR.block ?_
    refine WR.loopE (fun rq mm rr wr => ∃ (k : Nat), mm = k ∧ (k ≤ ds0.length) ∧ rr 4 = .int .u64 (vd ds0 k) ∧ rr 5 = .int .i64 ((k : Int) - 1) ∧ Agr [1] rr rq ∧ St wr R (blk b1 (.cells (#[.bool ng0, .slice a0 ds0.length c0]) 43 (0, 0)) :: L)) ⟨ds0.length, rfl, (by omega), (by exact congrArg (Value.int .u64) (vd_ge (Nat.le_refl _)).symm), rfl, ⟨rfl, trivial⟩, hS1⟩ ?_
    rintro mm rr w1001 ⟨k, hm1001, hf1001, hr1001_4, hr1001_5, hA1001, hS1001⟩
    obtain ⟨rr, rfl⟩ := agrBack hA1001
    clear hA1001
    obtain ⟨rr, rfl⟩ := back2 (r := rr) hr1001_4 hr1001_5
    clear hr1001_4 hr1001_5
    refine WR.seq ?_
    refine WR.seq ?_
    refine WR.region rfl ?_
    refine S.moveT rfl ?_
    refine S.geq rfl rfl rfl ?_
    refine WS.done ?_
    refine WR.condD rfl (fun c15 => ?_) (fun c15 => ?_)
    ·
      skip
      refine WR.skip ?_
      refine WR.seq ?_
      refine WR.block ?_
      refine WR.region rfl ?_
      have hvb := vd_bound hd0 (k := k) (by omega) (by omega)
      refine S.moveT rfl ?_
      first
        | refine S.mulU rfl rfl rfl (by omega) ?_
        | refine S.mul rfl rfl rfl ?_
      refine S.fieldB Try.underlying43 rfl ti41 rfl rfl rfl rfl ?_
      refine S.loadB (i := 0) hS1001 rfl Try.underlying41 rfl rfl rfl rfl ?_
      refine S.moveT rfl ?_
      refine S.indexRo hro0 Try.underlying41 ti3 rfl rfl (by omega) rfl ?_
      intro ad23 u23 hu23 hl23 hc23
      refine S.loadRo hS1001 hc23 rfl Try.underlying3 rfl rfl rfl ?_
      have hu := hd0 u23 (List.mem_of_getElem? hu23)
      first
        | refine S.convN Try.underlying3 Try.underlying38 rfl rfl (wrap_u64 (by omega) (by omega)) ?_
        | refine S.conv Try.underlying3 Try.underlying38 rfl rfl ?_
      first
        | refine S.addU rfl rfl rfl (by omega) ?_
        | refine S.add rfl rfl rfl ?_
      refine S.assignT rfl ?_
      refine WS.done ?_
      refine WR.region rfl ?_
      refine S.moveT rfl ?_
      first
        | refine S.subN rfl rfl rfl (by omega) ?_
        | refine S.sub rfl rfl rfl ?_
      refine S.assignT rfl ?_
      refine WS.done ?_
      exact ⟨_, (by omega), ⟨k - 1, rfl, (by omega), (by exact congrArg (Value.int .u64) (vd_down (by omega) hu23)), (by exact congrArg (Value.int .i64) (by omega)), ⟨rfl, trivial⟩, hS1001⟩⟩
    ·
      skip
      refine WR.exit ?_
      refine WR.seq ?_
      refine WR.seq ?_
      refine WR.region rfl ?_
      obtain rfl : k = 0 := by omega
      refine S.as (d := 4) rfl (congrArg (Value.int .u64) (vd_zero ds0)) ?_
      have hvl := val_lt4 hd0 (by omega)
      refine S.fieldB Try.underlying43 rfl ti4 rfl rfl rfl rfl ?_
      refine S.loadB (i := 0) hS1001 rfl Try.underlying4 rfl rfl rfl rfl ?_
      refine WS.done ?_
      refine WR.cond rfl (fun c28 => ?_) (fun c28 => ?_)
      ·
        skip
        refine WR.seq ?_
        refine WR.seq ?_
        refine WR.region rfl ?_
        refine S.moveT rfl ?_
        refine S.gtr rfl rfl rfl ?_
        refine WS.done ?_
        refine WR.condD rfl (fun c30 => ?_) (fun c30 => ?_)
        ·
          skip
          refine WR.seq ?_
          refine WR.region rfl ?_
          refine S.assignC rfl ?_
          refine S.assignC rfl ?_
          refine WS.done ?_
          refine WR.ret (ret2 rfl rfl rfl ?_)
          have hnf : ¬ fits x := by rw [hz0, if_pos c28]; unfold fits; omega
          exact ⟨_, tup2 rfl (congrArg Value.bool (decide_eq_false hnf).symm), fun h => absurd h hnf, hS1001.drop⟩
        ·
          skip
          refine WR.skip ?_
          refine WR.seq ?_
          refine WR.region rfl ?_
          have hpos := neg_pos hd0 hcn0 (hnz0 c28)
          refine S.moveT rfl ?_
          first
            | refine S.subU rfl rfl rfl (by omega) ?_
            | refine S.sub rfl rfl rfl ?_
          first
            | refine S.convN Try.underlying38 Try.underlying2 rfl rfl (wrap_i64 (by omega) (by omega)) ?_
            | refine S.conv Try.underlying38 Try.underlying2 rfl rfl ?_
          first
            | refine S.negN rfl rfl (by omega) ?_
            | refine S.neg rfl rfl ?_
          first
            | refine S.subN rfl rfl rfl (by omega) ?_
            | refine S.sub rfl rfl rfl ?_
          refine S.assignT rfl ?_
          refine S.assignC rfl ?_
          refine WS.done ?_
          refine WR.ret (ret2 rfl rfl rfl ?_)
          have hyf : fits x := by rw [hz0, if_pos c28]; unfold fits; omega
          exact ⟨_, tup2 rfl (congrArg Value.bool (decide_eq_true hyf).symm), fun _ => by rw [hz0, if_pos c28]; omega, hS1001.drop⟩
      ·
        skip
        refine WR.skip ?_
        refine WR.seq ?_
        refine WR.region rfl ?_
        refine S.moveT rfl ?_
        first
          | refine S.convN Try.underlying38 Try.underlying2 rfl rfl (wrap_i64 (by omega) (by omega)) ?_
          | refine S.conv Try.underlying38 Try.underlying2 rfl rfl ?_
        refine S.moveT rfl ?_
        refine S.lss rfl rfl rfl ?_
        refine S.assignT rfl ?_
        refine S.assignT rfl ?_
        refine WS.done ?_
        refine WR.ret (ret2 rfl rfl rfl ?_)
        have hx : x = val ds0 := by rw [hz0, c28]; rfl
        exact ⟨_, tup2 rfl (congrArg Value.bool (by rw [hx]; exact decide_eq_decide.2 (by unfold fits; omega))), fun h => by rw [hx] at h ⊢; exact wrap_i64 h.1 h.2, hS1001.drop⟩

set_option maxRecDepth 100000 in
set_option maxHeartbeats 4000000 in
theorem r_total {w : World} {R : Kn} {L : List HP}  (hS : St w R (L)) {v0 : Value} {xs : List Int} (h0 : Ro R (encI .i64) 1 v0 xs) (hf : ∀ x ∈ xs, fits x) (hm : xs.length ≤ 1000000) :
    Fn Try.prog 49 #[v0] w (fun v w' => ∃ R', R.le R' ∧ NumR R' v xs.sum ∧ St w' R' L) := by
  obtain ⟨a0, c0, rfl, hl0⟩ := h0.len
  refine Fn.intro (n := 20) Try.func49 rfl rfl rfl ?_
  refine WR.seq ?_
  refine WR.region rfl ?_
  refine S.alloc hS ti43 rfl rfl ?_
  intro b2 w2 hS2; clear hS
  refine WS.done ?_
  refine WR.seq ?_
  refine WR.region rfl ?_
  refine S.buildZero ti43 rfl (by kernel_rfl) rfl ?_
  refine S.alloc hS2 ti43 rfl rfl ?_
  intro b3 w3 hS3; clear hS2
  refine S.storeB (i := 0) hS3 rfl ti43 rfl rfl rfl rfl rfl rfl rfl rfl ?_
  intro w2001 hS2001; clear hS3
  refine WS.done ?_
  refine WR.seq ?_
  refine WR.seq ?_
  refine WR.region rfl ?_
  refine S.assignC rfl ?_
  refine WS.done ?_
  refine WR.block ?_
  refine WR.loopE (fun rq mm rr wr => ∃ (i : Nat) (R2 : Kn) (ng : Bool) (ac : Option Addr) (al acp : Nat), mm = xs.length - i ∧ (i ≤ xs.length ∧ R.le R2 ∧ NumR R2 (.agg #[.bool ng, .slice ac al acp]) (xs.take i).sum) ∧ rr 4 = .int .i64 (i : Int) ∧ Agr [0, 2, 3] rr rq ∧ St wr R2 (blk b3 (.cells (#[.bool ng, .slice ac al acp]) 43 (0, 0)) :: blk b2 (.cells (#[.bool false, .slice none 0 0]) 43 (0, 0)) :: L)) ⟨0, R, false, none, 0, 0, rfl, (by exact ⟨by omega, Kn.le.refl _, NumR.zero⟩), rfl, ⟨rfl, rfl, rfl, trivial⟩, hS2001⟩ ?_
  rintro mm rr w1001 ⟨i, R2, ng, ac, al, acp, hm1001, ⟨hi, hR2, hacc⟩, hr1001_4, hA1001, hS1001⟩
  obtain ⟨rr, rfl⟩ := agrBack hA1001
  clear hA1001
  obtain ⟨rr, rfl⟩ := back1 (r := rr) hr1001_4
  clear hr1001_4
  have h0 := h0.mono hR2
  refine WR.seq ?_
  refine WR.seq ?_
  refine WR.region rfl ?_
  refine S.moveT rfl ?_
  refine S.moveT rfl ?_
  refine S.lenSl Try.underlying22 rfl rfl ?_
  refine S.lss rfl rfl rfl ?_
  refine WS.done ?_
  refine WR.condD rfl (fun c9 => ?_) (fun c9 => ?_)
  ·
    skip
    refine WR.skip ?_
    refine WR.seq ?_
    refine WR.block ?_
    refine WR.regionW (fun j => Nat.beq j 7) 8 rfl mixed hS1001 ?_
    intro w6002 hS6002; clear hS1001; have hC := hS6002
    refine WA.take (fuel := 7) 0 rfl (by kernel_rfl) (by kernel_rfl) (by kernel_rfl) (by kernel_rfl) rfl rfl hC ?_
    refine Q.loadBA (i := 0) rfl Try.underlying43 rfl ti43 rfl rfl rfl rfl ?_
    refine WQ.done ?_
    refine WA.take (fuel := 6) 1 rfl (by kernel_rfl) (by kernel_rfl) (by kernel_rfl) (by kernel_rfl) rfl rfl hC ?_
    refine Q.moveT rfl ?_
    refine WQ.done ?_
    refine WA.take (fuel := 5) 2 rfl (by kernel_rfl) (by kernel_rfl) (by kernel_rfl) (by kernel_rfl) rfl rfl hC ?_
    refine Q.moveT rfl ?_
    refine WQ.done ?_
    refine WA.take (fuel := 4) 3 rfl (by kernel_rfl) (by kernel_rfl) (by kernel_rfl) (by kernel_rfl) rfl rfl hC ?_
    refine Q.indexRo h0 Try.underlying22 ti2 rfl rfl (by omega) rfl ?_
    intro ad15 u15 hu15 hl15 hc15
    refine WQ.done ?_
    refine WA.take (fuel := 3) 4 rfl (by kernel_rfl) (by kernel_rfl) (by kernel_rfl) (by kernel_rfl) rfl rfl hC ?_
    refine Q.loadRo hc15 rfl Try.underlying2 rfl rfl rfl ?_
    refine WQ.done ?_
    refine WA.one (fuel := 2) 5 rfl (by kernel_rfl) rfl ?_
    refine S.call ent16 rfl (r_of hS6002 (by exact hf u15 (List.mem_of_getElem? hu15))) rfl ?_
    rintro v17 w17 ⟨R17, hR17, hN17, hS17⟩
    clear hS6002
    have hM17 := hN17
    obtain ⟨ng17, s17, ds17, rfl, hro17, hd17, hcn17, hnz17, hz17⟩ := hN17
    obtain ⟨aa17, cc17, rfl, hll17⟩ := hro17.len
    replace h0 := h0.mono hR17
    refine WS.done ⟨fun _ => (hS17.weak hR17), ?_⟩
    replace hC := (hS17.weak hR17)
    refine WA.one (fuel := 1) 6 rfl (by kernel_rfl) rfl ?_
    refine S.call ent15 rfl (r_add hS17 (by exact hacc.mono hR17) (by exact hM17) (by exact sum_big hf hm i) (by exact fits_big (hf u15 (List.mem_of_getElem? hu15)))) rfl ?_
    rintro v18 w18 ⟨R18, hR18, hN18, hS18⟩
    clear hS17
    have hM18 := hN18
    obtain ⟨ng18, s18, ds18, rfl, hro18, hd18, hcn18, hnz18, hz18⟩ := hN18
    obtain ⟨aa18, cc18, rfl, hll18⟩ := hro18.len
    replace h0 := h0.mono hR18
    replace hro17 := hro17.mono hR18
    refine WS.done ⟨fun _ => ((hS18.weak hR18).weak hR17), ?_⟩
    replace hC := ((hS18.weak hR18).weak hR17)
    refine WA.one (fuel := 0) 7 rfl (by kernel_rfl) rfl ?_
    refine S.storeB (i := 0) hS18 rfl ti43 rfl rfl rfl rfl rfl rfl rfl rfl ?_
    intro w2003 hS2003; clear hS18
    refine WS.done ⟨fun h => absurd h (by decide), ?_⟩
    refine WA.done (by kernel_rfl) ?_
    clear hC
    refine WR.region rfl ?_
    refine S.moveT rfl ?_
    first
      | refine S.addN rfl rfl rfl (by omega) ?_
      | refine S.add rfl rfl rfl ?_
    refine S.assignT rfl ?_
    refine WS.done ?_
    exact ⟨_, (by omega), ⟨i + 1, R18, _, _, _, _, rfl, (by exact ⟨by omega, (hR2.trans hR17).trans hR18, by rw [sum_succ hu15]; exact hM18⟩), rfl, ⟨rfl, rfl, rfl, trivial⟩, hS2003⟩⟩
  ·
    skip
    refine WR.exit ?_
    refine WR.seq ?_
    refine WR.region rfl ?_
    refine S.loadBA (i := 0) hS1001 rfl Try.underlying43 rfl ti43 rfl rfl rfl rfl ?_
    refine S.storeB (i := 1) hS1001 rfl ti43 rfl rfl rfl rfl rfl rfl rfl rfl ?_
    intro w2004 hS2004; clear hS1001
    refine WS.done ?_
    refine WR.ret (retC rfl rfl (run_loadBA (i := 1) hS2004 rfl Try.underlying43 rfl ti43 rfl rfl) ?_)
    exact ⟨R2, hR2, by rw [List.take_of_length_le (by omega)] at hacc; exact hacc, hS2004.drop.drop⟩

set_option maxRecDepth 100000 in
set_option maxHeartbeats 4000000 in
theorem r_neg {w : World} {R : Kn} {L : List HP}  (hS : St w R (L)) {v0 : Value} {x : Int} (h0 : NumR R v0 x) (hbx : (x.natAbs : Int) < big) :
    Fn Try.prog 39 #[v0] w (fun v w' => NumR R v (-x) ∧ St w' R L) := by
  have hM0 := h0
  obtain ⟨ng0, s0, ds0, rfl, hro0, hd0, hcn0, hnz0, hz0⟩ := h0
  obtain ⟨a0, c0, rfl, hl0⟩ := hro0.len
  have hn0 := num_len hd0 hcn0 hz0 hbx
  refine Fn.intro (n := 9) Try.func39 rfl rfl rfl ?_
  refine WR.seq ?_
  refine WR.region rfl ?_
  refine S.box hS rfl rfl rfl ?_
  intro b1 w1 hS1; clear hS
  refine S.alloc hS1 ti43 rfl rfl ?_
  intro b2 w2 hS2; clear hS1
  refine WS.done ?_
  refine WR.seq ?_
  refine WR.region rfl ?_
  refine S.fieldB Try.underlying43 rfl ti4 rfl rfl rfl rfl ?_
  refine S.loadB (i := 1) hS2 rfl Try.underlying4 rfl rfl rfl rfl ?_
  refine S.not rfl rfl ?_
  refine S.fieldB Try.underlying43 rfl ti41 rfl rfl rfl rfl ?_
  refine S.loadB (i := 1) hS2 rfl Try.underlying41 rfl rfl rfl rfl ?_
  refine S.call ent32 rfl (r_made hS2 (by exact hro0) (by exact hd0) (by omega)) rfl ?_
  rintro v8 w8 ⟨hN8, hS8⟩
  clear hS2
  have hM8 := hN8
  obtain ⟨ng8, s8, ds8, rfl, hro8, hd8, hcn8, hnz8, hz8⟩ := hN8
  obtain ⟨aa8, cc8, rfl, hll8⟩ := hro8.len
  refine S.storeB (i := 0) hS8 rfl ti43 rfl rfl rfl rfl rfl rfl rfl rfl ?_
  intro w2001 hS2001; clear hS8
  refine WS.done ?_
  refine WR.ret (retC rfl rfl (run_loadBA (i := 0) hS2001 rfl Try.underlying43 rfl ti43 rfl rfl) ?_)
  exact ⟨⟨ng8, _, ds8, rfl, hro8, hd8, hcn8, hnz8, by rw [← hz8, hz0]; cases ng0 <;> simp⟩, hS2001.drop.drop⟩

set_option maxRecDepth 100000 in
set_option maxHeartbeats 4000000 in
theorem r_div {w : World} {R : Kn} {L : List HP}  (hS : St w R (L)) {v0 v1 : Value} {x y : Int} {up : Bool} (h0 : NumR R v0 x) (h1 : NumR R v1 y) (hbx : (x.natAbs : Int) < big) (hby : (y.natAbs : Int) < big) (hy0 : 0 < y) :
    Fn Try.prog 38 #[v0, v1, .bool up] w (fun v w' => ∃ R', R.le R' ∧ NumR R' v (quot x y up) ∧ St w' R' L) := by
  have hM0 := h0
  obtain ⟨ng0, s0, ds0, rfl, hro0, hd0, hcn0, hnz0, hz0⟩ := h0
  obtain ⟨a0, c0, rfl, hl0⟩ := hro0.len
  have hM1 := h1
  obtain ⟨ng1, s1, ds1, rfl, hro1, hd1, hcn1, hnz1, hz1⟩ := h1
  obtain ⟨a1, c1, rfl, hl1⟩ := hro1.len
  have hn0 := num_len hd0 hcn0 hz0 hbx
  have hn1 := num_len hd1 hcn1 hz1 hby
  have hX0 := val_nonneg hd0
  have hY0 := val_nonneg hd1
  have hYy := num_pos hY0 hz1 hy0
  rw [num_abs hd0 hz0] at hbx
  rw [num_abs hd1 hz1] at hby
  have hb0 : 0 < big := pw_pos 64
  refine Fn.intro (n := 70) Try.func38 rfl rfl rfl ?_
  refine WR.seq ?_
  refine WR.region rfl ?_
  refine S.box hS rfl rfl rfl ?_
  intro b3 w3 hS3; clear hS
  refine S.box hS3 rfl rfl rfl ?_
  intro b4 w4 hS4; clear hS3
  refine S.alloc hS4 ti43 rfl rfl ?_
  intro b6 w6 hS6; clear hS4
  refine WS.done ?_
  refine WR.seq ?_
  refine WR.region rfl ?_
  first
    | refine S.buildRow (vs := []) hS6 Try.underlying41 ti3 rfl rfl rfl rfl rfl rfl rfl ?_
    | refine S.buildRow hS6 Try.underlying41 ti3 rfl rfl rfl rfl rfl rfl rfl ?_
  intro b10 w10 hS10; clear hS6
  obtain ⟨R10, hR10, hro10, hSf10⟩ := hS10.keepRow (enc := encI .i64) (n := 1) [] rfl (fun _ _ => rfl)
  replace hro0 := hro0.mono hR10
  replace hro1 := hro1.mono hR10
  refine S.assignT rfl ?_
  refine WS.done ?_
  refine WR.seq ?_
  refine WR.region rfl ?_
  first
    | refine S.buildRow (vs := []) hSf10 Try.underlying41 ti3 rfl rfl rfl rfl rfl rfl rfl ?_
    | refine S.buildRow hSf10 Try.underlying41 ti3 rfl rfl rfl rfl rfl rfl rfl ?_
  intro b11 w11 hS11; clear hSf10
  obtain ⟨R11, hR11, hro11, hSf11⟩ := hS11.keepRow (enc := encI .i64) (n := 1) [] rfl (fun _ _ => rfl)
  replace hro0 := hro0.mono hR11
  replace hro1 := hro1.mono hR11
  replace hro10 := hro10.mono hR11
  refine S.assignT rfl ?_
  refine WS.done ?_
  refine WR.seq ?_
  refine WR.seq ?_
  refine WR.region rfl ?_
  refine S.fieldB Try.underlying43 rfl ti41 rfl rfl rfl rfl ?_
  refine S.loadB (i := 2) hSf11 rfl Try.underlying41 rfl rfl rfl rfl ?_
  refine S.lenSl Try.underlying41 rfl rfl ?_
  first
    | refine S.mulN rfl rfl rfl (by omega) ?_
    | refine S.mul rfl rfl rfl ?_
  first
    | refine S.subN rfl rfl rfl (by omega) ?_
    | refine S.sub rfl rfl rfl ?_
  refine S.assignT rfl ?_
  refine WS.done ?_
  refine WR.block ?_
  refine WR.loopE (fun rq mm rr wr => ∃ (k : Nat) (R2 : Kn) (v7 v8 : Value) (qs rs : List Int), mm = k ∧ (k ≤ 16 * ds0.length ∧ R11.le R2 ∧ Ro R2 (encI .i64) 1 v7 qs ∧ Ro R2 (encI .i64) 1 v8 rs ∧ dig qs ∧ dig rs ∧ canon qs ∧ canon rs ∧ Dv (val ds0) (val ds1) k (val qs) (val rs)) ∧ rr 7 = v7 ∧ rr 8 = v8 ∧ rr 9 = .int .i64 ((k : Int) - 1) ∧ Agr [2, 3, 4, 6] rr rq ∧ St wr R2 (blk b6 (.cells (#[.bool false, .slice none 0 0]) 43 (0, 0)) :: blk b4 (.cells (#[.bool ng1, .slice a1 ds1.length c1]) 43 (0, 0)) :: blk b3 (.cells (#[.bool ng0, .slice a0 ds0.length c0]) 43 (0, 0)) :: L)) ⟨16 * ds0.length, R11, _, _, [], [], rfl, (by exact ⟨Nat.le_refl _, Kn.le.refl _, hro10, hro11, dig_nil, dig_nil, canon_nil, canon_nil, Dv.start hX0 (val_lt hd0) (by omega)⟩), rfl, rfl, (by exact congrArg (Value.int .i64) (by omega)), ⟨rfl, rfl, rfl, rfl, trivial⟩, hSf11⟩ ?_
  rintro mm rr w1001 ⟨k, R2, v7, v8, qs, rs, hm1001, ⟨hk, hR2, hq, hr, hdq, hdr, hcq, hcr, hD⟩, hr1001_7, hr1001_8, hr1001_9, hA1001, hS1001⟩
  obtain ⟨rr, rfl⟩ := agrBack hA1001
  clear hA1001
  obtain ⟨rr, rfl⟩ := back3 (r := rr) hr1001_7 hr1001_8 hr1001_9
  clear hr1001_7 hr1001_8 hr1001_9
  have hro0 := hro0.mono hR2
  have hro1 := hro1.mono hR2
  have hDlo := hD.lo
  have hDhi := hD.hi
  have hDq := hD.q_le hX0
  obtain ⟨aq, cq, rfl, hlq⟩ := hq.len
  obtain ⟨ar, cr, rfl, hlr⟩ := hr.len
  refine WR.seq ?_
  refine WR.seq ?_
  refine WR.region rfl ?_
  refine S.moveT rfl ?_
  refine S.geq rfl rfl rfl ?_
  refine WS.done ?_
  refine WR.condD rfl (fun c18 => ?_) (fun c18 => ?_)
  ·
    skip
    have hk0 : 1 ≤ k := by omega
    refine WR.skip ?_
    refine WR.seq ?_
    refine WR.block ?_
    refine WR.seq ?_
    refine WR.region rfl ?_
    refine S.moveT rfl ?_
    refine S.moveT rfl ?_
    refine S.call ent33 rfl (r_plus hS1001 (by exact hr) (by exact hr) (by exact hdr) (by exact hdr) (by exact len65 hdr hcr (by omega)) (by exact len65 hdr hcr (by omega))) rfl ?_
    rintro _ w23 ⟨R23, a23, c23, es23, hR23, rfl, hro23, hd23, hv23, hc23, hl23, hS23⟩
    clear hS1001
    replace hro0 := hro0.mono hR23
    replace hro1 := hro1.mono hR23
    replace hq := hq.mono hR23
    replace hr := hr.mono hR23
    refine S.assignT rfl ?_
    refine WS.done ?_
    refine WR.seq ?_
    refine WR.seq ?_
    refine WR.region rfl ?_
    refine S.fieldB Try.underlying43 rfl ti41 rfl rfl rfl rfl ?_
    refine S.loadB (i := 2) hS23 rfl Try.underlying41 rfl rfl rfl rfl ?_
    refine S.moveT rfl ?_
    first
      | refine S.quoN rfl rfl (by omega) (by omega) rfl ?_
      | refine S.quo rfl rfl (by omega) rfl ?_
    first
      | refine S.indexRo hro0 Try.underlying41 ti3 rfl rfl (by omega) rfl ?_
      | refine S.indexRo hro1 Try.underlying41 ti3 rfl rfl (by omega) rfl ?_
      | refine S.indexRo hq Try.underlying41 ti3 rfl rfl (by omega) rfl ?_
      | refine S.indexRo hr Try.underlying41 ti3 rfl rfl (by omega) rfl ?_
      | refine S.indexRo hro23 Try.underlying41 ti3 rfl rfl (by omega) rfl ?_
    intro ad28 u28 hu28 hl28 hc28
    refine S.loadRo hS23 hc28 rfl Try.underlying3 rfl rfl rfl ?_
    refine S.moveT rfl ?_
    first
      | refine S.remN rfl rfl (by omega) (by omega) rfl ?_
      | refine S.rem rfl rfl (by omega) rfl ?_
    first
      | refine S.convN Try.underlying3 Try.underlying82 rfl rfl (wrap_u64 (by omega) (by omega)) ?_
      | refine S.conv Try.underlying3 Try.underlying82 rfl rfl ?_
    refine S.shr rfl rfl (by omega) rfl ?_
    have hun := u_nonneg hd0 hu28 (min (((k : Int) - 1) % 16).toNat IntKind.i64.bits)
    first
      | refine S.remN rfl rfl (by omega) (by omega) rfl ?_
      | refine S.rem rfl rfl (by omega) rfl ?_
    refine S.as (d := 34) rfl (congrArg (Value.int .i64) (bit_shr hd0 hk0 hu28 rfl)) ?_
    refine S.eql rfl rfl rfl ?_
    refine WS.done ?_
    refine WR.condD rfl (fun c35 => ?_) (fun c35 => ?_)
    ·
      skip
      refine WR.region rfl ?_
      refine S.moveT rfl ?_
      first
        | refine S.buildRow (vs := [.int _ _]) hS23 Try.underlying41 ti3 rfl rfl rfl rfl rfl rfl rfl ?_
        | refine S.buildRow hS23 Try.underlying41 ti3 rfl rfl rfl rfl rfl rfl rfl ?_
      intro b37 w37 hS37; clear hS23
      obtain ⟨R37, hR37, hro37, hSf37⟩ := hS37.keepRow (enc := encI .i64) (n := 1) [1] rfl (fun _ _ => rfl)
      replace hro0 := hro0.mono hR37
      replace hro1 := hro1.mono hR37
      replace hq := hq.mono hR37
      replace hr := hr.mono hR37
      replace hro23 := hro23.mono hR37
      refine S.call ent33 rfl (r_plus hSf37 (by exact hro23) (by exact hro37) (by exact hd23) (by exact (fun d h => by rw [List.mem_singleton] at h; omega)) (by exact len65 hd23 hc23 (by omega)) (by decide)) rfl ?_
      rintro _ w38 ⟨R38, a38, c38, es38, hR38, rfl, hro38, hd38, hv38, hc38, hl38, hS38⟩
      clear hSf37
      replace hro0 := hro0.mono hR38
      replace hro1 := hro1.mono hR38
      replace hq := hq.mono hR38
      replace hr := hr.mono hR38
      replace hro23 := hro23.mono hR38
      replace hro37 := hro37.mono hR38
      refine S.assignT rfl ?_
      refine WS.done ?_
      refine WR.seq ?_
      refine WR.region rfl ?_
      refine S.moveT rfl ?_
      refine S.moveT rfl ?_
      refine S.call ent33 rfl (r_plus hS38 (by exact hq) (by exact hq) (by exact hdq) (by exact hdq) (by exact len65 hdq hcq (by omega)) (by exact len65 hdq hcq (by omega))) rfl ?_
      rintro _ w41 ⟨R41, a41, c41, es41, hR41, rfl, hro41, hd41, hv41, hc41, hl41, hS41⟩
      clear hS38
      replace hro0 := hro0.mono hR41
      replace hro1 := hro1.mono hR41
      replace hq := hq.mono hR41
      replace hr := hr.mono hR41
      replace hro23 := hro23.mono hR41
      replace hro37 := hro37.mono hR41
      replace hro38 := hro38.mono hR41
      refine S.assignT rfl ?_
      refine WS.done ?_
      refine WR.seq ?_
      refine WR.region rfl ?_
      refine S.moveT rfl ?_
      refine S.fieldB Try.underlying43 rfl ti41 rfl rfl rfl rfl ?_
      refine S.loadB (i := 1) hS41 rfl Try.underlying41 rfl rfl rfl rfl ?_
      refine S.call ent34 rfl (r_above hS41 (by first | exact hro38 | exact hro23) (by exact hro1) (by first | exact hd38 | exact hd23) (by exact hd1) (by first | exact len65 hd38 hc38 (by rw [hv38]; simp [val]; omega) | exact len65 hd23 hc23 (by omega)) (by omega)) rfl ?_
      rintro _ w45 ⟨rfl, hS45⟩
      clear hS41
      refine S.geq rfl rfl rfl ?_
      refine WS.done ?_
      refine WR.condD rfl (fun c46 => ?_) (fun c46 => ?_)
      ·
        skip
        refine WR.seq ?_
        refine WR.region rfl ?_
        refine S.moveT rfl ?_
        refine S.fieldB Try.underlying43 rfl ti41 rfl rfl rfl rfl ?_
        refine S.loadB (i := 1) hS45 rfl Try.underlying41 rfl rfl rfl rfl ?_
        refine S.call ent35 rfl (r_minus hS45 (by first | exact hro38 | exact hro23) (by exact hro1) (by first | exact hd38 | exact hd23) (by exact hd1) (by first | exact len65 hd38 hc38 (by rw [hv38]; simp [val]; omega) | exact len65 hd23 hc23 (by omega)) (by omega) (by exact above_ge c46)) rfl ?_
        rintro _ w50 ⟨R50, a50, c50, es50, hR50, rfl, hro50, hd50, hv50, hc50, hl50, hS50⟩
        clear hS45
        replace hro0 := hro0.mono hR50
        replace hro1 := hro1.mono hR50
        replace hq := hq.mono hR50
        replace hr := hr.mono hR50
        replace hro23 := hro23.mono hR50
        replace hro37 := hro37.mono hR50
        replace hro38 := hro38.mono hR50
        replace hro41 := hro41.mono hR50
        refine S.assignT rfl ?_
        refine WS.done ?_
        refine WR.region rfl ?_
        refine S.moveT rfl ?_
        first
          | refine S.buildRow (vs := [.int _ _]) hS50 Try.underlying41 ti3 rfl rfl rfl rfl rfl rfl rfl ?_
          | refine S.buildRow hS50 Try.underlying41 ti3 rfl rfl rfl rfl rfl rfl rfl ?_
        intro b52 w52 hS52; clear hS50
        obtain ⟨R52, hR52, hro52, hSf52⟩ := hS52.keepRow (enc := encI .i64) (n := 1) [1] rfl (fun _ _ => rfl)
        replace hro0 := hro0.mono hR52
        replace hro1 := hro1.mono hR52
        replace hq := hq.mono hR52
        replace hr := hr.mono hR52
        replace hro23 := hro23.mono hR52
        replace hro37 := hro37.mono hR52
        replace hro38 := hro38.mono hR52
        replace hro41 := hro41.mono hR52
        replace hro50 := hro50.mono hR52
        refine S.call ent33 rfl (r_plus hSf52 (by exact hro41) (by exact hro52) (by exact hd41) (by exact (fun d h => by rw [List.mem_singleton] at h; omega)) (by exact len65 hd41 hc41 (by omega)) (by decide)) rfl ?_
        rintro _ w53 ⟨R53, a53, c53, es53, hR53, rfl, hro53, hd53, hv53, hc53, hl53, hS53⟩
        clear hSf52
        replace hro0 := hro0.mono hR53
        replace hro1 := hro1.mono hR53
        replace hq := hq.mono hR53
        replace hr := hr.mono hR53
        replace hro23 := hro23.mono hR53
        replace hro37 := hro37.mono hR53
        replace hro38 := hro38.mono hR53
        replace hro41 := hro41.mono hR53
        replace hro50 := hro50.mono hR53
        replace hro52 := hro52.mono hR53
        refine S.assignT rfl ?_
        refine WS.done ?_
        refine WR.region rfl ?_
        refine S.moveT rfl ?_
        first
          | refine S.subN rfl rfl rfl (by omega) ?_
          | refine S.sub rfl rfl rfl ?_
        refine S.assignT rfl ?_
        refine WS.done ?_
        have hbit := c35
        have e38 : val es38 = val rs + val rs + 1 := by rw [hv38, hv23]; simp [val]
        have e53 : val es53 = val qs + val qs + 1 := by rw [hv53, hv41]; simp [val]
        have hst := hD.stepT hk0 hbit e38 (above_ge c46)
        rw [← e53, ← hv50] at hst
        exact ⟨_, (by omega), ⟨k - 1, R53, _, _, es53, es50, rfl, (by exact ⟨by omega, hR2.trans (hR23.trans (hR37.trans (hR38.trans (hR41.trans (hR50.trans (hR52.trans hR53)))))), hro53, hro50, hd53, hd50, hc53, hc50, hst⟩), rfl, rfl, (by exact congrArg (Value.int .i64) (by omega)), ⟨rfl, rfl, rfl, rfl, trivial⟩, hS53⟩⟩
      ·
        skip
        refine WR.skip ?_
        refine WR.region rfl ?_
        refine S.moveT rfl ?_
        first
          | refine S.subN rfl rfl rfl (by omega) ?_
          | refine S.sub rfl rfl rfl ?_
        refine S.assignT rfl ?_
        refine WS.done ?_
        have hbit := c35
        have e38 : val es38 = val rs + val rs + 1 := by rw [hv38, hv23]; simp [val]
        have hst := hD.stepF hk0 hbit e38 (above_no c46)
        rw [← hv41] at hst
        exact ⟨_, (by omega), ⟨k - 1, R41, _, _, es41, es38, rfl, (by exact ⟨by omega, hR2.trans (hR23.trans (hR37.trans (hR38.trans (hR41)))), hro41, hro38, hd41, hd38, hc41, hc38, hst⟩), rfl, rfl, (by exact congrArg (Value.int .i64) (by omega)), ⟨rfl, rfl, rfl, rfl, trivial⟩, hS45⟩⟩
    ·
      skip
      refine WR.skip ?_
      refine WR.seq ?_
      refine WR.region rfl ?_
      refine S.moveT rfl ?_
      refine S.moveT rfl ?_
      refine S.call ent33 rfl (r_plus hS23 (by exact hq) (by exact hq) (by exact hdq) (by exact hdq) (by exact len65 hdq hcq (by omega)) (by exact len65 hdq hcq (by omega))) rfl ?_
      rintro _ w41 ⟨R41, a41, c41, es41, hR41, rfl, hro41, hd41, hv41, hc41, hl41, hS41⟩
      clear hS23
      replace hro0 := hro0.mono hR41
      replace hro1 := hro1.mono hR41
      replace hq := hq.mono hR41
      replace hr := hr.mono hR41
      replace hro23 := hro23.mono hR41
      refine S.assignT rfl ?_
      refine WS.done ?_
      refine WR.seq ?_
      refine WR.region rfl ?_
      refine S.moveT rfl ?_
      refine S.fieldB Try.underlying43 rfl ti41 rfl rfl rfl rfl ?_
      refine S.loadB (i := 1) hS41 rfl Try.underlying41 rfl rfl rfl rfl ?_
      refine S.call ent34 rfl (r_above hS41 (by first | exact hro38 | exact hro23) (by exact hro1) (by first | exact hd38 | exact hd23) (by exact hd1) (by first | exact len65 hd38 hc38 (by rw [hv38]; simp [val]; omega) | exact len65 hd23 hc23 (by omega)) (by omega)) rfl ?_
      rintro _ w45 ⟨rfl, hS45⟩
      clear hS41
      refine S.geq rfl rfl rfl ?_
      refine WS.done ?_
      refine WR.condD rfl (fun c46 => ?_) (fun c46 => ?_)
      ·
        skip
        refine WR.seq ?_
        refine WR.region rfl ?_
        refine S.moveT rfl ?_
        refine S.fieldB Try.underlying43 rfl ti41 rfl rfl rfl rfl ?_
        refine S.loadB (i := 1) hS45 rfl Try.underlying41 rfl rfl rfl rfl ?_
        refine S.call ent35 rfl (r_minus hS45 (by first | exact hro38 | exact hro23) (by exact hro1) (by first | exact hd38 | exact hd23) (by exact hd1) (by first | exact len65 hd38 hc38 (by rw [hv38]; simp [val]; omega) | exact len65 hd23 hc23 (by omega)) (by omega) (by exact above_ge c46)) rfl ?_
        rintro _ w50 ⟨R50, a50, c50, es50, hR50, rfl, hro50, hd50, hv50, hc50, hl50, hS50⟩
        clear hS45
        replace hro0 := hro0.mono hR50
        replace hro1 := hro1.mono hR50
        replace hq := hq.mono hR50
        replace hr := hr.mono hR50
        replace hro23 := hro23.mono hR50
        replace hro41 := hro41.mono hR50
        refine S.assignT rfl ?_
        refine WS.done ?_
        refine WR.region rfl ?_
        refine S.moveT rfl ?_
        first
          | refine S.buildRow (vs := [.int _ _]) hS50 Try.underlying41 ti3 rfl rfl rfl rfl rfl rfl rfl ?_
          | refine S.buildRow hS50 Try.underlying41 ti3 rfl rfl rfl rfl rfl rfl rfl ?_
        intro b52 w52 hS52; clear hS50
        obtain ⟨R52, hR52, hro52, hSf52⟩ := hS52.keepRow (enc := encI .i64) (n := 1) [1] rfl (fun _ _ => rfl)
        replace hro0 := hro0.mono hR52
        replace hro1 := hro1.mono hR52
        replace hq := hq.mono hR52
        replace hr := hr.mono hR52
        replace hro23 := hro23.mono hR52
        replace hro41 := hro41.mono hR52
        replace hro50 := hro50.mono hR52
        refine S.call ent33 rfl (r_plus hSf52 (by exact hro41) (by exact hro52) (by exact hd41) (by exact (fun d h => by rw [List.mem_singleton] at h; omega)) (by exact len65 hd41 hc41 (by omega)) (by decide)) rfl ?_
        rintro _ w53 ⟨R53, a53, c53, es53, hR53, rfl, hro53, hd53, hv53, hc53, hl53, hS53⟩
        clear hSf52
        replace hro0 := hro0.mono hR53
        replace hro1 := hro1.mono hR53
        replace hq := hq.mono hR53
        replace hr := hr.mono hR53
        replace hro23 := hro23.mono hR53
        replace hro41 := hro41.mono hR53
        replace hro50 := hro50.mono hR53
        replace hro52 := hro52.mono hR53
        refine S.assignT rfl ?_
        refine WS.done ?_
        refine WR.region rfl ?_
        refine S.moveT rfl ?_
        first
          | refine S.subN rfl rfl rfl (by omega) ?_
          | refine S.sub rfl rfl rfl ?_
        refine S.assignT rfl ?_
        refine WS.done ?_
        have hbit : val ds0 / 2 ^ (k - 1) % 2 = 0 := by omega
        have e23 : val es23 = val rs + val rs + 0 := by rw [hv23]; omega
        have e53 : val es53 = val qs + val qs + 1 := by rw [hv53, hv41]; simp [val]
        have hst := hD.stepT hk0 hbit e23 (above_ge c46)
        rw [← e53, ← hv50] at hst
        exact ⟨_, (by omega), ⟨k - 1, R53, _, _, es53, es50, rfl, (by exact ⟨by omega, hR2.trans (hR23.trans (hR41.trans (hR50.trans (hR52.trans hR53)))), hro53, hro50, hd53, hd50, hc53, hc50, hst⟩), rfl, rfl, (by exact congrArg (Value.int .i64) (by omega)), ⟨rfl, rfl, rfl, rfl, trivial⟩, hS53⟩⟩
      ·
        skip
        refine WR.skip ?_
        refine WR.region rfl ?_
        refine S.moveT rfl ?_
        first
          | refine S.subN rfl rfl rfl (by omega) ?_
          | refine S.sub rfl rfl rfl ?_
        refine S.assignT rfl ?_
        refine WS.done ?_
        have hbit : val ds0 / 2 ^ (k - 1) % 2 = 0 := by omega
        have e23 : val es23 = val rs + val rs + 0 := by rw [hv23]; omega
        have hst := hD.stepF hk0 hbit e23 (above_no c46)
        rw [← hv41] at hst
        exact ⟨_, (by omega), ⟨k - 1, R41, _, _, es41, es23, rfl, (by exact ⟨by omega, hR2.trans (hR23.trans (hR41)), hro41, hro23, hd41, hd23, hc41, hc23, hst⟩), rfl, rfl, (by exact congrArg (Value.int .i64) (by omega)), ⟨rfl, rfl, rfl, rfl, trivial⟩, hS45⟩⟩
  ·
    skip
    obtain rfl : k = 0 := by omega
    have hfin := hD.fin
    refine WR.exit ?_
    refine WR.seq ?_
    refine WR.seq ?_
    refine WR.region rfl ?_
    refine S.moveT rfl ?_
    refine S.lenSl Try.underlying41 rfl rfl ?_
    refine S.gtr rfl rfl rfl ?_
    refine S.moveT rfl ?_
    refine S.splitD (d := 57) rfl (fun c57 => ?_) (fun c57 => ?_)
    ·
      skip
      refine S.moveT rfl ?_
      refine S.fieldB Try.underlying43 rfl ti4 rfl rfl rfl rfl ?_
      refine S.loadB (i := 2) hS1001 rfl Try.underlying4 rfl rfl rfl rfl ?_
      refine S.neqB Try.underlying4 rfl rfl rfl ?_
      refine S.pickT rfl rfl ?_
      refine WS.done ?_
      refine WR.cond rfl (fun c62 => ?_) (fun c62 => ?_)
      ·
        skip
        refine WR.region rfl ?_
        refine S.moveT rfl ?_
        first
          | refine S.buildRow (vs := [.int _ _]) hS1001 Try.underlying41 ti3 rfl rfl rfl rfl rfl rfl rfl ?_
          | refine S.buildRow hS1001 Try.underlying41 ti3 rfl rfl rfl rfl rfl rfl rfl ?_
        intro b64 w64 hS64; clear hS1001
        obtain ⟨R64, hR64, hro64, hSf64⟩ := hS64.keepRow (enc := encI .i64) (n := 1) [1] rfl (fun _ _ => rfl)
        replace hro0 := hro0.mono hR64
        replace hro1 := hro1.mono hR64
        replace hq := hq.mono hR64
        replace hr := hr.mono hR64
        refine S.call ent33 rfl (r_plus hSf64 (by exact hq) (by exact hro64) (by exact hdq) (by exact (fun d h => by rw [List.mem_singleton] at h; omega)) (by exact len65 hdq hcq (by omega)) (by decide)) rfl ?_
        rintro _ w65 ⟨R65, a65, c65, es65, hR65, rfl, hro65, hd65, hv65, hc65, hl65, hS65⟩
        clear hSf64
        replace hro0 := hro0.mono hR65
        replace hro1 := hro1.mono hR65
        replace hq := hq.mono hR65
        replace hr := hr.mono hR65
        replace hro64 := hro64.mono hR65
        refine S.assignT rfl ?_
        refine WS.done ?_
        refine WR.seq ?_
        refine WR.region rfl ?_
        refine S.fieldB Try.underlying43 rfl ti4 rfl rfl rfl rfl ?_
        refine S.loadB (i := 2) hS65 rfl Try.underlying4 rfl rfl rfl rfl ?_
        refine S.moveT rfl ?_
        refine S.call ent32 rfl (r_made hS65 (by first | exact hro65 | exact hq) (by first | exact hd65 | exact hdq) (by first | omega | exact Nat.le_trans (len65 hdq hcq (by omega)) (by decide))) rfl ?_
        rintro v69 w69 ⟨hN69, hS69⟩
        clear hS65
        have hM69 := hN69
        obtain ⟨ng69, s69, ds69, rfl, hro69, hd69, hcn69, hnz69, hz69⟩ := hN69
        obtain ⟨aa69, cc69, rfl, hll69⟩ := hro69.len
        refine S.storeB (i := 0) hS69 rfl ti43 rfl rfl rfl rfl rfl rfl rfl rfl ?_
        intro w2001 hS2001; clear hS69
        refine WS.done ?_
        refine WR.ret (retC rfl rfl (run_loadBA (i := 0) hS2001 rfl Try.underlying43 rfl ti43 rfl rfl) ?_)
        exact ⟨_, hR10.trans (hR11.trans (hR2.trans (hR64.trans hR65))), ⟨ng69, _, ds69, rfl, hro69, hd69, hcn69, hnz69, by rw [← hYy, quot_up hz0 (by omega) hfin hDlo hDhi (fun e => by rw [canon_zero hdr hcr e] at c57; simp at c57) c62, ← hz69, hv65]; simp [val]⟩, hS2001.drop.drop.drop⟩
      ·
        skip
        refine WR.skip ?_
        refine WR.seq ?_
        refine WR.region rfl ?_
        refine S.fieldB Try.underlying43 rfl ti4 rfl rfl rfl rfl ?_
        refine S.loadB (i := 2) hS1001 rfl Try.underlying4 rfl rfl rfl rfl ?_
        refine S.moveT rfl ?_
        refine S.call ent32 rfl (r_made hS1001 (by first | exact hro65 | exact hq) (by first | exact hd65 | exact hdq) (by first | omega | exact Nat.le_trans (len65 hdq hcq (by omega)) (by decide))) rfl ?_
        rintro v69 w69 ⟨hN69, hS69⟩
        clear hS1001
        have hM69 := hN69
        obtain ⟨ng69, s69, ds69, rfl, hro69, hd69, hcn69, hnz69, hz69⟩ := hN69
        obtain ⟨aa69, cc69, rfl, hll69⟩ := hro69.len
        refine S.storeB (i := 0) hS69 rfl ti43 rfl rfl rfl rfl rfl rfl rfl rfl ?_
        intro w2002 hS2002; clear hS69
        refine WS.done ?_
        refine WR.ret (retC rfl rfl (run_loadBA (i := 0) hS2002 rfl Try.underlying43 rfl ti43 rfl rfl) ?_)
        exact ⟨_, hR10.trans (hR11.trans hR2), ⟨ng69, _, ds69, rfl, hro69, hd69, hcn69, hnz69, by rw [← hYy, quot_same hz0 (by omega) hfin hDlo hDhi (by first | exact .inr c62 | exact .inl (by have : rs = [] := List.eq_nil_of_length_eq_zero (by omega); rw [this]; rfl)), ← hz69]⟩, hS2002.drop.drop.drop⟩
    ·
      skip
      refine S.off rfl ?_
      refine S.off rfl ?_
      refine S.off rfl ?_
      refine S.off rfl ?_
      refine S.pickFC rfl rfl ?_
      refine WS.done ?_
      refine WR.condF rfl ?_
      refine WR.skip ?_
      refine WR.seq ?_
      refine WR.region rfl ?_
      refine S.fieldB Try.underlying43 rfl ti4 rfl rfl rfl rfl ?_
      refine S.loadB (i := 2) hS1001 rfl Try.underlying4 rfl rfl rfl rfl ?_
      refine S.moveT rfl ?_
      refine S.call ent32 rfl (r_made hS1001 (by first | exact hro65 | exact hq) (by first | exact hd65 | exact hdq) (by first | omega | exact Nat.le_trans (len65 hdq hcq (by omega)) (by decide))) rfl ?_
      rintro v69 w69 ⟨hN69, hS69⟩
      clear hS1001
      have hM69 := hN69
      obtain ⟨ng69, s69, ds69, rfl, hro69, hd69, hcn69, hnz69, hz69⟩ := hN69
      obtain ⟨aa69, cc69, rfl, hll69⟩ := hro69.len
      refine S.storeB (i := 0) hS69 rfl ti43 rfl rfl rfl rfl rfl rfl rfl rfl ?_
      intro w2003 hS2003; clear hS69
      refine WS.done ?_
      refine WR.ret (retC rfl rfl (run_loadBA (i := 0) hS2003 rfl Try.underlying43 rfl ti43 rfl rfl) ?_)
      exact ⟨_, hR10.trans (hR11.trans hR2), ⟨ng69, _, ds69, rfl, hro69, hd69, hcn69, hnz69, by rw [← hYy, quot_same hz0 (by omega) hfin hDlo hDhi (by first | exact .inr c62 | exact .inl (by have : rs = [] := List.eq_nil_of_length_eq_zero (by omega); rw [this]; rfl)), ← hz69]⟩, hS2003.drop.drop.drop⟩

set_option maxRecDepth 100000 in
set_option maxHeartbeats 4000000 in
theorem r_mul {w : World} {R : Kn} {L : List HP}  (hS : St w R (L)) {v0 v1 : Value} {x y : Int} (h0 : NumR R v0 x) (h1 : NumR R v1 y) (hbx : (x.natAbs : Int) < big) (hby : (y.natAbs : Int) < big) :
    Fn Try.prog 40 #[v0, v1] w (fun v w' => ∃ R', R.le R' ∧ NumR R' v (x * y) ∧ St w' R' L) := by
  have hM0 := h0
  obtain ⟨ng0, s0, ds0, rfl, hro0, hd0, hcn0, hnz0, hz0⟩ := h0
  obtain ⟨a0, c0, rfl, hl0⟩ := hro0.len
  have hM1 := h1
  obtain ⟨ng1, s1, ds1, rfl, hro1, hd1, hcn1, hnz1, hz1⟩ := h1
  obtain ⟨a1, c1, rfl, hl1⟩ := hro1.len
  have hn0 := num_len hd0 hcn0 hz0 hbx
  have hn1 := num_len hd1 hcn1 hz1 hby
  refine Fn.intro (n := 71) Try.func40 rfl rfl rfl ?_
  refine WR.seq ?_
  refine WR.region rfl ?_
  refine S.box hS rfl rfl rfl ?_
  intro b2 w2 hS2; clear hS
  refine S.box hS2 rfl rfl rfl ?_
  intro b3 w3 hS3; clear hS2
  refine S.alloc hS3 ti43 rfl rfl ?_
  intro b4 w4 hS4; clear hS3
  refine WS.done ?_
  refine WR.seq ?_
  refine WR.region rfl ?_
  refine S.fieldB Try.underlying43 rfl ti41 rfl rfl rfl rfl ?_
  refine S.loadB (i := 2) hS4 rfl Try.underlying41 rfl rfl rfl rfl ?_
  refine S.lenSl Try.underlying41 rfl rfl ?_
  refine S.fieldB Try.underlying43 rfl ti41 rfl rfl rfl rfl ?_
  refine S.loadB (i := 1) hS4 rfl Try.underlying41 rfl rfl rfl rfl ?_
  refine S.lenSl Try.underlying41 rfl rfl ?_
  first
    | refine S.addN rfl rfl rfl (by omega) ?_
    | refine S.add rfl rfl rfl ?_
  first
    | refine S.addN rfl rfl rfl (by omega) ?_
    | refine S.add rfl rfl rfl ?_
  refine S.makeInts (n := ds0.length + ds1.length + 1) hS4 Try.underlying41 ti3 rfl rfl (by omega) (by omega) (by omega) (by omega) rfl ?_
  intro v17 w17 hS17; clear hS4
  refine S.assignT rfl ?_
  refine WS.done ?_
  refine WR.seq ?_
  refine WR.seq ?_
  refine WR.region rfl ?_
  refine S.assignC rfl ?_
  refine WS.done ?_
  refine WR.block ?_
  refine WR.loopE (fun rq mm rr wr => ∃ (i : Nat) (out : List Int), mm = ds0.length - i ∧ (i ≤ ds0.length ∧ val out = vt ds0 i * val ds1 ∧ dig out ∧ out.length = ds0.length + ds1.length + 1) ∧ rr 6 = .int .i64 (i : Int) ∧ Agr [2, 3, 4, 5] rr rq ∧ St wr R (Ow 3 (encI .i64) 1 v17 out :: blk b4 (.cells (#[.bool false, .slice none 0 0]) 43 (0, 0)) :: blk b3 (.cells (#[.bool ng1, .slice a1 ds1.length c1]) 43 (0, 0)) :: blk b2 (.cells (#[.bool ng0, .slice a0 ds0.length c0]) 43 (0, 0)) :: L)) ⟨0, _, rfl, (by exact ⟨by omega, by rw [val_rep, vt_zero, Int.zero_mul], dig_rep _, List.length_replicate ..⟩), rfl, ⟨rfl, rfl, rfl, rfl, trivial⟩, hS17⟩ ?_
  rintro mm rr w1001 ⟨i, out, hm1001, ⟨hi, hov, hod, hol⟩, hr1001_6, hA1001, hS1001⟩
  obtain ⟨rr, rfl⟩ := agrBack hA1001
  clear hA1001
  obtain ⟨rr, rfl⟩ := back1 (r := rr) hr1001_6
  clear hr1001_6
  refine WR.seq ?_
  refine WR.seq ?_
  refine WR.region rfl ?_
  refine S.moveT rfl ?_
  refine S.fieldB Try.underlying43 rfl ti41 rfl rfl rfl rfl ?_
  refine S.loadB (i := 3) hS1001 rfl Try.underlying41 rfl rfl rfl rfl ?_
  refine S.lenSl Try.underlying41 rfl rfl ?_
  refine S.lss rfl rfl rfl ?_
  refine WS.done ?_
  refine WR.condD rfl (fun c22 => ?_) (fun c22 => ?_)
  ·
    skip
    refine WR.skip ?_
    refine WR.seq ?_
    refine WR.block ?_
    refine WR.seq ?_
    refine WR.region rfl ?_
    refine S.assignC rfl ?_
    refine WS.done ?_
    refine WR.seq ?_
    refine WR.region rfl ?_
    refine S.assignC rfl ?_
    refine WS.done ?_
    refine WR.block ?_
    refine WR.loopE (fun rq mm rr wr => ∃ (k : Nat) (c : Int) (out : List Int), mm = ds1.length + 1 - k ∧ (k ≤ ds1.length + 1 ∧ Mv ds0 ds1 out i k c) ∧ rr 7 = .int .i64 c ∧ rr 8 = .int .i64 (k : Int) ∧ Agr [2, 3, 4, 5, 6] rr rq ∧ St wr R (Ow 3 (encI .i64) 1 v17 out :: blk b4 (.cells (#[.bool false, .slice none 0 0]) 43 (0, 0)) :: blk b3 (.cells (#[.bool ng1, .slice a1 ds1.length c1]) 43 (0, 0)) :: blk b2 (.cells (#[.bool ng0, .slice a0 ds0.length c0]) 43 (0, 0)) :: L)) ⟨0, 0, _, rfl, (by exact ⟨by omega, Mv.start hov hod hol⟩), rfl, rfl, ⟨rfl, rfl, rfl, rfl, rfl, trivial⟩, hS1001⟩ ?_
    rintro mm rr w1002 ⟨k, c, out, hm1002, ⟨hk, hM⟩, hr1002_7, hr1002_8, hA1002, hS1002⟩
    obtain ⟨rr, rfl⟩ := agrBack hA1002
    clear hA1002
    obtain ⟨rr, rfl⟩ := back2 (r := rr) hr1002_7 hr1002_8
    clear hr1002_7 hr1002_8
    refine WR.seq ?_
    refine WR.seq ?_
    refine WR.region rfl ?_
    refine S.moveT rfl ?_
    refine S.fieldB Try.underlying43 rfl ti41 rfl rfl rfl rfl ?_
    refine S.loadB (i := 2) hS1002 rfl Try.underlying41 rfl rfl rfl rfl ?_
    refine S.lenSl Try.underlying41 rfl rfl ?_
    refine S.lss rfl rfl rfl ?_
    refine S.moveT rfl ?_
    refine S.splitD (d := 30) rfl (fun c30 => ?_) (fun c30 => ?_)
    ·
      skip
      refine S.off rfl ?_
      refine S.off rfl ?_
      refine S.pickTC rfl rfl ?_
      refine WS.done ?_
      refine WR.condT rfl ?_
      refine WR.skip ?_
      refine WR.seq ?_
      refine WR.block ?_
      refine WR.seq ?_
      refine WR.regionQ mixed hS1002 (by kernel_rfl) rfl ?_
      have hpl := hM.place hd0 hd1 (by omega) (by omega)
      have hln := hM.ln
      have hc0 := hM.c0
      have hc1 := hM.c1
      have hin : i + k < out.length := by omega
      obtain ⟨u, hu⟩ : ∃ u, out[i + k]? = some u := ⟨_, List.getElem?_eq_getElem hin⟩
      have hej : ((i : Int) + (k : Int)).toNat = i + k := by omega
      have hu' : out[((i : Int) + (k : Int)).toNat]? = some u := by rw [hej]; exact hu
      refine Q.moveT rfl ?_
      refine Q.moveT rfl ?_
      refine Q.moveT rfl ?_
      refine Q.moveT rfl ?_
      first
        | refine Q.addN rfl rfl rfl (by omega) ?_
        | refine Q.add rfl rfl rfl ?_
      refine Q.indexOw (i := 0) rfl Try.underlying41 ti3 rfl rfl (by omega) rfl ?_
      refine Q.loadOw (i := 0) rfl (fun _ _ => rfl) Try.underlying3 rfl rfl (hu') rfl rfl ?_
      refine Q.fieldB Try.underlying43 rfl ti41 rfl rfl rfl rfl ?_
      refine Q.loadB (i := 3) rfl Try.underlying41 rfl rfl rfl rfl ?_
      refine Q.moveT rfl ?_
      first
        | refine Q.indexRo hro0 Try.underlying41 ti3 rfl rfl (by omega) rfl ?_
        | refine Q.indexRo hro1 Try.underlying41 ti3 rfl rfl (by omega) rfl ?_
      intro ad46 u46 hu46 hl46 hc46
      refine Q.loadRo hc46 rfl Try.underlying3 rfl rfl rfl ?_
      have hu46' : ds0[i]? = some u46 := by rwa [Int.toNat_natCast] at hu46
      obtain ⟨⟨hs1, hs2⟩, hs3, hs4⟩ := hM.small hd0 hd1 hu hu46'
      refine Q.fieldB Try.underlying43 rfl ti41 rfl rfl rfl rfl ?_
      refine Q.loadB (i := 2) rfl Try.underlying41 rfl rfl rfl rfl ?_
      refine Q.moveT rfl ?_
      refine Q.call ent51 rfl (fun w hQ => r_limb hQ (by exact hro1) (by omega) (by exact Int.toNat_natCast _) (by omega)) rfl ?_
      first
        | refine Q.mulN rfl rfl rfl (by omega) ?_
        | refine Q.mul rfl rfl rfl ?_
      first
        | refine Q.addN rfl rfl rfl (by omega) ?_
        | refine Q.add rfl rfl rfl ?_
      first
        | refine Q.addN rfl rfl rfl (by omega) ?_
        | refine Q.add rfl rfl rfl ?_
      refine Q.assignT rfl ?_
      refine WQ.done ?_
      intro w5001 hS5001
      clear hS1002
      refine WR.seq ?_
      refine WR.region rfl ?_
      refine S.moveT rfl ?_
      refine S.moveT rfl ?_
      refine S.moveT rfl ?_
      first
        | refine S.addN rfl rfl rfl (by omega) ?_
        | refine S.add rfl rfl rfl ?_
      refine S.moveT rfl ?_
      first
        | refine S.remN rfl rfl (by omega) (by omega) rfl ?_
        | refine S.rem rfl rfl (by omega) rfl ?_
      refine S.indexOw (i := 0) hS5001 rfl Try.underlying41 ti3 rfl rfl (by omega) rfl ?_
      refine S.storeOw (i := 0) hS5001 rfl (fun _ _ => rfl) ti3 rfl (by omega) rfl rfl rfl rfl rfl ?_
      intro w2002 hS2002; clear hS5001
      refine WS.done ?_
      refine WR.region rfl ?_
      refine S.moveT rfl ?_
      first
        | refine S.quoN rfl rfl (by omega) (by omega) rfl ?_
        | refine S.quo rfl rfl (by omega) rfl ?_
      refine S.assignT rfl ?_
      refine WS.done ?_
      refine WR.region rfl ?_
      refine S.moveT rfl ?_
      first
        | refine S.addN rfl rfl rfl (by omega) ?_
        | refine S.add rfl rfl rfl ?_
      refine S.assignT rfl ?_
      refine WS.done ?_
      exact ⟨_, (by omega), ⟨k + 1, _, _, rfl, (by exact ⟨by omega, by rw [hej]; exact hM.step hd0 hd1 hu hu46' rfl⟩), rfl, rfl, ⟨rfl, rfl, rfl, rfl, rfl, trivial⟩, hS2002⟩⟩
    ·
      skip
      refine S.moveT rfl ?_
      refine S.gtr rfl rfl rfl ?_
      refine S.pickF rfl rfl ?_
      refine WS.done ?_
      refine WR.condD rfl (fun c33 => ?_) (fun c33 => ?_)
      ·
        skip
        refine WR.skip ?_
        refine WR.seq ?_
        refine WR.block ?_
        refine WR.seq ?_
        refine WR.regionQ mixed hS1002 (by kernel_rfl) rfl ?_
        have hpl := hM.place hd0 hd1 (by omega) (by omega)
        have hln := hM.ln
        have hc0 := hM.c0
        have hc1 := hM.c1
        have hin : i + k < out.length := by omega
        obtain ⟨u, hu⟩ : ∃ u, out[i + k]? = some u := ⟨_, List.getElem?_eq_getElem hin⟩
        have hej : ((i : Int) + (k : Int)).toNat = i + k := by omega
        have hu' : out[((i : Int) + (k : Int)).toNat]? = some u := by rw [hej]; exact hu
        refine Q.moveT rfl ?_
        refine Q.moveT rfl ?_
        refine Q.moveT rfl ?_
        refine Q.moveT rfl ?_
        first
          | refine Q.addN rfl rfl rfl (by omega) ?_
          | refine Q.add rfl rfl rfl ?_
        refine Q.indexOw (i := 0) rfl Try.underlying41 ti3 rfl rfl (by omega) rfl ?_
        refine Q.loadOw (i := 0) rfl (fun _ _ => rfl) Try.underlying3 rfl rfl (hu') rfl rfl ?_
        refine Q.fieldB Try.underlying43 rfl ti41 rfl rfl rfl rfl ?_
        refine Q.loadB (i := 3) rfl Try.underlying41 rfl rfl rfl rfl ?_
        refine Q.moveT rfl ?_
        first
          | refine Q.indexRo hro0 Try.underlying41 ti3 rfl rfl (by omega) rfl ?_
          | refine Q.indexRo hro1 Try.underlying41 ti3 rfl rfl (by omega) rfl ?_
        intro ad46 u46 hu46 hl46 hc46
        refine Q.loadRo hc46 rfl Try.underlying3 rfl rfl rfl ?_
        have hu46' : ds0[i]? = some u46 := by rwa [Int.toNat_natCast] at hu46
        obtain ⟨⟨hs1, hs2⟩, hs3, hs4⟩ := hM.small hd0 hd1 hu hu46'
        refine Q.fieldB Try.underlying43 rfl ti41 rfl rfl rfl rfl ?_
        refine Q.loadB (i := 2) rfl Try.underlying41 rfl rfl rfl rfl ?_
        refine Q.moveT rfl ?_
        refine Q.call ent51 rfl (fun w hQ => r_limb hQ (by exact hro1) (by omega) (by exact Int.toNat_natCast _) (by omega)) rfl ?_
        first
          | refine Q.mulN rfl rfl rfl (by omega) ?_
          | refine Q.mul rfl rfl rfl ?_
        first
          | refine Q.addN rfl rfl rfl (by omega) ?_
          | refine Q.add rfl rfl rfl ?_
        first
          | refine Q.addN rfl rfl rfl (by omega) ?_
          | refine Q.add rfl rfl rfl ?_
        refine Q.assignT rfl ?_
        refine WQ.done ?_
        intro w5003 hS5003
        clear hS1002
        refine WR.seq ?_
        refine WR.region rfl ?_
        refine S.moveT rfl ?_
        refine S.moveT rfl ?_
        refine S.moveT rfl ?_
        first
          | refine S.addN rfl rfl rfl (by omega) ?_
          | refine S.add rfl rfl rfl ?_
        refine S.moveT rfl ?_
        first
          | refine S.remN rfl rfl (by omega) (by omega) rfl ?_
          | refine S.rem rfl rfl (by omega) rfl ?_
        refine S.indexOw (i := 0) hS5003 rfl Try.underlying41 ti3 rfl rfl (by omega) rfl ?_
        refine S.storeOw (i := 0) hS5003 rfl (fun _ _ => rfl) ti3 rfl (by omega) rfl rfl rfl rfl rfl ?_
        intro w2004 hS2004; clear hS5003
        refine WS.done ?_
        refine WR.region rfl ?_
        refine S.moveT rfl ?_
        first
          | refine S.quoN rfl rfl (by omega) (by omega) rfl ?_
          | refine S.quo rfl rfl (by omega) rfl ?_
        refine S.assignT rfl ?_
        refine WS.done ?_
        refine WR.region rfl ?_
        refine S.moveT rfl ?_
        first
          | refine S.addN rfl rfl rfl (by omega) ?_
          | refine S.add rfl rfl rfl ?_
        refine S.assignT rfl ?_
        refine WS.done ?_
        exact ⟨_, (by omega), ⟨k + 1, _, _, rfl, (by exact ⟨by omega, by rw [hej]; exact hM.step hd0 hd1 hu hu46' rfl⟩), rfl, rfl, ⟨rfl, rfl, rfl, rfl, rfl, trivial⟩, hS2004⟩⟩
      ·
        skip
        refine WR.exit ?_
        refine WR.region rfl ?_
        refine S.moveT rfl ?_
        first
          | refine S.addN rfl rfl rfl (by omega) ?_
          | refine S.add rfl rfl rfl ?_
        refine S.assignT rfl ?_
        refine WS.done ?_
        exact ⟨_, (by omega), ⟨i + 1, _, rfl, (by exact ⟨by omega, hM.done (by omega) (by have := hM.c0; omega), hM.dg, hM.ln⟩), rfl, ⟨rfl, rfl, rfl, rfl, trivial⟩, hS1002⟩⟩
  ·
    skip
    refine WR.exit ?_
    refine WR.seq ?_
    refine WR.region rfl ?_
    refine S.fieldB Try.underlying43 rfl ti4 rfl rfl rfl rfl ?_
    refine S.loadB (i := 3) hS1001 rfl Try.underlying4 rfl rfl rfl rfl ?_
    refine S.fieldB Try.underlying43 rfl ti4 rfl rfl rfl rfl ?_
    refine S.loadB (i := 2) hS1001 rfl Try.underlying4 rfl rfl rfl rfl ?_
    refine S.neqB Try.underlying4 rfl rfl rfl ?_
    refine S.moveT rfl ?_
    obtain ⟨R1, hR1, hroO, hSf⟩ := hS1001.freeze (fun _ _ => rfl)
    have hvo : val out = val ds0 * val ds1 := by rw [hov, vt_all (a := ds0) (by omega)]
    refine S.call ent32 rfl (r_made hSf (by exact hroO) (by exact hod) (by omega)) rfl ?_
    rintro v70 w70 ⟨hN70, hS70⟩
    clear hSf
    have hM70 := hN70
    obtain ⟨ng70, s70, ds70, rfl, hro70, hd70, hcn70, hnz70, hz70⟩ := hN70
    obtain ⟨aa70, cc70, rfl, hll70⟩ := hro70.len
    refine S.storeB (i := 0) hS70 rfl ti43 rfl rfl rfl rfl rfl rfl rfl rfl ?_
    intro w2005 hS2005; clear hS70
    refine WS.done ?_
    refine WR.ret (retC rfl rfl (run_loadBA (i := 0) hS2005 rfl Try.underlying43 rfl ti43 rfl rfl) ?_)
    exact ⟨R1, hR1, ⟨ng70, _, ds70, rfl, hro70, hd70, hcn70, hnz70, (mul_sign hz0 hz1).trans ((if_val hvo).symm.trans hz70)⟩, hS2005.drop.drop.drop⟩

set_option maxRecDepth 100000 in
set_option maxHeartbeats 4000000 in
theorem r_cmp {w : World} {R : Kn} {L : List HP}  (hS : St w R (L)) {v0 v1 : Value} {x y : Int} (h0 : NumR R v0 x) (h1 : NumR R v1 y) (hbx : (x.natAbs : Int) < big) (hby : (y.natAbs : Int) < big) :
    Fn Try.prog 44 #[v0, v1] w (fun v w' => v = .int .i64 (if x < y then -1 else if x = y then 0 else 1) ∧ St w' R L) := by
  have hM0 := h0
  obtain ⟨ng0, s0, ds0, rfl, hro0, hd0, hcn0, hnz0, hz0⟩ := h0
  obtain ⟨a0, c0, rfl, hl0⟩ := hro0.len
  have hM1 := h1
  obtain ⟨ng1, s1, ds1, rfl, hro1, hd1, hcn1, hnz1, hz1⟩ := h1
  obtain ⟨a1, c1, rfl, hl1⟩ := hro1.len
  refine Fn.intro (n := 16) Try.func44 rfl rfl rfl ?_
  refine WR.seq ?_
  refine WR.region rfl ?_
  refine S.box hS rfl rfl rfl ?_
  intro b2 w2 hS2; clear hS
  refine S.box hS2 rfl rfl rfl ?_
  intro b3 w3 hS3; clear hS2
  refine S.assignC rfl ?_
  refine WS.done ?_
  refine WR.seq ?_
  refine WR.regionW (fun j => Nat.beq j 5) 6 rfl mixed hS3 ?_
  intro w6001 hS6001; clear hS3; have hC := hS6001
  refine WA.take (fuel := 5) 0 rfl (by kernel_rfl) (by kernel_rfl) (by kernel_rfl) (by kernel_rfl) rfl rfl hC ?_
  refine Q.loadBA (i := 1) rfl Try.underlying43 rfl ti43 rfl rfl rfl rfl ?_
  refine WQ.done ?_
  refine WA.take (fuel := 4) 1 rfl (by kernel_rfl) (by kernel_rfl) (by kernel_rfl) (by kernel_rfl) rfl rfl hC ?_
  refine Q.loadBA (i := 0) rfl Try.underlying43 rfl ti43 rfl rfl rfl rfl ?_
  refine WQ.done ?_
  refine WA.two (fuel := 3) 2 4 rfl rfl (by kernel_rfl) rfl ?_ ?_
  ·
    skip
    refine S.call ent39 rfl (r_neg hS6001 (by exact hM1) (by exact hby)) rfl ?_
    rintro v8 w8 ⟨hN8, hS8⟩
    clear hS6001
    have hM8 := hN8
    obtain ⟨ng8, s8, ds8, rfl, hro8, hd8, hcn8, hnz8, hz8⟩ := hN8
    obtain ⟨aa8, cc8, rfl, hll8⟩ := hro8.len
    refine WS.done ⟨fun _ => hS8, ?_⟩
    replace hC := hS8
    refine WA.two (fuel := 2) 3 4 rfl rfl (by kernel_rfl) rfl ?_ ?_
    ·
      skip
      refine S.call ent15 rfl (r_add hS8 (by exact hM0) (by exact hM8) (by exact hbx) (by rw [Int.natAbs_neg]; exact hby)) rfl ?_
      rintro v9 w9 ⟨R9, hR9, hN9, hS9⟩
      clear hS8
      have hM9 := hN9
      obtain ⟨ng9, s9, ds9, rfl, hro9, hd9, hcn9, hnz9, hz9⟩ := hN9
      obtain ⟨aa9, cc9, rfl, hll9⟩ := hro9.len
      have hsg := cmp_sign hd9 hcn9 hnz9 hz9
      replace hro0 := hro0.mono hR9
      replace hro1 := hro1.mono hR9
      replace hM0 := hM0.mono hR9
      replace hro8 := hro8.mono hR9
      refine WS.done ⟨fun _ => (hS9.weak hR9), ?_⟩
      replace hC := (hS9.weak hR9)
      refine WA.one (fuel := 1) 4 rfl (by kernel_rfl) rfl ?_
      refine S.alloc hS9 ti43 rfl rfl ?_
      intro b5 w5 hS5; clear hS9
      refine WS.done ⟨fun _ => (hS5.drop.weak hR9), ?_⟩
      replace hC := (hS5.drop.weak hR9)
      refine WA.one (fuel := 0) 5 rfl (by kernel_rfl) rfl ?_
      refine S.storeB (i := 0) hS5 rfl ti43 rfl rfl rfl rfl rfl rfl rfl rfl ?_
      intro w2002 hS2002; clear hS5
      refine WS.done ⟨fun h => absurd h (by decide), ?_⟩
      refine WA.done (by kernel_rfl) ?_
      clear hC
      refine WR.seq ?_
      refine WR.seq ?_
      refine WR.region rfl ?_
      refine S.fieldB Try.underlying43 rfl ti41 rfl rfl rfl rfl ?_
      refine S.loadB (i := 0) hS2002 rfl Try.underlying41 rfl rfl rfl rfl ?_
      refine S.lenSl Try.underlying41 rfl rfl ?_
      refine S.eql rfl rfl rfl ?_
      refine WS.done ?_
      refine WR.condD rfl (fun c13 => ?_) (fun c13 => ?_)
      ·
        skip
        refine WR.seq ?_
        refine WR.region rfl ?_
        refine S.assignC rfl ?_
        refine WS.done ?_
        refine WR.ret (ret1 rfl rfl ?_)
        first | exact ⟨congrArg (Value.int .i64) (hsg.1 (by first | exact c13 | omega)).symm, hS2002.drop.drop.drop.weak hR9⟩ | exact ⟨congrArg (Value.int .i64) (hsg.2.1 (by first | exact c13 | omega) c15).symm, hS2002.drop.drop.drop.weak hR9⟩ | exact ⟨congrArg (Value.int .i64) (hsg.2.2 (by first | exact c13 | omega) c15).symm, hS2002.drop.drop.drop.weak hR9⟩
      ·
        skip
        refine WR.skip ?_
        refine WR.seq ?_
        refine WR.seq ?_
        refine WR.region rfl ?_
        refine S.fieldB Try.underlying43 rfl ti4 rfl rfl rfl rfl ?_
        refine S.loadB (i := 0) hS2002 rfl Try.underlying4 rfl rfl rfl rfl ?_
        refine WS.done ?_
        refine WR.cond rfl (fun c15 => ?_) (fun c15 => ?_)
        ·
          skip
          refine WR.seq ?_
          refine WR.region rfl ?_
          refine S.assignC rfl ?_
          refine WS.done ?_
          refine WR.ret (ret1 rfl rfl ?_)
          first | exact ⟨congrArg (Value.int .i64) (hsg.1 (by first | exact c13 | omega)).symm, hS2002.drop.drop.drop.weak hR9⟩ | exact ⟨congrArg (Value.int .i64) (hsg.2.1 (by first | exact c13 | omega) c15).symm, hS2002.drop.drop.drop.weak hR9⟩ | exact ⟨congrArg (Value.int .i64) (hsg.2.2 (by first | exact c13 | omega) c15).symm, hS2002.drop.drop.drop.weak hR9⟩
        ·
          skip
          refine WR.skip ?_
          refine WR.seq ?_
          refine WR.region rfl ?_
          refine S.assignC rfl ?_
          refine WS.done ?_
          refine WR.ret (ret1 rfl rfl ?_)
          first | exact ⟨congrArg (Value.int .i64) (hsg.1 (by first | exact c13 | omega)).symm, hS2002.drop.drop.drop.weak hR9⟩ | exact ⟨congrArg (Value.int .i64) (hsg.2.1 (by first | exact c13 | omega) c15).symm, hS2002.drop.drop.drop.weak hR9⟩ | exact ⟨congrArg (Value.int .i64) (hsg.2.2 (by first | exact c13 | omega) c15).symm, hS2002.drop.drop.drop.weak hR9⟩
    ·
      skip
      refine S.alloc hS8 ti43 rfl rfl ?_
      intro b5 w5 hS5; clear hS8
      refine WS.done ⟨fun _ => hS5.drop, ?_⟩
      replace hC := hS5.drop
      refine WA.one (fuel := 1) 3 rfl (by kernel_rfl) rfl ?_
      refine S.call ent15 rfl (r_add hS5 (by exact hM0) (by exact hM8) (by exact hbx) (by rw [Int.natAbs_neg]; exact hby)) rfl ?_
      rintro v9 w9 ⟨R9, hR9, hN9, hS9⟩
      clear hS5
      have hM9 := hN9
      obtain ⟨ng9, s9, ds9, rfl, hro9, hd9, hcn9, hnz9, hz9⟩ := hN9
      obtain ⟨aa9, cc9, rfl, hll9⟩ := hro9.len
      have hsg := cmp_sign hd9 hcn9 hnz9 hz9
      replace hro0 := hro0.mono hR9
      replace hro1 := hro1.mono hR9
      replace hM0 := hM0.mono hR9
      replace hro8 := hro8.mono hR9
      refine WS.done ⟨fun _ => (hS9.drop.weak hR9), ?_⟩
      replace hC := (hS9.drop.weak hR9)
      refine WA.one (fuel := 0) 5 rfl (by kernel_rfl) rfl ?_
      refine S.storeB (i := 0) hS9 rfl ti43 rfl rfl rfl rfl rfl rfl rfl rfl ?_
      intro w2003 hS2003; clear hS9
      refine WS.done ⟨fun h => absurd h (by decide), ?_⟩
      refine WA.done (by kernel_rfl) ?_
      clear hC
      refine WR.seq ?_
      refine WR.seq ?_
      refine WR.region rfl ?_
      refine S.fieldB Try.underlying43 rfl ti41 rfl rfl rfl rfl ?_
      refine S.loadB (i := 0) hS2003 rfl Try.underlying41 rfl rfl rfl rfl ?_
      refine S.lenSl Try.underlying41 rfl rfl ?_
      refine S.eql rfl rfl rfl ?_
      refine WS.done ?_
      refine WR.condD rfl (fun c13 => ?_) (fun c13 => ?_)
      ·
        skip
        refine WR.seq ?_
        refine WR.region rfl ?_
        refine S.assignC rfl ?_
        refine WS.done ?_
        refine WR.ret (ret1 rfl rfl ?_)
        first | exact ⟨congrArg (Value.int .i64) (hsg.1 (by first | exact c13 | omega)).symm, hS2003.drop.drop.drop.weak hR9⟩ | exact ⟨congrArg (Value.int .i64) (hsg.2.1 (by first | exact c13 | omega) c15).symm, hS2003.drop.drop.drop.weak hR9⟩ | exact ⟨congrArg (Value.int .i64) (hsg.2.2 (by first | exact c13 | omega) c15).symm, hS2003.drop.drop.drop.weak hR9⟩
      ·
        skip
        refine WR.skip ?_
        refine WR.seq ?_
        refine WR.seq ?_
        refine WR.region rfl ?_
        refine S.fieldB Try.underlying43 rfl ti4 rfl rfl rfl rfl ?_
        refine S.loadB (i := 0) hS2003 rfl Try.underlying4 rfl rfl rfl rfl ?_
        refine WS.done ?_
        refine WR.cond rfl (fun c15 => ?_) (fun c15 => ?_)
        ·
          skip
          refine WR.seq ?_
          refine WR.region rfl ?_
          refine S.assignC rfl ?_
          refine WS.done ?_
          refine WR.ret (ret1 rfl rfl ?_)
          first | exact ⟨congrArg (Value.int .i64) (hsg.1 (by first | exact c13 | omega)).symm, hS2003.drop.drop.drop.weak hR9⟩ | exact ⟨congrArg (Value.int .i64) (hsg.2.1 (by first | exact c13 | omega) c15).symm, hS2003.drop.drop.drop.weak hR9⟩ | exact ⟨congrArg (Value.int .i64) (hsg.2.2 (by first | exact c13 | omega) c15).symm, hS2003.drop.drop.drop.weak hR9⟩
        ·
          skip
          refine WR.skip ?_
          refine WR.seq ?_
          refine WR.region rfl ?_
          refine S.assignC rfl ?_
          refine WS.done ?_
          refine WR.ret (ret1 rfl rfl ?_)
          first | exact ⟨congrArg (Value.int .i64) (hsg.1 (by first | exact c13 | omega)).symm, hS2003.drop.drop.drop.weak hR9⟩ | exact ⟨congrArg (Value.int .i64) (hsg.2.1 (by first | exact c13 | omega) c15).symm, hS2003.drop.drop.drop.weak hR9⟩ | exact ⟨congrArg (Value.int .i64) (hsg.2.2 (by first | exact c13 | omega) c15).symm, hS2003.drop.drop.drop.weak hR9⟩
  ·
    skip
    refine S.alloc hS6001 ti43 rfl rfl ?_
    intro b5 w5 hS5; clear hS6001
    refine WS.done ⟨fun _ => hS5.drop, ?_⟩
    replace hC := hS5.drop
    refine WA.one (fuel := 2) 2 rfl (by kernel_rfl) rfl ?_
    refine S.call ent39 rfl (r_neg hS5 (by exact hM1) (by exact hby)) rfl ?_
    rintro v8 w8 ⟨hN8, hS8⟩
    clear hS5
    have hM8 := hN8
    obtain ⟨ng8, s8, ds8, rfl, hro8, hd8, hcn8, hnz8, hz8⟩ := hN8
    obtain ⟨aa8, cc8, rfl, hll8⟩ := hro8.len
    refine WS.done ⟨fun _ => hS8.drop, ?_⟩
    replace hC := hS8.drop
    refine WA.one (fuel := 1) 3 rfl (by kernel_rfl) rfl ?_
    refine S.call ent15 rfl (r_add hS8 (by exact hM0) (by exact hM8) (by exact hbx) (by rw [Int.natAbs_neg]; exact hby)) rfl ?_
    rintro v9 w9 ⟨R9, hR9, hN9, hS9⟩
    clear hS8
    have hM9 := hN9
    obtain ⟨ng9, s9, ds9, rfl, hro9, hd9, hcn9, hnz9, hz9⟩ := hN9
    obtain ⟨aa9, cc9, rfl, hll9⟩ := hro9.len
    have hsg := cmp_sign hd9 hcn9 hnz9 hz9
    replace hro0 := hro0.mono hR9
    replace hro1 := hro1.mono hR9
    replace hM0 := hM0.mono hR9
    replace hro8 := hro8.mono hR9
    refine WS.done ⟨fun _ => (hS9.drop.weak hR9), ?_⟩
    replace hC := (hS9.drop.weak hR9)
    refine WA.one (fuel := 0) 5 rfl (by kernel_rfl) rfl ?_
    refine S.storeB (i := 0) hS9 rfl ti43 rfl rfl rfl rfl rfl rfl rfl rfl ?_
    intro w2004 hS2004; clear hS9
    refine WS.done ⟨fun h => absurd h (by decide), ?_⟩
    refine WA.done (by kernel_rfl) ?_
    clear hC
    refine WR.seq ?_
    refine WR.seq ?_
    refine WR.region rfl ?_
    refine S.fieldB Try.underlying43 rfl ti41 rfl rfl rfl rfl ?_
    refine S.loadB (i := 0) hS2004 rfl Try.underlying41 rfl rfl rfl rfl ?_
    refine S.lenSl Try.underlying41 rfl rfl ?_
    refine S.eql rfl rfl rfl ?_
    refine WS.done ?_
    refine WR.condD rfl (fun c13 => ?_) (fun c13 => ?_)
    ·
      skip
      refine WR.seq ?_
      refine WR.region rfl ?_
      refine S.assignC rfl ?_
      refine WS.done ?_
      refine WR.ret (ret1 rfl rfl ?_)
      first | exact ⟨congrArg (Value.int .i64) (hsg.1 (by first | exact c13 | omega)).symm, hS2004.drop.drop.drop.weak hR9⟩ | exact ⟨congrArg (Value.int .i64) (hsg.2.1 (by first | exact c13 | omega) c15).symm, hS2004.drop.drop.drop.weak hR9⟩ | exact ⟨congrArg (Value.int .i64) (hsg.2.2 (by first | exact c13 | omega) c15).symm, hS2004.drop.drop.drop.weak hR9⟩
    ·
      skip
      refine WR.skip ?_
      refine WR.seq ?_
      refine WR.seq ?_
      refine WR.region rfl ?_
      refine S.fieldB Try.underlying43 rfl ti4 rfl rfl rfl rfl ?_
      refine S.loadB (i := 0) hS2004 rfl Try.underlying4 rfl rfl rfl rfl ?_
      refine WS.done ?_
      refine WR.cond rfl (fun c15 => ?_) (fun c15 => ?_)
      ·
        skip
        refine WR.seq ?_
        refine WR.region rfl ?_
        refine S.assignC rfl ?_
        refine WS.done ?_
        refine WR.ret (ret1 rfl rfl ?_)
        first | exact ⟨congrArg (Value.int .i64) (hsg.1 (by first | exact c13 | omega)).symm, hS2004.drop.drop.drop.weak hR9⟩ | exact ⟨congrArg (Value.int .i64) (hsg.2.1 (by first | exact c13 | omega) c15).symm, hS2004.drop.drop.drop.weak hR9⟩ | exact ⟨congrArg (Value.int .i64) (hsg.2.2 (by first | exact c13 | omega) c15).symm, hS2004.drop.drop.drop.weak hR9⟩
      ·
        skip
        refine WR.skip ?_
        refine WR.seq ?_
        refine WR.region rfl ?_
        refine S.assignC rfl ?_
        refine WS.done ?_
        refine WR.ret (ret1 rfl rfl ?_)
        first | exact ⟨congrArg (Value.int .i64) (hsg.1 (by first | exact c13 | omega)).symm, hS2004.drop.drop.drop.weak hR9⟩ | exact ⟨congrArg (Value.int .i64) (hsg.2.1 (by first | exact c13 | omega) c15).symm, hS2004.drop.drop.drop.weak hR9⟩ | exact ⟨congrArg (Value.int .i64) (hsg.2.2 (by first | exact c13 | omega) c15).symm, hS2004.drop.drop.drop.weak hR9⟩

set_option maxRecDepth 100000 in
set_option maxHeartbeats 4000000 in
theorem r_told {w : World} {R : Kn} {L : List HP}  (hS : St w R (L)) {v0 : Value} {x : Int} (h0 : NumR R v0 x) :
    Fn Try.prog 48 #[v0] w (fun v w' => v = told x ∧ St w' R L) := by
  have hM0 := h0
  obtain ⟨ng0, s0, ds0, rfl, hro0, hd0, hcn0, hnz0, hz0⟩ := h0
  obtain ⟨a0, c0, rfl, hl0⟩ := hro0.len
  refine Fn.intro (n := 14) Try.func48 rfl rfl rfl ?_
  refine WR.seq ?_
  refine WR.region rfl ?_
  refine S.box hS rfl rfl rfl ?_
  intro b1 w1 hS1; clear hS
  refine S.assignC rfl ?_
  refine S.assignC rfl ?_
  refine WS.done ?_
  refine WR.seq ?_
  refine WR.region rfl ?_
  refine S.loadBA (i := 0) hS1 rfl Try.underlying43 rfl ti43 rfl rfl rfl rfl ?_
  refine S.call ent37 rfl (r_long hS1 (by exact hM0)) rfl ?_
  rintro _ w8 ⟨x8, rfl, hf8, hS8⟩
  clear hS1
  refine S.moveT rfl ?_
  refine S.extract rfl rfl rfl ?_
  refine S.extract rfl rfl rfl ?_
  refine S.assignT rfl ?_
  refine S.assignT rfl ?_
  refine WS.done ?_
  refine WR.seq ?_
  refine WR.seq ?_
  refine WR.region rfl ?_
  refine S.moveT rfl ?_
  refine S.not rfl rfl ?_
  refine WS.done ?_
  refine WR.cond rfl (fun c12 => ?_) (fun c12 => ?_)
  ·
    skip
    refine WR.seq ?_
    refine WR.region rfl ?_
    refine S.assignC rfl ?_
    refine S.assignC rfl ?_
    refine WS.done ?_
    refine WR.ret (ret2 rfl rfl rfl ?_)
    exact ⟨(told_out (by simpa using c12)).symm, hS8.drop⟩
  ·
    skip
    refine WR.skip ?_
    refine WR.seq ?_
    refine WR.region rfl ?_
    refine S.moveT rfl ?_
    refine S.assignT rfl ?_
    refine S.assignC rfl ?_
    refine WS.done ?_
    refine WR.ret (ret2 rfl rfl rfl ?_)
    exact ⟨told_of (by simpa using c12) hf8, hS8.drop⟩

set_option maxRecDepth 100000 in
set_option maxHeartbeats 4000000 in
theorem r_sum {w : World} {R : Kn} {L : List HP}  (hS : St w R (L)) {v0 : Value} {xs : List Int} (h0 : Ro R (encI .i64) 1 v0 xs) (hf : ∀ x ∈ xs, fits x) (hm : xs.length ≤ 1000000) :
    Fn Try.prog 31 #[v0] w (fun v w' => v = told xs.sum ∧ St w' R L) := by
  refine Fn.intro (n := 9) Try.func31 rfl rfl rfl ?_
  refine WR.seq ?_
  refine WR.region rfl ?_
  refine S.assignC rfl ?_
  refine S.assignC rfl ?_
  refine WS.done ?_
  refine WR.seq ?_
  refine WR.region rfl ?_
  refine S.moveT rfl ?_
  refine S.call ent49 rfl (r_total hS (by exact h0) (by exact hf) (by exact hm)) rfl ?_
  rintro v5 w5 ⟨R5, hR5, hN5, hS5⟩
  clear hS
  have hM5 := hN5
  obtain ⟨ng5, s5, ds5, rfl, hro5, hd5, hcn5, hnz5, hz5⟩ := hN5
  obtain ⟨aa5, cc5, rfl, hll5⟩ := hro5.len
  replace h0 := h0.mono hR5
  refine S.call ent48 rfl (r_told hS5 (by exact hM5)) rfl ?_
  rintro _ w6 ⟨rfl, hS6⟩
  clear hS5
  refine S.extract rfl rfl rfl ?_
  refine S.extract rfl rfl rfl ?_
  refine S.assignT rfl ?_
  refine S.assignT rfl ?_
  refine WS.done ?_
  refine WR.ret (ret2 rfl rfl rfl ?_)
  exact ⟨rfl, hS6.weak hR5⟩

set_option maxRecDepth 100000 in
set_option maxHeartbeats 4000000 in
theorem r_copyLongs {w : World} {R : Kn} {L : List HP}  (hS : St w R (L)) {v0 : Value} {xs : List Int} (h0 : Ro R (encI .i64) 1 v0 xs) (hm : xs.length ≤ 1000000) :
    Fn Try.prog 10 #[v0] w (fun v w' => St w' R (Ow 2 (encI .i64) 1 v xs :: L)) := by
  refine Fn.intro (n := 6) Try.func10 rfl rfl rfl ?_
  refine WR.seq ?_
  refine WR.region rfl ?_
  refine S.assignC rfl ?_
  refine WS.done ?_
  refine WR.seq ?_
  refine WR.region rfl ?_
  first
    | refine S.buildRow (vs := []) hS Try.underlying22 ti2 rfl rfl rfl rfl rfl rfl rfl ?_
    | refine S.buildRow hS Try.underlying22 ti2 rfl rfl rfl rfl rfl rfl rfl ?_
  intro b3 w3 hS3; clear hS
  have hSo := hS3.ownRow (enc := encI .i64) (n := 1) [] rfl (fun _ h => by cases h) (by simp)
  refine S.moveT rfl ?_
  refine S.appendRo (i := 0) hSo rfl h0 Try.underlying22 ti2 rfl rfl rfl rfl encI_one (by simp; omega) rfl ?_
  intro v5 w5 hS5; clear hSo
  refine S.assignT rfl ?_
  refine WS.done ?_
  refine WR.ret (ret1 rfl rfl ?_)
  exact hS5


end Go.Proofs.Ytmmdbincgianaaa.B

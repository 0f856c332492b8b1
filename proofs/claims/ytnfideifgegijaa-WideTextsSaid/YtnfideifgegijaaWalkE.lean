import Derived.Test.YtnfideifgegijaaWalkD
import Derived.Test.YtnfideifgegijaaTxt
namespace Go.Proofs.Ytnfideifgegijaa.B
open Go.Proofs Go.RowKit
set_option linter.unusedVariables false
set_option linter.unusedSimpArgs false
theorem num_len0 {m : Nat} {ng : Bool} {ds : List Int} (h : (m : Int) = if ng = true then - val ds else val ds) (hl : ds.length = 0) : m = 0 := by
  rw [List.eq_nil_of_length_eq_zero hl] at h
  have : val [] = 0 := rfl
  rw [this] at h
  split at h <;> omega
theorem num_neg {z : Int} {ng : Bool} {ds : List Int} (hd : dig ds) (hc : canon ds) (hn : ng = true → ds ≠ []) (h : z = if ng = true then - val ds else val ds) (hg : ng = true) : z < 0 := by
  have h2 := canon_low hd hc (hn hg)
  have h3 := pw_pos (ds.length - 1)
  rw [if_pos hg] at h
  omega
theorem num_nneg {z : Int} {ng : Bool} {ds : List Int} (hd : dig ds) (h : z = if ng = true then - val ds else val ds) (hg : ng = false) : 0 ≤ z := by
  have h2 := val_nonneg hd
  rw [if_neg (by rw [hg]; decide)] at h
  omega
theorem sB_nil {s : ByteArray} (h : sB s = []) : s = ⟨#[]⟩ := sB_inj (by rw [h]; rfl)
theorem text_nil {x : Int} {m : Nat} {s : ByteArray} (hT : Tv x.natAbs m (sB s).reverse) (hm : m = 0) (hs : s = ⟨#[]⟩) : (⟨#[48]⟩ : ByteArray) = bS (txt x) := by
  subst hs
  have h0 : dl 0 = dl x.natAbs := by
    rcases hT with ⟨_, h⟩ | ⟨h, _⟩
    · exact absurd h.symm (dl_ne _)
    · rw [hm] at h; exact h
  have h1 := pv_dl x.natAbs
  rw [← h0, dl_lo (by decide)] at h1
  have h2 : x = 0 := by
    have : pv [48 + ((0 : Nat) : Int)].reverse = 0 := by decide
    rw [this] at h1; omega
  subst h2
  symm
  rw [bS_eq (txt_byte _)]
  unfold txt
  rw [if_neg (by decide), show (0 : Int).natAbs = 0 from rfl, dl_lo (by decide)]
  rfl
theorem text_dig {x : Int} {m : Nat} {s : ByteArray} (hT : Tv x.natAbs m (sB s).reverse) (hm : m = 0) (hs : ¬ s = ⟨#[]⟩) : sB s = (dl x.natAbs).reverse := by
  have h := hT.fin hm (by rw [List.length_reverse]; exact fun e => hs (sB_nil (List.eq_nil_of_length_eq_zero e)))
  rw [← h, List.reverse_reverse]
theorem text_neg {x : Int} {m : Nat} {s : ByteArray} (hT : Tv x.natAbs m (sB s).reverse) (hm : m = 0) (hs : ¬ s = ⟨#[]⟩) (hx : x < 0) : ⟨#[45]⟩ ++ s = bS (txt x) := by
  symm
  rw [bS_eq (txt_byte _), sB_append, text_dig hT hm hs]
  unfold txt
  rw [if_pos hx]; rfl
theorem text_pos {x : Int} {m : Nat} {s : ByteArray} (hT : Tv x.natAbs m (sB s).reverse) (hm : m = 0) (hs : ¬ s = ⟨#[]⟩) (hx : 0 ≤ x) : s = bS (txt x) := by
  symm
  rw [bS_eq (txt_byte _), text_dig hT hm hs]
  unfold txt
  rw [if_neg (by omega)]
theorem num_zero {z : Int} {ng : Bool} {ds : List Int} (hd : dig ds) (hc : canon ds) (h : z = if ng = true then - val ds else val ds) (hz : z = 0) : ds.length = 0 := by
  have h1 := num_abs hd h
  rw [canon_zero hd hc (by omega)]; rfl
theorem num_gt {m : Nat} {ng : Bool} {ds : List Int} (hd : dig ds) (hc : canon ds) (hn : ng = true → ds ≠ []) (h : (m : Int) = if ng = true then - val ds else val ds) (hl : 0 < ds.length) : 0 < m := by
  have h1 := num_abs hd h
  have h2 := canon_low hd hc (List.length_pos_iff.1 hl)
  have h3 := pw_pos (ds.length - 1)
  omega
set_option maxRecDepth 100000 in
set_option maxHeartbeats 4000000 in
theorem r2_text {w : World} {R : Kn} {L : List HP}  (hS : St w R (L)) {v0 : Value} {x : Int} (h0 : NumR R v0 x) (hbx : x.natAbs < 10 ^ 39) :
    Fn Try.prog 30 #[v0] w (fun v w' => v = .string (bS (txt x)) ∧ St w' R L) := by
  have hM0 := h0
  obtain ⟨ng0, s0, ds0, rfl, hro0, hd0, hcn0, hnz0, hz0⟩ := h0
  obtain ⟨a0, c0, rfl, hl0⟩ := hro0.len
  have hdl := dl_len 38 x.natAbs hbx
  have hb39 : (10 : Nat) ^ 39 = 1000000000000000000000000000000000000000 := by decide
  have hs1 : (⟨#[45]⟩ : ByteArray).size = 1 := rfl
  refine Fn.intro (n := 45) Try.func30 rfl rfl rfl ?_
  refine WR.seq ?_
  refine WR.region rfl ?_
  refine S.box hS rfl rfl rfl ?_
  intro b1 w1 hS1; clear hS
  refine S.assignC rfl ?_
  refine WS.done ?_
  refine WR.seq ?_
  refine WR.region rfl ?_
  refine S.call ent20 rfl (r_of hS1 (by decide)) rfl ?_
  rintro v9 w9 ⟨R9, hR9, hN9, hS9⟩
  clear hS1
  have hM9 := hN9
  obtain ⟨ng9, s9, ds9, rfl, hro9, hd9, hcn9, hnz9, hz9⟩ := hN9
  obtain ⟨aa9, cc9, rfl, hll9⟩ := hro9.len
  replace hM0 := hM0.mono hR9
  replace hro0 := hro0.mono hR9
  refine S.alloc hS9 ti34 rfl rfl ?_
  intro b3 w3 hS3; clear hS9
  refine S.storeB (i := 0) hS3 rfl ti34 rfl rfl rfl rfl rfl rfl rfl rfl ?_
  intro w2001 hS2001; clear hS3
  refine WS.done ?_
  refine WR.seq ?_
  refine WR.region rfl ?_
  refine S.assignC rfl ?_
  refine WS.done ?_
  refine WR.seq ?_
  refine WR.region rfl ?_
  refine S.fieldB Try.underlying34 rfl ti32 rfl rfl rfl rfl ?_
  refine S.loadB (i := 1) hS2001 rfl Try.underlying32 rfl rfl rfl rfl ?_
  refine S.buildK (v := .agg #[.bool false, .slice a0 ds0.length c0]) rfl (by kernel_rfl) rfl ?_
  refine S.alloc hS2001 ti34 rfl rfl ?_
  intro b5 w5 hS5; clear hS2001
  refine S.storeB (i := 0) hS5 rfl ti34 rfl rfl rfl rfl rfl rfl rfl rfl ?_
  intro w2002 hS2002; clear hS5
  refine WS.done ?_
  refine WR.seq ?_
  refine WR.block ?_
  refine WR.loopE (fun rq mm rr wr => ∃ (m : Nat) (s : ByteArray) (R2 : Kn) (ng : Bool) (ac : Option Addr) (dm : List Int) (acp : Nat), mm = m ∧ (R9.le R2 ∧ Ro R2 (encI .i64) 1 (.slice ac dm.length acp) dm ∧ dig dm ∧ canon dm ∧ (ng = true → dm ≠ []) ∧ ((m : Int) = if ng = true then - val dm else val dm) ∧ Tv x.natAbs m (sB s).reverse ∧ m ≤ x.natAbs) ∧ rr 4 = .string s ∧ Agr [1, 3, 5] rr rq ∧ St wr R2 (blk b5 (.cells (#[.bool ng, .slice ac dm.length acp]) 34 (0, 0)) :: blk b3 (.cells (#[.bool ng9, .slice aa9 ds9.length cc9]) 34 (0, 0)) :: blk b1 (.cells (#[.bool ng0, .slice a0 ds0.length c0]) 34 (0, 0)) :: L)) ⟨x.natAbs, ⟨#[]⟩, R9, false, _, ds0, _, rfl, (by exact ⟨Kn.le.refl _, hro0, hd0, hcn0, (fun h => by cases h), (num_abs hd0 hz0), Tv.start _, Nat.le_refl _⟩), rfl, ⟨rfl, rfl, rfl, trivial⟩, hS2002⟩ ?_
  rintro mm rr w1001 ⟨m, s, R2, ng, ac, dm, acp, hm1001, ⟨hR2, hrom, hdm, hcm, hnm, hzm, hT, hmx⟩, hr1001_4, hA1001, hS1001⟩
  obtain ⟨rr, rfl⟩ := agrBack hA1001
  clear hA1001
  obtain ⟨rr, rfl⟩ := back1 (r := rr) hr1001_4
  clear hr1001_4
  have hM0 := hM0.mono hR2
  have hM9 := hM9.mono hR2
  have hacc : NumR R2 (.agg #[.bool ng, .slice ac dm.length acp]) (m : Int) := ⟨ng, _, dm, rfl, hrom, hdm, hcm, hnm, hzm⟩
  have hro0 := hro0.mono hR2
  refine WR.seq ?_
  refine WR.seq ?_
  refine WR.region rfl ?_
  refine S.fieldB Try.underlying34 rfl ti32 rfl rfl rfl rfl ?_
  refine S.loadB (i := 0) hS1001 rfl Try.underlying32 rfl rfl rfl rfl ?_
  refine S.lenSl Try.underlying32 rfl rfl ?_
  refine S.gtr rfl rfl rfl ?_
  refine WS.done ?_
  refine WR.condD rfl (fun c16 => ?_) (fun c16 => ?_)
  ·
    skip
    refine WR.skip ?_
    refine WR.block ?_
    refine WR.seq ?_
    refine WR.region rfl ?_
    refine S.loadBA (i := 0) hS1001 rfl Try.underlying34 rfl ti34 rfl rfl rfl rfl ?_
    refine S.loadBA (i := 1) hS1001 rfl Try.underlying34 rfl ti34 rfl rfl rfl rfl ?_
    refine S.call ent53 rfl (r_div hS1001 (by exact hacc) (by exact hM9) (by exact lt_big (by omega)) (by exact fits_big (by decide)) (by decide)) rfl ?_
    rintro v19 w19 ⟨R19, hR19, hN19, hS19⟩
    clear hS1001
    have hM19 := hN19
    obtain ⟨ng19, s19, ds19, rfl, hro19, hd19, hcn19, hnz19, hz19⟩ := hN19
    obtain ⟨aa19, cc19, rfl, hll19⟩ := hro19.len
    rw [show quot (m : Int) 10 false = (m : Int) / 10 from rfl] at hM19 hz19
    replace hM0 := hM0.mono hR19
    replace hM9 := hM9.mono hR19
    replace hacc := hacc.mono hR19
    replace hrom := hrom.mono hR19
    refine S.alloc hS19 ti34 rfl rfl ?_
    intro b6 w6 hS6; clear hS19
    refine S.storeB (i := 0) hS6 rfl ti34 rfl rfl rfl rfl rfl rfl rfl rfl ?_
    intro w2003 hS2003; clear hS6
    refine WS.done ?_
    refine WR.seq ?_
    refine WR.regionW (fun j => false) 12 rfl mixed hS2003 ?_
    intro w6004 hS6004; clear hS2003; have hC := hS6004
    refine WA.take (fuel := 11) 0 rfl (by kernel_rfl) (by kernel_rfl) (by kernel_rfl) (by kernel_rfl) rfl rfl hC ?_
    refine Q.loadBA (i := 1) rfl Try.underlying34 rfl ti34 rfl rfl rfl rfl ?_
    refine WQ.done ?_
    refine WA.take (fuel := 10) 1 rfl (by kernel_rfl) (by kernel_rfl) (by kernel_rfl) (by kernel_rfl) rfl rfl hC ?_
    refine Q.loadBA (i := 0) rfl Try.underlying34 rfl ti34 rfl rfl rfl rfl ?_
    refine WQ.done ?_
    refine WA.take (fuel := 9) 2 rfl (by kernel_rfl) (by kernel_rfl) (by kernel_rfl) (by kernel_rfl) rfl rfl hC ?_
    refine Q.loadBA (i := 2) rfl Try.underlying34 rfl ti34 rfl rfl rfl rfl ?_
    refine WQ.done ?_
    refine WA.one (fuel := 8) 3 rfl (by kernel_rfl) rfl ?_
    refine S.call ent19 rfl (r_mul hS6004 (by exact hM19) (by exact hM9) (by exact lt_big (by omega)) (by exact fits_big (by decide))) rfl ?_
    rintro v24 w24 ⟨R24, hR24, hN24, hS24⟩
    clear hS6004
    have hM24 := hN24
    obtain ⟨ng24, s24, ds24, rfl, hro24, hd24, hcn24, hnz24, hz24⟩ := hN24
    obtain ⟨aa24, cc24, rfl, hll24⟩ := hro24.len
    replace hM0 := hM0.mono hR24
    replace hM9 := hM9.mono hR24
    replace hacc := hacc.mono hR24
    replace hrom := hrom.mono hR24
    replace hro19 := hro19.mono hR24
    refine WS.done ⟨fun _ => (hS24.weak hR24), ?_⟩
    replace hC := (hS24.weak hR24)
    refine WA.one (fuel := 7) 4 rfl (by kernel_rfl) rfl ?_
    refine S.call ent16 rfl (r_neg hS24 (by exact hM24) (by exact lt_big (by omega))) rfl ?_
    rintro v25 w25 ⟨hN25, hS25⟩
    clear hS24
    have hM25 := hN25
    obtain ⟨ng25, s25, ds25, rfl, hro25, hd25, hcn25, hnz25, hz25⟩ := hN25
    obtain ⟨aa25, cc25, rfl, hll25⟩ := hro25.len
    refine WS.done ⟨fun _ => (hS25.weak hR24), ?_⟩
    replace hC := (hS25.weak hR24)
    refine WA.one (fuel := 6) 5 rfl (by kernel_rfl) rfl ?_
    refine S.call ent15 rfl (r_add hS25 (by exact hacc) (by exact hM25) (by exact lt_big (by omega)) (by exact lt_big (by omega))) rfl ?_
    rintro v26 w26 ⟨R26, hR26, hN26, hS26⟩
    clear hS25
    have hM26 := hN26
    obtain ⟨ng26, s26, ds26, rfl, hro26, hd26, hcn26, hnz26, hz26⟩ := hN26
    obtain ⟨aa26, cc26, rfl, hll26⟩ := hro26.len
    replace hM0 := hM0.mono hR26
    replace hM9 := hM9.mono hR26
    replace hacc := hacc.mono hR26
    replace hrom := hrom.mono hR26
    replace hro19 := hro19.mono hR26
    replace hro24 := hro24.mono hR26
    replace hro25 := hro25.mono hR26
    refine WS.done ⟨fun _ => ((hS26.weak hR26).weak hR24), ?_⟩
    replace hC := ((hS26.weak hR26).weak hR24)
    refine WA.one (fuel := 5) 6 rfl (by kernel_rfl) rfl ?_
    refine S.call ent12 rfl (r_long hS26 (by exact hM26)) rfl ?_
    rintro _ w27 ⟨x27, rfl, hf27, hS27⟩
    clear hS26
    refine WS.done ⟨fun _ => ((hS27.weak hR26).weak hR24), ?_⟩
    replace hC := ((hS27.weak hR26).weak hR24)
    refine WA.take (fuel := 4) 7 rfl (by kernel_rfl) (by kernel_rfl) (by kernel_rfl) (by kernel_rfl) rfl rfl hC ?_
    refine Q.moveT rfl ?_
    refine WQ.done ?_
    refine WA.take (fuel := 3) 8 rfl (by kernel_rfl) (by kernel_rfl) (by kernel_rfl) (by kernel_rfl) rfl rfl hC ?_
    refine Q.extract rfl rfl rfl ?_
    refine WQ.done ?_
    refine WA.take (fuel := 2) 9 rfl (by kernel_rfl) (by kernel_rfl) (by kernel_rfl) (by kernel_rfl) rfl rfl hC ?_
    refine Q.extract rfl rfl rfl ?_
    refine WQ.done ?_
    refine WA.take (fuel := 1) 10 rfl (by kernel_rfl) (by kernel_rfl) (by kernel_rfl) (by kernel_rfl) rfl rfl hC ?_
    refine Q.assignT rfl ?_
    refine WQ.done ?_
    refine WA.take (fuel := 0) 11 rfl (by kernel_rfl) (by kernel_rfl) (by kernel_rfl) (by kernel_rfl) rfl rfl hC ?_
    refine Q.assignT rfl ?_
    refine WQ.done ?_
    refine WA.done (by kernel_rfl) ?_
    clear hC
    refine WR.seq ?_
    have hxd : x27 = (m : Int) % 10 := by rw [hf27 (by unfold fits; omega)]; omega
    have hsz := sB_len s
    have htl := hT.len
    rw [List.length_reverse] at htl
    have hz1 := sB_len (bS [48 + (m : Int) % 10])
    rw [sB_bS (fun u hu => by rw [List.mem_singleton] at hu; omega)] at hz1
    simp only [List.length_cons, List.length_nil] at hz1
    refine WR.region rfl ?_
    refine S.moveT rfl ?_
    first
      | refine S.addN rfl rfl rfl (by omega) ?_
      | refine S.add rfl rfl rfl ?_
    first
      | refine S.convN Try.underlying2 Try.underlying5 rfl rfl (wrap_u8 (by omega) (by omega)) ?_
      | refine S.conv Try.underlying2 Try.underlying5 rfl rfl ?_
    refine S.as (d := 32) rfl (congrArg (Value.int .u8) (show _ = 48 + (m : Int) % 10 by rw [hxd])) ?_
    first
      | refine S.buildRow (vs := [.int _ _]) hS27 Try.underlying59 ti5 rfl rfl rfl rfl rfl rfl rfl ?_
      | refine S.buildRow hS27 Try.underlying59 ti5 rfl rfl rfl rfl rfl rfl rfl ?_
    intro b33 w33 hS33; clear hS27
    obtain ⟨R33, hR33, hro33, hSf33⟩ := hS33.keepRow (enc := encI .u8) (n := 1) [48 + (m : Int) % 10] rfl (fun _ _ => rfl)
    replace hM0 := hM0.mono hR33
    replace hM9 := hM9.mono hR33
    replace hacc := hacc.mono hR33
    replace hrom := hrom.mono hR33
    replace hro19 := hro19.mono hR33
    replace hro24 := hro24.mono hR33
    replace hro25 := hro25.mono hR33
    replace hro26 := hro26.mono hR33
    refine S.toStr hSf33 hro33 Try.underlying59 Try.underlying5 Try.underlying9 rfl rfl ?_
    refine S.moveT rfl ?_
    refine S.addStr rfl rfl (by omega) rfl ?_
    refine S.assignT rfl ?_
    refine WS.done ?_
    refine WR.region rfl ?_
    refine S.loadBA (i := 0) hSf33 rfl Try.underlying34 rfl ti34 rfl rfl rfl rfl ?_
    refine S.storeB (i := 1) hSf33 rfl ti34 rfl rfl rfl rfl rfl rfl rfl rfl ?_
    intro w2005 hS2005; clear hSf33
    refine WS.done ?_
    exact ⟨_, (by have := num_gt hdm hcm hnm hzm (by omega); omega), ⟨m / 10, _, R33, _, _, _, _, rfl, (by exact ⟨hR2.trans (hR19.trans (hR24.trans (hR26.trans hR33))), hro19, hd19, hcn19, hnz19, by rw [← hz19]; omega, by rw [sB_append, sB_bS (fun u hu => by rw [List.mem_singleton] at hu; omega), List.reverse_append, List.reverse_singleton]; exact hT.step (.inl (by have := num_gt hdm hcm hnm hzm (by omega); omega)), by omega⟩), rfl, ⟨rfl, rfl, rfl, trivial⟩, (by exact hS2005.drop)⟩⟩
  ·
    skip
    refine WR.exit ?_
    refine WR.seq ?_
    refine WR.seq ?_
    have hm0 : m = 0 := num_len0 hzm (by omega)
    have hsz := sB_len s
    have htl := hT.len
    rw [List.length_reverse] at htl
    refine WR.region rfl ?_
    refine S.moveT rfl ?_
    refine S.eqlStr rfl rfl rfl ?_
    refine WS.done ?_
    refine WR.condD rfl (fun c39 => ?_) (fun c39 => ?_)
    ·
      skip
      refine WR.seq ?_
      refine WR.region rfl ?_
      refine S.assignC rfl ?_
      refine WS.done ?_
      refine WR.ret (ret1 rfl rfl ?_)
      exact ⟨congrArg Value.string (text_nil hT hm0 c39), hS1001.drop.drop.drop.weak (hR9.trans hR2)⟩
    ·
      skip
      refine WR.skip ?_
      refine WR.seq ?_
      refine WR.seq ?_
      refine WR.region rfl ?_
      refine S.fieldB Try.underlying34 rfl ti4 rfl rfl rfl rfl ?_
      refine S.loadB (i := 2) hS1001 rfl Try.underlying4 rfl rfl rfl rfl ?_
      refine WS.done ?_
      refine WR.cond rfl (fun c41 => ?_) (fun c41 => ?_)
      ·
        skip
        refine WR.seq ?_
        refine WR.region rfl ?_
        refine S.moveT rfl ?_
        refine S.addStr rfl rfl (by omega) rfl ?_
        refine S.assignT rfl ?_
        refine WS.done ?_
        refine WR.ret (ret1 rfl rfl ?_)
        exact ⟨congrArg Value.string (text_neg hT hm0 c39 (num_neg hd0 hcn0 hnz0 hz0 c41)), hS1001.drop.drop.drop.weak (hR9.trans hR2)⟩
      ·
        skip
        refine WR.skip ?_
        refine WR.seq ?_
        refine WR.region rfl ?_
        refine S.moveT rfl ?_
        refine S.assignT rfl ?_
        refine WS.done ?_
        refine WR.ret (ret1 rfl rfl ?_)
        exact ⟨congrArg Value.string (text_pos hT hm0 c39 (num_nneg hd0 hz0 c41)), hS1001.drop.drop.drop.weak (hR9.trans hR2)⟩


end Go.Proofs.Ytnfideifgegijaa.B

import Derived.Test.YtiffedgmageiaaaWalkE
import Derived.Test.YtiffedgmageiaaaMapF
namespace Go.Proofs.Ytiffedgmageiaaa.B
open Go.Proofs Go.RowKit
set_option linter.unusedVariables false
set_option linter.unusedSimpArgs false
theorem keyed_pk : Go.Maps.Keyed Try.prog 50 := Go.Maps.Keyed.of_law (deep_law_laid (by kernel_rfl) (m := 10) (by decide) (of_decide_eq_true (by kernel_rfl)) (by kernel_rfl) (by kernel_rfl))
theorem key_pk {a b : Int} (ha : fits a) (hb : fits b) : ∃ l, keyOf Try.prog 50 (pk a b) = some l := keyOf_pk Try.underlying50 Try.underlying2 (by kernel_rfl) (by kernel_rfl) (by kernel_rfl) (by kernel_rfl) ha hb
def PhA (m : EM) (k v : Value) : Prop := ∃ a b e cur, k = pk a b ∧ v = .int .i64 e ∧ aget m a = some cur ∧ b ≤ cur.2.1 ∧ (b = cur.2.1 → e = cur.1)
def PhB (m : EM) (k v : Value) : Prop := ∃ a e b cur, k = pk a e ∧ v = .int .i64 b ∧ aget m a = some cur ∧ e ≤ cur.1 ∧ (e = cur.1 → b = cur.2.1)
theorem fits_le {mo a : Int} {m : EM} {x : E3} (h : RI mo m) (hx : aget m a = some x) : fits x.1 ∧ fits x.2.1 := by
  have h1 := h.ep _ (aget_mem hx)
  have h2 := h.good _ (aget_mem hx)
  simp only at h1 h2
  unfold fits; omega
theorem GOk.cur {m m' : EM} {a b : Int} {x cur : E3} {fr : Bool} (h : GOk m m' a b x fr) (hc : aget m a = some cur) : cur = x ∨ (cur.1 < x.1 ∧ cur.2.1 < x.2.1) := by
  rcases h.or with rfl | ⟨_, h2, h3⟩
  · left; have := h.now; rw [hc] at this; exact Option.some.inj this
  · right; rw [oldE_of hc] at h2 h3; exact ⟨h2, h3⟩
theorem lookA {m m' : EM} {a b : Int} {x : E3} {fr : Bool} {v : Value} (h : GOk m m' a b x fr) (hv : v = .int .i64 0 ∨ PhA m (pk a x.2.1) v) : ∃ u, v = .int .i64 u ∧ (u = 0 ∨ u = x.1) := by
  rcases hv with rfl | ⟨a', b', e, cur, h1, rfl, h3, h4, h5⟩
  · exact ⟨0, rfl, .inl rfl⟩
  · obtain ⟨rfl, rfl⟩ := pk_inj h1
    refine ⟨e, rfl, .inr ?_⟩
    rcases h.cur h3 with rfl | ⟨_, q⟩
    · exact h5 rfl
    · omega
theorem lookB {m m' : EM} {a b : Int} {x : E3} {fr : Bool} {v : Value} (h : GOk m m' a b x fr) (hv : v = .int .i64 0 ∨ PhB m (pk a x.1) v) : ∃ u, v = .int .i64 u ∧ (u = 0 ∨ u = x.2.1) := by
  rcases hv with rfl | ⟨a', b', e, cur, h1, rfl, h3, h4, h5⟩
  · exact ⟨0, rfl, .inl rfl⟩
  · obtain ⟨rfl, rfl⟩ := pk_inj h1
    refine ⟨e, rfl, .inr ?_⟩
    rcases h.cur h3 with rfl | ⟨q, _⟩
    · exact h5 rfl
    · omega
theorem phA {m m' : EM} {a b : Int} {x : E3} {fr : Bool} {k v : Value} (h : GOk m m' a b x fr) (hv : PhA m k v) : PhA m' k v := by
  obtain ⟨a', b', e, cur, h1, h2, h3, h4, h5⟩ := hv
  by_cases ha : a' = a
  · subst ha
    refine ⟨a', b', e, x, h1, h2, h.now, ?_⟩
    rcases h.cur h3 with rfl | ⟨_, q⟩
    · exact ⟨h4, h5⟩
    · exact ⟨by omega, fun he => by omega⟩
  · refine ⟨a', b', e, cur, h1, h2, ?_, h4, h5⟩
    rcases h.or with rfl | ⟨rfl, _⟩
    · exact h3
    · rw [aget_aput, if_neg ha]; exact h3
theorem phB {m m' : EM} {a b : Int} {x : E3} {fr : Bool} {k v : Value} (h : GOk m m' a b x fr) (hv : PhB m k v) : PhB m' k v := by
  obtain ⟨a', b', e, cur, h1, h2, h3, h4, h5⟩ := hv
  by_cases ha : a' = a
  · subst ha
    refine ⟨a', b', e, x, h1, h2, h.now, ?_⟩
    rcases h.cur h3 with rfl | ⟨q, _⟩
    · exact ⟨h4, h5⟩
    · exact ⟨by omega, fun he => by omega⟩
  · refine ⟨a', b', e, cur, h1, h2, ?_, h4, h5⟩
    rcases h.or with rfl | ⟨rfl, _⟩
    · exact h3
    · rw [aget_aput, if_neg ha]; exact h3
theorem phAn {m m' : EM} {a b : Int} {x : E3} {fr : Bool} (h : GOk m m' a b x fr) : PhA m' (pk a x.2.1) (.int .i64 x.1) := ⟨a, x.2.1, x.1, x, rfl, rfl, h.now, Int.le_refl _, fun _ => rfl⟩
theorem phBn {m m' : EM} {a b : Int} {x : E3} {fr : Bool} (h : GOk m m' a b x fr) : PhB m' (pk a x.1) (.int .i64 x.2.1) := ⟨a, x.1, x.2.1, x, rfl, rfl, h.now, Int.le_refl _, fun _ => rfl⟩
set_option maxRecDepth 100000 in
set_option maxHeartbeats 4000000 in
theorem law_RollRises {w : World} {R : Kn} {L : List HP}  (hS : St w R (L)) {mo : Int} {v1 : Value} {xs : List Five} (h1 : Ro R fiveE 5 v1 xs) (hok : ∀ x ∈ xs, x.ok) (hlx : xs.length ≤ 140737488355328) :
    Fn Try.prog 4 #[.int .i64 mo, v1] w (fun v w' => v = .bool true ∧ St w' R L) := by
  obtain ⟨a1, c1, rfl, hl1⟩ := h1.len
  refine Fn.introG (n := 190) Try.func4 rfl rfl rfl ?_
  refine WG.seq ?_
  refine WG.region rfl ?_
  refine S.assignC rfl ?_
  refine WS.done ?_
  refine WG.seq ?_
  refine WG.seq ?_
  refine WG.region rfl ?_
  refine S.call ent6 rfl (l15_alive hS ) rfl ?_
  rintro _ w21 ⟨rfl, hS21⟩
  clear hS
  refine S.not rfl rfl ?_
  refine WS.done ?_
  refine WG.condF rfl ?_
  refine WG.skip ?_
  refine WG.seq ?_
  refine WG.seq ?_
  refine WG.region rfl ?_
  refine S.moveT rfl ?_
  refine S.lenSl Try.underlying22 rfl rfl ?_
  refine S.gtr rfl rfl rfl ?_
  refine WS.done ?_
  refine WG.condD rfl (fun c25 => ?_) (fun c25 => ?_)
  ·
    skip
    refine WG.seq ?_
    refine WG.region rfl ?_
    refine S.assignC rfl ?_
    refine WS.done ?_
    refine WG.ret (qm0 (ret1 rfl rfl ?_))
    exact ⟨rfl, hS21⟩
  ·
    skip
    refine WG.skip ?_
    refine WG.seq ?_
    refine WG.region rfl ?_
    refine S.moveT rfl ?_
    refine S.call ent7 rfl (r_new hS21 ) rfl ?_
    rintro v28 w28 hcs28
    clear hS21
    rcases hcs28 with ⟨hN28, rfl, hS28⟩ | ⟨hN28, bh28, bm28, rfl, hS28⟩
    ·
      skip
      refine S.moveT rfl ?_
      refine S.extract rfl rfl rfl ?_
      refine S.extract rfl rfl rfl ?_
      refine S.assignT rfl ?_
      refine S.assignT rfl ?_
      refine WS.done ?_
      refine WG.seq ?_
      refine WG.seq ?_
      refine WG.region rfl ?_
      refine S.moveT rfl ?_
      refine S.neq rfl rfl rfl ?_
      refine S.isTD (d := 32) rfl (by decide) ?_
      refine S.moveT rfl ?_
      refine S.off rfl ?_
      refine S.off rfl ?_
      refine S.pickTC rfl rfl ?_
      refine WS.done ?_
      refine WG.condT rfl ?_
      refine WG.seq ?_
      refine WG.region rfl ?_
      refine S.moveT rfl ?_
      refine S.eqlNilT Try.underlying24 rfl rfl rfl ?_
      refine S.assignT rfl ?_
      refine WS.done ?_
      refine WG.ret (qm0 (ret1 rfl rfl ?_))
      exact ⟨rfl, hS28⟩
    ·
      skip
      refine S.moveT rfl ?_
      refine S.extract rfl rfl rfl ?_
      refine S.extract rfl rfl rfl ?_
      refine S.assignT rfl ?_
      refine S.assignT rfl ?_
      refine WS.done ?_
      refine WG.seq ?_
      refine WG.seq ?_
      refine WG.region rfl ?_
      refine S.moveT rfl ?_
      refine S.neq rfl rfl rfl ?_
      refine S.isFD (d := 32) rfl (by decide) ?_
      refine S.moveT rfl ?_
      refine S.moveT rfl ?_
      refine S.eqlNil Try.underlying24 rfl rfl rfl ?_
      refine S.pickF rfl rfl ?_
      refine WS.done ?_
      refine WG.condF rfl ?_
      refine WG.skip ?_
      refine WG.seq ?_
      refine WG.region rfl ?_
      refine S.makeMapF (Φ := PhA []) hS28 Try.underlying49 rfl ?_
      intro bA wA hSA; clear hS28
      refine S.assignT rfl ?_
      refine WS.done ?_
      refine WG.seq ?_
      refine WG.region rfl ?_
      refine S.makeMapF (Φ := PhB []) hSA Try.underlying49 rfl ?_
      intro bB wB hSB; clear hSA
      refine S.assignT rfl ?_
      refine WS.done ?_
      refine WG.seq ?_
      refine WG.seq ?_
      refine WG.region rfl ?_
      refine S.assignC rfl ?_
      refine WS.done ?_
      refine WG.block ?_
      refine WG.loopE (fun rq mm rr wr => ∃ (i : Nat) (m : EM) (nA nB : Nat), mm = xs.length - i ∧ (i ≤ xs.length ∧ RI mo m ∧ nA ≤ i ∧ nB ≤ i) ∧ rr 9 = .int .i64 (i : Int) ∧ Agr [0, 1, 5, 7, 8] rr rq ∧ St wr R (blk bh28 (.cells (#[.int .i64 mo, .map (some bm28)]) 58 (0, 0)) :: Mp Try.prog 2 bm28 (mE entV m) :: MpF Try.prog 50 bA nA (PhA m) :: MpF Try.prog 50 bB nB (PhB m) :: L)) ⟨0, [], 0, 0, rfl, (by exact ⟨Nat.zero_le _, RI.nil (by omega), Nat.le_refl _, Nat.le_refl _⟩), rfl, ⟨rfl, rfl, rfl, rfl, rfl, trivial⟩, ((((hSB.at_ (i := 0) rfl).at_ (i := 1) rfl).at_ (i := 3) rfl).at_ (i := 3) rfl)⟩ ?_
      rintro mm rr w1001 ⟨i, m, nA, nB, hm1001, ⟨hi, hI1, hnA, hnB⟩, hr1001_9, hA1001, hS1001⟩
      obtain ⟨rr, rfl⟩ := agrBack hA1001
      clear hA1001
      obtain ⟨rr, rfl⟩ := back1 (r := rr) hr1001_9
      clear hr1001_9
      refine WG.seq ?_
      refine WG.seq ?_
      refine WG.region rfl ?_
      refine S.moveT rfl ?_
      refine S.moveT rfl ?_
      refine S.lenSl Try.underlying22 rfl rfl ?_
      refine S.lss rfl rfl rfl ?_
      refine WS.done ?_
      refine WG.condD rfl (fun c44 => ?_) (fun c44 => ?_)
      ·
        skip
        refine WG.skip ?_
        refine WG.seq ?_
        refine WG.block ?_
        refine WG.seq ?_
        refine WG.region rfl ?_
        refine S.moveT rfl ?_
        refine S.moveT rfl ?_
        refine S.indexRo h1 Try.underlying22 ti32 rfl rfl (by omega) rfl ?_
        intro ad49 u49 hu49 hl49 hc49
        refine S.loadRoA hS1001 hc49 hl49 Try.underlying32 rfl ti32 rfl rfl ?_
        refine S.alloc hS1001 ti32 rfl rfl ?_
        intro b10 w10 hS10; clear hS1001
        refine S.storeB (i := 0) hS10 rfl ti32 rfl rfl rfl rfl rfl rfl rfl rfl ?_
        intro w2001 hS2001; clear hS10
        refine WS.done ?_
        refine WG.seq ?_
        refine WG.seq ?_
        refine WG.region rfl ?_
        refine S.fieldB Try.underlying32 rfl ti3 rfl rfl rfl rfl ?_
        refine S.loadB (i := 0) hS2001 rfl Try.underlying3 rfl rfl rfl rfl ?_
        refine S.neq rfl rfl rfl ?_
        refine WS.done ?_
        refine WG.condD rfl (fun c53 => ?_) (fun c53 => ?_)
        ·
          skip
          refine WG.exit ?_
          refine WG.region rfl ?_
          refine S.moveT rfl ?_
          first
            | refine S.addN rfl rfl rfl (by omega) ?_
            | refine S.add rfl rfl rfl ?_
          refine S.assignT rfl ?_
          refine WS.done ?_
          try (rw [hgn.2] at hS2001)
          exact ⟨rfl, _, (by omega), ⟨i + 1, _, _, _, rfl, (by exact ⟨by omega, by first | exact hI1.grant | exact hI1, by omega, by omega⟩), rfl, ⟨rfl, rfl, rfl, rfl, rfl, trivial⟩, hS2001.drop⟩⟩
        ·
          skip
          refine WG.skip ?_
          refine WG.seq ?_
          refine WG.region rfl ?_
          refine S.moveT rfl ?_
          refine S.fieldB Try.underlying32 rfl ti2 rfl rfl rfl rfl ?_
          refine S.loadB (i := 0) hS2001 rfl Try.underlying2 rfl rfl rfl rfl ?_
          refine S.call ent15 rfl (r_of (((((hS2001.at_ (i := 4) rfl).at_ (i := 4) rfl).at_ (i := 2) rfl).at_ (i := 4) rfl).at_ (i := 4) rfl) (by exact fits_wf (hok _ (List.mem_of_getElem? hu49)).2.1)) rfl ?_
          rintro _ w58 ⟨rfl, hS58⟩
          clear hS2001
          refine S.moveT rfl ?_
          refine S.extract rfl rfl rfl ?_
          refine S.extract rfl rfl rfl ?_
          refine S.alloc hS58 ti34 rfl rfl ?_
          intro b11 w11 hS11; clear hS58
          refine S.storeB (i := 0) hS11 rfl ti34 rfl rfl rfl rfl rfl rfl rfl rfl ?_
          intro w2002 hS2002; clear hS11
          refine S.assignT rfl ?_
          refine WS.done ?_
          refine WG.seq ?_
          refine WG.region rfl ?_
          refine S.moveT rfl ?_
          refine S.fieldB Try.underlying32 rfl ti2 rfl rfl rfl rfl ?_
          refine S.loadB (i := 3) hS2002 rfl Try.underlying2 rfl rfl rfl rfl ?_
          refine S.fieldB Try.underlying32 rfl ti2 rfl rfl rfl rfl ?_
          refine S.loadB (i := 3) hS2002 rfl Try.underlying2 rfl rfl rfl rfl ?_
          refine S.fieldB Try.underlying32 rfl ti2 rfl rfl rfl rfl ?_
          refine S.loadB (i := 3) hS2002 rfl Try.underlying2 rfl rfl rfl rfl ?_
          refine S.call ent9 rfl (r_grant ((((((hS2002.at_ (i := 5) rfl).at_ (i := 5) rfl).at_ (i := 5) rfl).at_ (i := 3) rfl).at_ (i := 5) rfl).at_ (i := 5) rfl) (by exact fits_wf (hok _ (List.mem_of_getElem? hu49)).2.1) (by exact fits_wf (hok _ (List.mem_of_getElem? hu49)).2.2.1) (by exact fits_wf (hok _ (List.mem_of_getElem? hu49)).2.2.2.1) (by exact hI1)) rfl ?_
          rintro _ w69 ⟨rfl, hS69⟩
          clear hS2002
          refine S.moveT rfl ?_
          refine S.extract rfl rfl rfl ?_
          refine S.extract rfl rfl rfl ?_
          refine S.extract rfl rfl rfl ?_
          refine S.alloc hS69 ti34 rfl rfl ?_
          intro b13 w13 hS13; clear hS69
          refine S.storeB (i := 0) hS13 rfl ti34 rfl rfl rfl rfl rfl rfl rfl rfl ?_
          intro w2003 hS2003; clear hS13
          refine S.assignT rfl ?_
          refine S.assignT rfl ?_
          refine WS.done ?_
          refine WG.seq ?_
          refine WG.region rfl ?_
          refine S.moveT rfl ?_
          refine S.fieldB Try.underlying32 rfl ti2 rfl rfl rfl rfl ?_
          refine S.loadB (i := 4) hS2003 rfl Try.underlying2 rfl rfl rfl rfl ?_
          refine S.call ent15 rfl (r_of (((((((hS2003.at_ (i := 6) rfl).at_ (i := 6) rfl).at_ (i := 6) rfl).at_ (i := 6) rfl).at_ (i := 4) rfl).at_ (i := 6) rfl).at_ (i := 6) rfl) (by exact fits_wf (hok _ (List.mem_of_getElem? hu49)).2.1)) rfl ?_
          rintro _ w77 ⟨rfl, hS77⟩
          clear hS2003
          refine S.moveT rfl ?_
          refine S.extract rfl rfl rfl ?_
          refine S.extract rfl rfl rfl ?_
          refine S.alloc hS77 ti34 rfl rfl ?_
          intro b16 w16 hS16; clear hS77
          refine S.storeB (i := 0) hS16 rfl ti34 rfl rfl rfl rfl rfl rfl rfl rfl ?_
          intro w2004 hS2004; clear hS16
          refine S.assignT rfl ?_
          refine WS.done ?_
          refine WG.seq ?_
          refine WG.seq ?_
          refine WG.region rfl ?_
          refine S.moveT rfl ?_
          refine S.neq rfl rfl rfl ?_
          refine WS.done ?_
          refine WG.condD rfl (fun c81 => ?_) (fun c81 => ?_)
          ·
            skip
            refine WG.seq ?_
            refine WG.seq ?_
            have hgn := grant_no c81
            refine WG.region rfl ?_
            refine S.moveT rfl ?_
            refine S.isB (d := 82) (c := false) rfl (by rw [hgn.1]) ?_
            refine S.moveT rfl ?_
            refine S.loadBA (i := 0) hS2004 rfl Try.underlying34 rfl ti34 rfl rfl rfl rfl ?_
            refine S.loadBA (i := 4) hS2004 rfl Try.underlying34 rfl ti34 rfl rfl rfl rfl ?_
            refine S.neqS rfl rfl (by kernel_rfl) (Eq1.struct Try.underlying34 (by kernel_rfl) (EqF.cons (by decide) (Part1.one Try.underlying2 rfl rfl) (Part1.one Try.underlying2 rfl rfl) (Eq1.int Try.underlying2) (EqF.cons (by decide) (Part1.one Try.underlying2 rfl rfl) (Part1.one Try.underlying2 rfl rfl) (Eq1.int Try.underlying2) (EqF.one (by decide) (Part1.one Try.underlying2 rfl rfl) (Part1.one Try.underlying2 rfl rfl) (Eq1.int Try.underlying2))))) rfl ?_
            refine S.isFD (d := 86) rfl (by rw [hgn.2]; exact fun h => h ⟨rfl, rfl, rfl⟩) ?_
            refine S.pickF rfl rfl ?_
            refine S.moveT rfl ?_
            refine S.moveT rfl ?_
            refine S.moveT rfl ?_
            refine S.neqB Try.underlying4 rfl rfl rfl ?_
            refine S.isB (d := 91) (c := false) rfl (by rw [hgn.2]; simp) ?_
            refine S.pickF rfl rfl ?_
            refine WS.done ?_
            refine WG.condF rfl ?_
            refine WG.skip ?_
            refine WG.exit ?_
            refine WG.region rfl ?_
            refine S.moveT rfl ?_
            first
              | refine S.addN rfl rfl rfl (by omega) ?_
              | refine S.add rfl rfl rfl ?_
            refine S.assignT rfl ?_
            refine WS.done ?_
            try (rw [hgn.2] at hS2004)
            exact ⟨rfl, _, (by omega), ⟨i + 1, _, _, _, rfl, (by exact ⟨by omega, by first | exact hI1.grant | exact hI1, by omega, by omega⟩), rfl, ⟨rfl, rfl, rfl, rfl, rfl, trivial⟩, ((((((((hS2004.at_ (i := 7) rfl).at_ (i := 7) rfl).at_ (i := 4) rfl).at_ (i := 4) rfl).at_ (i := 7) rfl).at_ (i := 7) rfl).at_ (i := 7) rfl).at_ (i := 7) rfl).drop.drop.drop.drop⟩⟩
          ·
            skip
            refine WG.skip ?_
            refine WG.seq ?_
            refine WG.seq ?_
            first | skip | skip
            have hgo := hI1.gok (Decidable.not_not.1 c81)
            have hge := hgo.ep
            have hgb := hgo.bo
            have hgf := hgo.fr
            have hgt := hgo.bt
            have hon := oldE_of hgo.now
            rcases Bool.eq_false_or_eq_true ((aget m u49.b).isSome) with hk | hk
            ·
              rw [hk]
              first | skip | skip
              have hgo := hI1.gok (Decidable.not_not.1 c81)
              have hge := hgo.ep
              have hgb := hgo.bo
              have hgf := hgo.fr
              have hgt := hgo.bt
              have hon := oldE_of hgo.now
              refine WG.region rfl ?_
              refine S.moveT rfl ?_
              refine S.isB (d := 93) (c := true) rfl (by rw [hgo.now]; rfl) ?_
              refine S.not rfl rfl ?_
              refine S.moveT rfl ?_
              refine S.loadBA (i := 0) hS2004 rfl Try.underlying34 rfl ti34 rfl rfl rfl rfl ?_
              refine S.loadBA (i := 3) hS2004 rfl Try.underlying34 rfl ti34 rfl rfl rfl rfl ?_
              refine S.neqS rfl rfl (by kernel_rfl) (Eq1.struct Try.underlying34 (by kernel_rfl) (EqF.cons (by decide) (Part1.one Try.underlying2 rfl rfl) (Part1.one Try.underlying2 rfl rfl) (Eq1.int Try.underlying2) (EqF.cons (by decide) (Part1.one Try.underlying2 rfl rfl) (Part1.one Try.underlying2 rfl rfl) (Eq1.int Try.underlying2) (EqF.one (by decide) (Part1.one Try.underlying2 rfl rfl) (Part1.one Try.underlying2 rfl rfl) (Eq1.int Try.underlying2))))) rfl ?_
              refine S.isFD (d := 98) rfl (by rw [hon]; exact fun h => h ⟨rfl, rfl, rfl⟩) ?_
              refine S.pickF rfl rfl ?_
              refine S.moveT rfl ?_
              refine S.moveT rfl ?_
              refine S.moveT rfl ?_
              refine S.fieldB Try.underlying34 rfl ti2 rfl rfl rfl rfl ?_
              refine S.loadB (i := 3) hS2004 rfl Try.underlying2 rfl rfl rfl rfl ?_
              refine S.fieldB Try.underlying34 rfl ti2 rfl rfl rfl rfl ?_
              refine S.loadB (i := 4) hS2004 rfl Try.underlying2 rfl rfl rfl rfl ?_
              refine S.lss rfl rfl rfl ?_
              refine S.isFD (d := 107) rfl (by omega) ?_
              refine S.moveT rfl ?_
              refine S.fieldB Try.underlying34 rfl ti2 rfl rfl rfl rfl ?_
              refine S.loadB (i := 3) hS2004 rfl Try.underlying2 rfl rfl rfl rfl ?_
              refine S.fieldB Try.underlying34 rfl ti2 rfl rfl rfl rfl ?_
              refine S.loadB (i := 4) hS2004 rfl Try.underlying2 rfl rfl rfl rfl ?_
              refine S.lss rfl rfl rfl ?_
              refine S.isFD (d := 113) rfl (by omega) ?_
              refine S.pickF rfl rfl ?_
              refine S.pickT rfl rfl ?_
              refine S.pickF rfl rfl ?_
              refine S.moveT rfl ?_
              refine S.moveT rfl ?_
              refine S.fieldB Try.underlying34 rfl ti2 rfl rfl rfl rfl ?_
              refine S.loadB (i := 3) hS2004 rfl Try.underlying2 rfl rfl rfl rfl ?_
              refine S.fieldB Try.underlying34 rfl ti2 rfl rfl rfl rfl ?_
              refine S.loadB (i := 4) hS2004 rfl Try.underlying2 rfl rfl rfl rfl ?_
              refine S.gtr rfl rfl rfl ?_
              refine S.neqB Try.underlying4 rfl rfl rfl ?_
              refine S.isB (d := 124) (c := false) rfl (by rw [hgf]; simp) ?_
              refine S.pickF rfl rfl ?_
              refine S.moveT rfl ?_
              refine S.fieldB Try.underlying34 rfl ti2 rfl rfl rfl rfl ?_
              refine S.loadB (i := 3) hS2004 rfl Try.underlying2 rfl rfl rfl rfl ?_
              refine S.fieldB Try.underlying32 rfl ti2 rfl rfl rfl rfl ?_
              refine S.loadB (i := 5) hS2004 rfl Try.underlying2 rfl rfl rfl rfl ?_
              refine S.neq rfl rfl rfl ?_
              refine S.isFD (d := 131) rfl (by exact fun h => h hgt) ?_
              refine S.pickF rfl rfl ?_
              refine WS.done ?_
              refine WG.condF rfl ?_
              refine WG.skip ?_
              refine WG.seq ?_
              refine WG.region rfl ?_
              refine S.moveT rfl ?_
              refine S.fieldB Try.underlying32 rfl ti2 rfl rfl rfl rfl ?_
              refine S.loadB (i := 5) hS2004 rfl Try.underlying2 rfl rfl rfl rfl ?_
              refine S.fieldB Try.underlying34 rfl ti2 rfl rfl rfl rfl ?_
              refine S.loadB (i := 3) hS2004 rfl Try.underlying2 rfl rfl rfl rfl ?_
              refine S.buildK (v := pk u49.b (grant mo m u49.b u49.c u49.d).1.1.2.1) rfl (by kernel_rfl) rfl ?_
              refine S.lookF keyed_pk (key_pk (fits_wf (hok _ (List.mem_of_getElem? hu49)).2.1) ((fits_le (hI1.grant (a := u49.b) (b := u49.c) (t := u49.d)) hgo.now).2)) hS2004 (i := 6) rfl Try.underlying49 ti2 rfl rfl rfl ?_
              intro v139 hv139
              obtain ⟨u139, rfl, hu139⟩ := lookA hgo hv139
              refine S.assignT rfl ?_
              refine WS.done ?_
              refine WG.seq ?_
              refine WG.region rfl ?_
              refine S.moveT rfl ?_
              refine S.fieldB Try.underlying32 rfl ti2 rfl rfl rfl rfl ?_
              refine S.loadB (i := 5) hS2004 rfl Try.underlying2 rfl rfl rfl rfl ?_
              refine S.fieldB Try.underlying34 rfl ti2 rfl rfl rfl rfl ?_
              refine S.loadB (i := 3) hS2004 rfl Try.underlying2 rfl rfl rfl rfl ?_
              refine S.buildK (v := pk u49.b (grant mo m u49.b u49.c u49.d).1.1.1) rfl (by kernel_rfl) rfl ?_
              refine S.lookF keyed_pk (key_pk (fits_wf (hok _ (List.mem_of_getElem? hu49)).2.1) ((fits_le (hI1.grant (a := u49.b) (b := u49.c) (t := u49.d)) hgo.now).1)) hS2004 (i := 7) rfl Try.underlying49 ti2 rfl rfl rfl ?_
              intro v146 hv146
              obtain ⟨u146, rfl, hu146⟩ := lookB hgo hv146
              refine S.assignT rfl ?_
              refine WS.done ?_
              refine WG.seq ?_
              refine WG.seq ?_
              refine WG.region rfl ?_
              refine S.moveT rfl ?_
              refine S.gtr rfl rfl rfl ?_
              refine S.moveT rfl ?_
              refine S.splitD (d := 149) rfl (fun c149 => ?_) (fun c149 => ?_)
              ·
                skip
                refine S.moveT rfl ?_
                refine S.fieldB Try.underlying34 rfl ti2 rfl rfl rfl rfl ?_
                refine S.loadB (i := 3) hS2004 rfl Try.underlying2 rfl rfl rfl rfl ?_
                refine S.neq rfl rfl rfl ?_
                refine S.isFD (d := 153) rfl (by omega) ?_
                refine S.pickT rfl rfl ?_
                refine S.moveT rfl ?_
                refine S.moveT rfl ?_
                refine S.gtr rfl rfl rfl ?_
                refine S.moveT rfl ?_
                refine S.splitD (d := 158) rfl (fun c158 => ?_) (fun c158 => ?_)
                ·
                  skip
                  refine S.moveT rfl ?_
                  refine S.fieldB Try.underlying34 rfl ti2 rfl rfl rfl rfl ?_
                  refine S.loadB (i := 3) hS2004 rfl Try.underlying2 rfl rfl rfl rfl ?_
                  refine S.neq rfl rfl rfl ?_
                  refine S.isFD (d := 162) rfl (by omega) ?_
                  refine S.pickT rfl rfl ?_
                  refine S.pickF rfl rfl ?_
                  refine WS.done ?_
                  refine WG.condF rfl ?_
                  refine WG.skip ?_
                  refine WG.seq ?_
                  refine WG.region rfl ?_
                  refine S.moveT rfl ?_
                  refine S.fieldB Try.underlying32 rfl ti2 rfl rfl rfl rfl ?_
                  refine S.loadB (i := 5) hS2004 rfl Try.underlying2 rfl rfl rfl rfl ?_
                  refine S.fieldB Try.underlying34 rfl ti2 rfl rfl rfl rfl ?_
                  refine S.loadB (i := 3) hS2004 rfl Try.underlying2 rfl rfl rfl rfl ?_
                  refine S.buildK (v := pk u49.b (grant mo m u49.b u49.c u49.d).1.1.2.1) rfl (by kernel_rfl) rfl ?_
                  refine S.fieldB Try.underlying34 rfl ti2 rfl rfl rfl rfl ?_
                  refine S.loadB (i := 3) hS2004 rfl Try.underlying2 rfl rfl rfl rfl ?_
                  refine S.putF (PhA (grant mo m u49.b u49.c u49.d).2) keyed_pk (key_pk (fits_wf (hok _ (List.mem_of_getElem? hu49)).2.1) ((fits_le (hI1.grant (a := u49.b) (b := u49.c) (t := u49.d)) hgo.now).2)) hS2004 (i := 6) rfl Try.underlying49 (by omega) rfl rfl rfl (fun k v h _ => phA hgo h) (phAn hgo) rfl ?_
                  intro wPA hSPA; clear hS2004
                  refine WS.done ?_
                  refine WG.region rfl ?_
                  refine S.moveT rfl ?_
                  refine S.fieldB Try.underlying32 rfl ti2 rfl rfl rfl rfl ?_
                  refine S.loadB (i := 5) hSPA rfl Try.underlying2 rfl rfl rfl rfl ?_
                  refine S.fieldB Try.underlying34 rfl ti2 rfl rfl rfl rfl ?_
                  refine S.loadB (i := 3) hSPA rfl Try.underlying2 rfl rfl rfl rfl ?_
                  refine S.buildK (v := pk u49.b (grant mo m u49.b u49.c u49.d).1.1.1) rfl (by kernel_rfl) rfl ?_
                  refine S.fieldB Try.underlying34 rfl ti2 rfl rfl rfl rfl ?_
                  refine S.loadB (i := 3) hSPA rfl Try.underlying2 rfl rfl rfl rfl ?_
                  refine S.putF (PhB (grant mo m u49.b u49.c u49.d).2) keyed_pk (key_pk (fits_wf (hok _ (List.mem_of_getElem? hu49)).2.1) ((fits_le (hI1.grant (a := u49.b) (b := u49.c) (t := u49.d)) hgo.now).1)) hSPA (i := 7) rfl Try.underlying49 (by omega) rfl rfl rfl (fun k v h _ => phB hgo h) (phBn hgo) rfl ?_
                  intro wPB hSPB; clear hSPA
                  refine WS.done ?_
                  refine WG.region rfl ?_
                  refine S.moveT rfl ?_
                  first
                    | refine S.addN rfl rfl rfl (by omega) ?_
                    | refine S.add rfl rfl rfl ?_
                  refine S.assignT rfl ?_
                  refine WS.done ?_
                  try (rw [hgn.2] at hSPB)
                  exact ⟨rfl, _, (by omega), ⟨i + 1, _, _, _, rfl, (by exact ⟨by omega, by first | exact hI1.grant | exact hI1, by omega, by omega⟩), rfl, ⟨rfl, rfl, rfl, rfl, rfl, trivial⟩, ((((((((hSPB.at_ (i := 7) rfl).at_ (i := 7) rfl).at_ (i := 4) rfl).at_ (i := 4) rfl).at_ (i := 7) rfl).at_ (i := 7) rfl).at_ (i := 7) rfl).at_ (i := 7) rfl).drop.drop.drop.drop⟩⟩
                ·
                  skip
                  refine S.off rfl ?_
                  refine S.off rfl ?_
                  refine S.off rfl ?_
                  refine S.off rfl ?_
                  refine S.pickFC rfl rfl ?_
                  refine S.pickF rfl rfl ?_
                  refine WS.done ?_
                  refine WG.condF rfl ?_
                  refine WG.skip ?_
                  refine WG.seq ?_
                  refine WG.region rfl ?_
                  refine S.moveT rfl ?_
                  refine S.fieldB Try.underlying32 rfl ti2 rfl rfl rfl rfl ?_
                  refine S.loadB (i := 5) hS2004 rfl Try.underlying2 rfl rfl rfl rfl ?_
                  refine S.fieldB Try.underlying34 rfl ti2 rfl rfl rfl rfl ?_
                  refine S.loadB (i := 3) hS2004 rfl Try.underlying2 rfl rfl rfl rfl ?_
                  refine S.buildK (v := pk u49.b (grant mo m u49.b u49.c u49.d).1.1.2.1) rfl (by kernel_rfl) rfl ?_
                  refine S.fieldB Try.underlying34 rfl ti2 rfl rfl rfl rfl ?_
                  refine S.loadB (i := 3) hS2004 rfl Try.underlying2 rfl rfl rfl rfl ?_
                  refine S.putF (PhA (grant mo m u49.b u49.c u49.d).2) keyed_pk (key_pk (fits_wf (hok _ (List.mem_of_getElem? hu49)).2.1) ((fits_le (hI1.grant (a := u49.b) (b := u49.c) (t := u49.d)) hgo.now).2)) hS2004 (i := 6) rfl Try.underlying49 (by omega) rfl rfl rfl (fun k v h _ => phA hgo h) (phAn hgo) rfl ?_
                  intro wPA hSPA; clear hS2004
                  refine WS.done ?_
                  refine WG.region rfl ?_
                  refine S.moveT rfl ?_
                  refine S.fieldB Try.underlying32 rfl ti2 rfl rfl rfl rfl ?_
                  refine S.loadB (i := 5) hSPA rfl Try.underlying2 rfl rfl rfl rfl ?_
                  refine S.fieldB Try.underlying34 rfl ti2 rfl rfl rfl rfl ?_
                  refine S.loadB (i := 3) hSPA rfl Try.underlying2 rfl rfl rfl rfl ?_
                  refine S.buildK (v := pk u49.b (grant mo m u49.b u49.c u49.d).1.1.1) rfl (by kernel_rfl) rfl ?_
                  refine S.fieldB Try.underlying34 rfl ti2 rfl rfl rfl rfl ?_
                  refine S.loadB (i := 3) hSPA rfl Try.underlying2 rfl rfl rfl rfl ?_
                  refine S.putF (PhB (grant mo m u49.b u49.c u49.d).2) keyed_pk (key_pk (fits_wf (hok _ (List.mem_of_getElem? hu49)).2.1) ((fits_le (hI1.grant (a := u49.b) (b := u49.c) (t := u49.d)) hgo.now).1)) hSPA (i := 7) rfl Try.underlying49 (by omega) rfl rfl rfl (fun k v h _ => phB hgo h) (phBn hgo) rfl ?_
                  intro wPB hSPB; clear hSPA
                  refine WS.done ?_
                  refine WG.region rfl ?_
                  refine S.moveT rfl ?_
                  first
                    | refine S.addN rfl rfl rfl (by omega) ?_
                    | refine S.add rfl rfl rfl ?_
                  refine S.assignT rfl ?_
                  refine WS.done ?_
                  try (rw [hgn.2] at hSPB)
                  exact ⟨rfl, _, (by omega), ⟨i + 1, _, _, _, rfl, (by exact ⟨by omega, by first | exact hI1.grant | exact hI1, by omega, by omega⟩), rfl, ⟨rfl, rfl, rfl, rfl, rfl, trivial⟩, ((((((((hSPB.at_ (i := 7) rfl).at_ (i := 7) rfl).at_ (i := 4) rfl).at_ (i := 4) rfl).at_ (i := 7) rfl).at_ (i := 7) rfl).at_ (i := 7) rfl).at_ (i := 7) rfl).drop.drop.drop.drop⟩⟩
              ·
                skip
                refine S.off rfl ?_
                refine S.off rfl ?_
                refine S.off rfl ?_
                refine S.off rfl ?_
                refine S.pickFC rfl rfl ?_
                refine S.moveT rfl ?_
                refine S.moveT rfl ?_
                refine S.gtr rfl rfl rfl ?_
                refine S.moveT rfl ?_
                refine S.splitD (d := 158) rfl (fun c158 => ?_) (fun c158 => ?_)
                ·
                  skip
                  refine S.moveT rfl ?_
                  refine S.fieldB Try.underlying34 rfl ti2 rfl rfl rfl rfl ?_
                  refine S.loadB (i := 3) hS2004 rfl Try.underlying2 rfl rfl rfl rfl ?_
                  refine S.neq rfl rfl rfl ?_
                  refine S.isFD (d := 162) rfl (by omega) ?_
                  refine S.pickT rfl rfl ?_
                  refine S.pickF rfl rfl ?_
                  refine WS.done ?_
                  refine WG.condF rfl ?_
                  refine WG.skip ?_
                  refine WG.seq ?_
                  refine WG.region rfl ?_
                  refine S.moveT rfl ?_
                  refine S.fieldB Try.underlying32 rfl ti2 rfl rfl rfl rfl ?_
                  refine S.loadB (i := 5) hS2004 rfl Try.underlying2 rfl rfl rfl rfl ?_
                  refine S.fieldB Try.underlying34 rfl ti2 rfl rfl rfl rfl ?_
                  refine S.loadB (i := 3) hS2004 rfl Try.underlying2 rfl rfl rfl rfl ?_
                  refine S.buildK (v := pk u49.b (grant mo m u49.b u49.c u49.d).1.1.2.1) rfl (by kernel_rfl) rfl ?_
                  refine S.fieldB Try.underlying34 rfl ti2 rfl rfl rfl rfl ?_
                  refine S.loadB (i := 3) hS2004 rfl Try.underlying2 rfl rfl rfl rfl ?_
                  refine S.putF (PhA (grant mo m u49.b u49.c u49.d).2) keyed_pk (key_pk (fits_wf (hok _ (List.mem_of_getElem? hu49)).2.1) ((fits_le (hI1.grant (a := u49.b) (b := u49.c) (t := u49.d)) hgo.now).2)) hS2004 (i := 6) rfl Try.underlying49 (by omega) rfl rfl rfl (fun k v h _ => phA hgo h) (phAn hgo) rfl ?_
                  intro wPA hSPA; clear hS2004
                  refine WS.done ?_
                  refine WG.region rfl ?_
                  refine S.moveT rfl ?_
                  refine S.fieldB Try.underlying32 rfl ti2 rfl rfl rfl rfl ?_
                  refine S.loadB (i := 5) hSPA rfl Try.underlying2 rfl rfl rfl rfl ?_
                  refine S.fieldB Try.underlying34 rfl ti2 rfl rfl rfl rfl ?_
                  refine S.loadB (i := 3) hSPA rfl Try.underlying2 rfl rfl rfl rfl ?_
                  refine S.buildK (v := pk u49.b (grant mo m u49.b u49.c u49.d).1.1.1) rfl (by kernel_rfl) rfl ?_
                  refine S.fieldB Try.underlying34 rfl ti2 rfl rfl rfl rfl ?_
                  refine S.loadB (i := 3) hSPA rfl Try.underlying2 rfl rfl rfl rfl ?_
                  refine S.putF (PhB (grant mo m u49.b u49.c u49.d).2) keyed_pk (key_pk (fits_wf (hok _ (List.mem_of_getElem? hu49)).2.1) ((fits_le (hI1.grant (a := u49.b) (b := u49.c) (t := u49.d)) hgo.now).1)) hSPA (i := 7) rfl Try.underlying49 (by omega) rfl rfl rfl (fun k v h _ => phB hgo h) (phBn hgo) rfl ?_
                  intro wPB hSPB; clear hSPA
                  refine WS.done ?_
                  refine WG.region rfl ?_
                  refine S.moveT rfl ?_
                  first
                    | refine S.addN rfl rfl rfl (by omega) ?_
                    | refine S.add rfl rfl rfl ?_
                  refine S.assignT rfl ?_
                  refine WS.done ?_
                  try (rw [hgn.2] at hSPB)
                  exact ⟨rfl, _, (by omega), ⟨i + 1, _, _, _, rfl, (by exact ⟨by omega, by first | exact hI1.grant | exact hI1, by omega, by omega⟩), rfl, ⟨rfl, rfl, rfl, rfl, rfl, trivial⟩, ((((((((hSPB.at_ (i := 7) rfl).at_ (i := 7) rfl).at_ (i := 4) rfl).at_ (i := 4) rfl).at_ (i := 7) rfl).at_ (i := 7) rfl).at_ (i := 7) rfl).at_ (i := 7) rfl).drop.drop.drop.drop⟩⟩
                ·
                  skip
                  refine S.off rfl ?_
                  refine S.off rfl ?_
                  refine S.off rfl ?_
                  refine S.off rfl ?_
                  refine S.pickFC rfl rfl ?_
                  refine S.pickF rfl rfl ?_
                  refine WS.done ?_
                  refine WG.condF rfl ?_
                  refine WG.skip ?_
                  refine WG.seq ?_
                  refine WG.region rfl ?_
                  refine S.moveT rfl ?_
                  refine S.fieldB Try.underlying32 rfl ti2 rfl rfl rfl rfl ?_
                  refine S.loadB (i := 5) hS2004 rfl Try.underlying2 rfl rfl rfl rfl ?_
                  refine S.fieldB Try.underlying34 rfl ti2 rfl rfl rfl rfl ?_
                  refine S.loadB (i := 3) hS2004 rfl Try.underlying2 rfl rfl rfl rfl ?_
                  refine S.buildK (v := pk u49.b (grant mo m u49.b u49.c u49.d).1.1.2.1) rfl (by kernel_rfl) rfl ?_
                  refine S.fieldB Try.underlying34 rfl ti2 rfl rfl rfl rfl ?_
                  refine S.loadB (i := 3) hS2004 rfl Try.underlying2 rfl rfl rfl rfl ?_
                  refine S.putF (PhA (grant mo m u49.b u49.c u49.d).2) keyed_pk (key_pk (fits_wf (hok _ (List.mem_of_getElem? hu49)).2.1) ((fits_le (hI1.grant (a := u49.b) (b := u49.c) (t := u49.d)) hgo.now).2)) hS2004 (i := 6) rfl Try.underlying49 (by omega) rfl rfl rfl (fun k v h _ => phA hgo h) (phAn hgo) rfl ?_
                  intro wPA hSPA; clear hS2004
                  refine WS.done ?_
                  refine WG.region rfl ?_
                  refine S.moveT rfl ?_
                  refine S.fieldB Try.underlying32 rfl ti2 rfl rfl rfl rfl ?_
                  refine S.loadB (i := 5) hSPA rfl Try.underlying2 rfl rfl rfl rfl ?_
                  refine S.fieldB Try.underlying34 rfl ti2 rfl rfl rfl rfl ?_
                  refine S.loadB (i := 3) hSPA rfl Try.underlying2 rfl rfl rfl rfl ?_
                  refine S.buildK (v := pk u49.b (grant mo m u49.b u49.c u49.d).1.1.1) rfl (by kernel_rfl) rfl ?_
                  refine S.fieldB Try.underlying34 rfl ti2 rfl rfl rfl rfl ?_
                  refine S.loadB (i := 3) hSPA rfl Try.underlying2 rfl rfl rfl rfl ?_
                  refine S.putF (PhB (grant mo m u49.b u49.c u49.d).2) keyed_pk (key_pk (fits_wf (hok _ (List.mem_of_getElem? hu49)).2.1) ((fits_le (hI1.grant (a := u49.b) (b := u49.c) (t := u49.d)) hgo.now).1)) hSPA (i := 7) rfl Try.underlying49 (by omega) rfl rfl rfl (fun k v h _ => phB hgo h) (phBn hgo) rfl ?_
                  intro wPB hSPB; clear hSPA
                  refine WS.done ?_
                  refine WG.region rfl ?_
                  refine S.moveT rfl ?_
                  first
                    | refine S.addN rfl rfl rfl (by omega) ?_
                    | refine S.add rfl rfl rfl ?_
                  refine S.assignT rfl ?_
                  refine WS.done ?_
                  try (rw [hgn.2] at hSPB)
                  exact ⟨rfl, _, (by omega), ⟨i + 1, _, _, _, rfl, (by exact ⟨by omega, by first | exact hI1.grant | exact hI1, by omega, by omega⟩), rfl, ⟨rfl, rfl, rfl, rfl, rfl, trivial⟩, ((((((((hSPB.at_ (i := 7) rfl).at_ (i := 7) rfl).at_ (i := 4) rfl).at_ (i := 4) rfl).at_ (i := 7) rfl).at_ (i := 7) rfl).at_ (i := 7) rfl).at_ (i := 7) rfl).drop.drop.drop.drop⟩⟩
            ·
              rw [hk]
              first | skip | skip
              have hgo := hI1.gok (Decidable.not_not.1 c81)
              have hge := hgo.ep
              have hgb := hgo.bo
              have hgf := hgo.fr
              have hgt := hgo.bt
              have hon := oldE_of hgo.now
              refine WG.region rfl ?_
              refine S.moveT rfl ?_
              refine S.isB (d := 93) (c := true) rfl (by rw [hgo.now]; rfl) ?_
              refine S.not rfl rfl ?_
              refine S.moveT rfl ?_
              refine S.loadBA (i := 0) hS2004 rfl Try.underlying34 rfl ti34 rfl rfl rfl rfl ?_
              refine S.loadBA (i := 3) hS2004 rfl Try.underlying34 rfl ti34 rfl rfl rfl rfl ?_
              refine S.neqS rfl rfl (by kernel_rfl) (Eq1.struct Try.underlying34 (by kernel_rfl) (EqF.cons (by decide) (Part1.one Try.underlying2 rfl rfl) (Part1.one Try.underlying2 rfl rfl) (Eq1.int Try.underlying2) (EqF.cons (by decide) (Part1.one Try.underlying2 rfl rfl) (Part1.one Try.underlying2 rfl rfl) (Eq1.int Try.underlying2) (EqF.one (by decide) (Part1.one Try.underlying2 rfl rfl) (Part1.one Try.underlying2 rfl rfl) (Eq1.int Try.underlying2))))) rfl ?_
              refine S.isFD (d := 98) rfl (by rw [hon]; exact fun h => h ⟨rfl, rfl, rfl⟩) ?_
              refine S.pickF rfl rfl ?_
              refine S.moveT rfl ?_
              refine S.moveT rfl ?_
              refine S.moveT rfl ?_
              refine S.off rfl ?_
              refine S.off rfl ?_
              refine S.off rfl ?_
              refine S.off rfl ?_
              refine S.off rfl ?_
              refine S.off rfl ?_
              refine S.off rfl ?_
              refine S.off rfl ?_
              refine S.off rfl ?_
              refine S.off rfl ?_
              refine S.off rfl ?_
              refine S.off rfl ?_
              refine S.pickFC rfl rfl ?_
              refine S.pickF rfl rfl ?_
              refine S.moveT rfl ?_
              refine S.moveT rfl ?_
              refine S.fieldB Try.underlying34 rfl ti2 rfl rfl rfl rfl ?_
              refine S.loadB (i := 3) hS2004 rfl Try.underlying2 rfl rfl rfl rfl ?_
              refine S.fieldB Try.underlying34 rfl ti2 rfl rfl rfl rfl ?_
              refine S.loadB (i := 4) hS2004 rfl Try.underlying2 rfl rfl rfl rfl ?_
              refine S.gtr rfl rfl rfl ?_
              refine S.neqB Try.underlying4 rfl rfl rfl ?_
              refine S.isB (d := 124) (c := false) rfl (by rw [hgf]; simp) ?_
              refine S.pickF rfl rfl ?_
              refine S.moveT rfl ?_
              refine S.fieldB Try.underlying34 rfl ti2 rfl rfl rfl rfl ?_
              refine S.loadB (i := 3) hS2004 rfl Try.underlying2 rfl rfl rfl rfl ?_
              refine S.fieldB Try.underlying32 rfl ti2 rfl rfl rfl rfl ?_
              refine S.loadB (i := 5) hS2004 rfl Try.underlying2 rfl rfl rfl rfl ?_
              refine S.neq rfl rfl rfl ?_
              refine S.isFD (d := 131) rfl (by exact fun h => h hgt) ?_
              refine S.pickF rfl rfl ?_
              refine WS.done ?_
              refine WG.condF rfl ?_
              refine WG.skip ?_
              refine WG.seq ?_
              refine WG.region rfl ?_
              refine S.moveT rfl ?_
              refine S.fieldB Try.underlying32 rfl ti2 rfl rfl rfl rfl ?_
              refine S.loadB (i := 5) hS2004 rfl Try.underlying2 rfl rfl rfl rfl ?_
              refine S.fieldB Try.underlying34 rfl ti2 rfl rfl rfl rfl ?_
              refine S.loadB (i := 3) hS2004 rfl Try.underlying2 rfl rfl rfl rfl ?_
              refine S.buildK (v := pk u49.b (grant mo m u49.b u49.c u49.d).1.1.2.1) rfl (by kernel_rfl) rfl ?_
              refine S.lookF keyed_pk (key_pk (fits_wf (hok _ (List.mem_of_getElem? hu49)).2.1) ((fits_le (hI1.grant (a := u49.b) (b := u49.c) (t := u49.d)) hgo.now).2)) hS2004 (i := 6) rfl Try.underlying49 ti2 rfl rfl rfl ?_
              intro v139 hv139
              obtain ⟨u139, rfl, hu139⟩ := lookA hgo hv139
              refine S.assignT rfl ?_
              refine WS.done ?_
              refine WG.seq ?_
              refine WG.region rfl ?_
              refine S.moveT rfl ?_
              refine S.fieldB Try.underlying32 rfl ti2 rfl rfl rfl rfl ?_
              refine S.loadB (i := 5) hS2004 rfl Try.underlying2 rfl rfl rfl rfl ?_
              refine S.fieldB Try.underlying34 rfl ti2 rfl rfl rfl rfl ?_
              refine S.loadB (i := 3) hS2004 rfl Try.underlying2 rfl rfl rfl rfl ?_
              refine S.buildK (v := pk u49.b (grant mo m u49.b u49.c u49.d).1.1.1) rfl (by kernel_rfl) rfl ?_
              refine S.lookF keyed_pk (key_pk (fits_wf (hok _ (List.mem_of_getElem? hu49)).2.1) ((fits_le (hI1.grant (a := u49.b) (b := u49.c) (t := u49.d)) hgo.now).1)) hS2004 (i := 7) rfl Try.underlying49 ti2 rfl rfl rfl ?_
              intro v146 hv146
              obtain ⟨u146, rfl, hu146⟩ := lookB hgo hv146
              refine S.assignT rfl ?_
              refine WS.done ?_
              refine WG.seq ?_
              refine WG.seq ?_
              refine WG.region rfl ?_
              refine S.moveT rfl ?_
              refine S.gtr rfl rfl rfl ?_
              refine S.moveT rfl ?_
              refine S.splitD (d := 149) rfl (fun c149 => ?_) (fun c149 => ?_)
              ·
                skip
                refine S.moveT rfl ?_
                refine S.fieldB Try.underlying34 rfl ti2 rfl rfl rfl rfl ?_
                refine S.loadB (i := 3) hS2004 rfl Try.underlying2 rfl rfl rfl rfl ?_
                refine S.neq rfl rfl rfl ?_
                refine S.isFD (d := 153) rfl (by omega) ?_
                refine S.pickT rfl rfl ?_
                refine S.moveT rfl ?_
                refine S.moveT rfl ?_
                refine S.gtr rfl rfl rfl ?_
                refine S.moveT rfl ?_
                refine S.splitD (d := 158) rfl (fun c158 => ?_) (fun c158 => ?_)
                ·
                  skip
                  refine S.moveT rfl ?_
                  refine S.fieldB Try.underlying34 rfl ti2 rfl rfl rfl rfl ?_
                  refine S.loadB (i := 3) hS2004 rfl Try.underlying2 rfl rfl rfl rfl ?_
                  refine S.neq rfl rfl rfl ?_
                  refine S.isFD (d := 162) rfl (by omega) ?_
                  refine S.pickT rfl rfl ?_
                  refine S.pickF rfl rfl ?_
                  refine WS.done ?_
                  refine WG.condF rfl ?_
                  refine WG.skip ?_
                  refine WG.seq ?_
                  refine WG.region rfl ?_
                  refine S.moveT rfl ?_
                  refine S.fieldB Try.underlying32 rfl ti2 rfl rfl rfl rfl ?_
                  refine S.loadB (i := 5) hS2004 rfl Try.underlying2 rfl rfl rfl rfl ?_
                  refine S.fieldB Try.underlying34 rfl ti2 rfl rfl rfl rfl ?_
                  refine S.loadB (i := 3) hS2004 rfl Try.underlying2 rfl rfl rfl rfl ?_
                  refine S.buildK (v := pk u49.b (grant mo m u49.b u49.c u49.d).1.1.2.1) rfl (by kernel_rfl) rfl ?_
                  refine S.fieldB Try.underlying34 rfl ti2 rfl rfl rfl rfl ?_
                  refine S.loadB (i := 3) hS2004 rfl Try.underlying2 rfl rfl rfl rfl ?_
                  refine S.putF (PhA (grant mo m u49.b u49.c u49.d).2) keyed_pk (key_pk (fits_wf (hok _ (List.mem_of_getElem? hu49)).2.1) ((fits_le (hI1.grant (a := u49.b) (b := u49.c) (t := u49.d)) hgo.now).2)) hS2004 (i := 6) rfl Try.underlying49 (by omega) rfl rfl rfl (fun k v h _ => phA hgo h) (phAn hgo) rfl ?_
                  intro wPA hSPA; clear hS2004
                  refine WS.done ?_
                  refine WG.region rfl ?_
                  refine S.moveT rfl ?_
                  refine S.fieldB Try.underlying32 rfl ti2 rfl rfl rfl rfl ?_
                  refine S.loadB (i := 5) hSPA rfl Try.underlying2 rfl rfl rfl rfl ?_
                  refine S.fieldB Try.underlying34 rfl ti2 rfl rfl rfl rfl ?_
                  refine S.loadB (i := 3) hSPA rfl Try.underlying2 rfl rfl rfl rfl ?_
                  refine S.buildK (v := pk u49.b (grant mo m u49.b u49.c u49.d).1.1.1) rfl (by kernel_rfl) rfl ?_
                  refine S.fieldB Try.underlying34 rfl ti2 rfl rfl rfl rfl ?_
                  refine S.loadB (i := 3) hSPA rfl Try.underlying2 rfl rfl rfl rfl ?_
                  refine S.putF (PhB (grant mo m u49.b u49.c u49.d).2) keyed_pk (key_pk (fits_wf (hok _ (List.mem_of_getElem? hu49)).2.1) ((fits_le (hI1.grant (a := u49.b) (b := u49.c) (t := u49.d)) hgo.now).1)) hSPA (i := 7) rfl Try.underlying49 (by omega) rfl rfl rfl (fun k v h _ => phB hgo h) (phBn hgo) rfl ?_
                  intro wPB hSPB; clear hSPA
                  refine WS.done ?_
                  refine WG.region rfl ?_
                  refine S.moveT rfl ?_
                  first
                    | refine S.addN rfl rfl rfl (by omega) ?_
                    | refine S.add rfl rfl rfl ?_
                  refine S.assignT rfl ?_
                  refine WS.done ?_
                  try (rw [hgn.2] at hSPB)
                  exact ⟨rfl, _, (by omega), ⟨i + 1, _, _, _, rfl, (by exact ⟨by omega, by first | exact hI1.grant | exact hI1, by omega, by omega⟩), rfl, ⟨rfl, rfl, rfl, rfl, rfl, trivial⟩, ((((((((hSPB.at_ (i := 7) rfl).at_ (i := 7) rfl).at_ (i := 4) rfl).at_ (i := 4) rfl).at_ (i := 7) rfl).at_ (i := 7) rfl).at_ (i := 7) rfl).at_ (i := 7) rfl).drop.drop.drop.drop⟩⟩
                ·
                  skip
                  refine S.off rfl ?_
                  refine S.off rfl ?_
                  refine S.off rfl ?_
                  refine S.off rfl ?_
                  refine S.pickFC rfl rfl ?_
                  refine S.pickF rfl rfl ?_
                  refine WS.done ?_
                  refine WG.condF rfl ?_
                  refine WG.skip ?_
                  refine WG.seq ?_
                  refine WG.region rfl ?_
                  refine S.moveT rfl ?_
                  refine S.fieldB Try.underlying32 rfl ti2 rfl rfl rfl rfl ?_
                  refine S.loadB (i := 5) hS2004 rfl Try.underlying2 rfl rfl rfl rfl ?_
                  refine S.fieldB Try.underlying34 rfl ti2 rfl rfl rfl rfl ?_
                  refine S.loadB (i := 3) hS2004 rfl Try.underlying2 rfl rfl rfl rfl ?_
                  refine S.buildK (v := pk u49.b (grant mo m u49.b u49.c u49.d).1.1.2.1) rfl (by kernel_rfl) rfl ?_
                  refine S.fieldB Try.underlying34 rfl ti2 rfl rfl rfl rfl ?_
                  refine S.loadB (i := 3) hS2004 rfl Try.underlying2 rfl rfl rfl rfl ?_
                  refine S.putF (PhA (grant mo m u49.b u49.c u49.d).2) keyed_pk (key_pk (fits_wf (hok _ (List.mem_of_getElem? hu49)).2.1) ((fits_le (hI1.grant (a := u49.b) (b := u49.c) (t := u49.d)) hgo.now).2)) hS2004 (i := 6) rfl Try.underlying49 (by omega) rfl rfl rfl (fun k v h _ => phA hgo h) (phAn hgo) rfl ?_
                  intro wPA hSPA; clear hS2004
                  refine WS.done ?_
                  refine WG.region rfl ?_
                  refine S.moveT rfl ?_
                  refine S.fieldB Try.underlying32 rfl ti2 rfl rfl rfl rfl ?_
                  refine S.loadB (i := 5) hSPA rfl Try.underlying2 rfl rfl rfl rfl ?_
                  refine S.fieldB Try.underlying34 rfl ti2 rfl rfl rfl rfl ?_
                  refine S.loadB (i := 3) hSPA rfl Try.underlying2 rfl rfl rfl rfl ?_
                  refine S.buildK (v := pk u49.b (grant mo m u49.b u49.c u49.d).1.1.1) rfl (by kernel_rfl) rfl ?_
                  refine S.fieldB Try.underlying34 rfl ti2 rfl rfl rfl rfl ?_
                  refine S.loadB (i := 3) hSPA rfl Try.underlying2 rfl rfl rfl rfl ?_
                  refine S.putF (PhB (grant mo m u49.b u49.c u49.d).2) keyed_pk (key_pk (fits_wf (hok _ (List.mem_of_getElem? hu49)).2.1) ((fits_le (hI1.grant (a := u49.b) (b := u49.c) (t := u49.d)) hgo.now).1)) hSPA (i := 7) rfl Try.underlying49 (by omega) rfl rfl rfl (fun k v h _ => phB hgo h) (phBn hgo) rfl ?_
                  intro wPB hSPB; clear hSPA
                  refine WS.done ?_
                  refine WG.region rfl ?_
                  refine S.moveT rfl ?_
                  first
                    | refine S.addN rfl rfl rfl (by omega) ?_
                    | refine S.add rfl rfl rfl ?_
                  refine S.assignT rfl ?_
                  refine WS.done ?_
                  try (rw [hgn.2] at hSPB)
                  exact ⟨rfl, _, (by omega), ⟨i + 1, _, _, _, rfl, (by exact ⟨by omega, by first | exact hI1.grant | exact hI1, by omega, by omega⟩), rfl, ⟨rfl, rfl, rfl, rfl, rfl, trivial⟩, ((((((((hSPB.at_ (i := 7) rfl).at_ (i := 7) rfl).at_ (i := 4) rfl).at_ (i := 4) rfl).at_ (i := 7) rfl).at_ (i := 7) rfl).at_ (i := 7) rfl).at_ (i := 7) rfl).drop.drop.drop.drop⟩⟩
              ·
                skip
                refine S.off rfl ?_
                refine S.off rfl ?_
                refine S.off rfl ?_
                refine S.off rfl ?_
                refine S.pickFC rfl rfl ?_
                refine S.moveT rfl ?_
                refine S.moveT rfl ?_
                refine S.gtr rfl rfl rfl ?_
                refine S.moveT rfl ?_
                refine S.splitD (d := 158) rfl (fun c158 => ?_) (fun c158 => ?_)
                ·
                  skip
                  refine S.moveT rfl ?_
                  refine S.fieldB Try.underlying34 rfl ti2 rfl rfl rfl rfl ?_
                  refine S.loadB (i := 3) hS2004 rfl Try.underlying2 rfl rfl rfl rfl ?_
                  refine S.neq rfl rfl rfl ?_
                  refine S.isFD (d := 162) rfl (by omega) ?_
                  refine S.pickT rfl rfl ?_
                  refine S.pickF rfl rfl ?_
                  refine WS.done ?_
                  refine WG.condF rfl ?_
                  refine WG.skip ?_
                  refine WG.seq ?_
                  refine WG.region rfl ?_
                  refine S.moveT rfl ?_
                  refine S.fieldB Try.underlying32 rfl ti2 rfl rfl rfl rfl ?_
                  refine S.loadB (i := 5) hS2004 rfl Try.underlying2 rfl rfl rfl rfl ?_
                  refine S.fieldB Try.underlying34 rfl ti2 rfl rfl rfl rfl ?_
                  refine S.loadB (i := 3) hS2004 rfl Try.underlying2 rfl rfl rfl rfl ?_
                  refine S.buildK (v := pk u49.b (grant mo m u49.b u49.c u49.d).1.1.2.1) rfl (by kernel_rfl) rfl ?_
                  refine S.fieldB Try.underlying34 rfl ti2 rfl rfl rfl rfl ?_
                  refine S.loadB (i := 3) hS2004 rfl Try.underlying2 rfl rfl rfl rfl ?_
                  refine S.putF (PhA (grant mo m u49.b u49.c u49.d).2) keyed_pk (key_pk (fits_wf (hok _ (List.mem_of_getElem? hu49)).2.1) ((fits_le (hI1.grant (a := u49.b) (b := u49.c) (t := u49.d)) hgo.now).2)) hS2004 (i := 6) rfl Try.underlying49 (by omega) rfl rfl rfl (fun k v h _ => phA hgo h) (phAn hgo) rfl ?_
                  intro wPA hSPA; clear hS2004
                  refine WS.done ?_
                  refine WG.region rfl ?_
                  refine S.moveT rfl ?_
                  refine S.fieldB Try.underlying32 rfl ti2 rfl rfl rfl rfl ?_
                  refine S.loadB (i := 5) hSPA rfl Try.underlying2 rfl rfl rfl rfl ?_
                  refine S.fieldB Try.underlying34 rfl ti2 rfl rfl rfl rfl ?_
                  refine S.loadB (i := 3) hSPA rfl Try.underlying2 rfl rfl rfl rfl ?_
                  refine S.buildK (v := pk u49.b (grant mo m u49.b u49.c u49.d).1.1.1) rfl (by kernel_rfl) rfl ?_
                  refine S.fieldB Try.underlying34 rfl ti2 rfl rfl rfl rfl ?_
                  refine S.loadB (i := 3) hSPA rfl Try.underlying2 rfl rfl rfl rfl ?_
                  refine S.putF (PhB (grant mo m u49.b u49.c u49.d).2) keyed_pk (key_pk (fits_wf (hok _ (List.mem_of_getElem? hu49)).2.1) ((fits_le (hI1.grant (a := u49.b) (b := u49.c) (t := u49.d)) hgo.now).1)) hSPA (i := 7) rfl Try.underlying49 (by omega) rfl rfl rfl (fun k v h _ => phB hgo h) (phBn hgo) rfl ?_
                  intro wPB hSPB; clear hSPA
                  refine WS.done ?_
                  refine WG.region rfl ?_
                  refine S.moveT rfl ?_
                  first
                    | refine S.addN rfl rfl rfl (by omega) ?_
                    | refine S.add rfl rfl rfl ?_
                  refine S.assignT rfl ?_
                  refine WS.done ?_
                  try (rw [hgn.2] at hSPB)
                  exact ⟨rfl, _, (by omega), ⟨i + 1, _, _, _, rfl, (by exact ⟨by omega, by first | exact hI1.grant | exact hI1, by omega, by omega⟩), rfl, ⟨rfl, rfl, rfl, rfl, rfl, trivial⟩, ((((((((hSPB.at_ (i := 7) rfl).at_ (i := 7) rfl).at_ (i := 4) rfl).at_ (i := 4) rfl).at_ (i := 7) rfl).at_ (i := 7) rfl).at_ (i := 7) rfl).at_ (i := 7) rfl).drop.drop.drop.drop⟩⟩
                ·
                  skip
                  refine S.off rfl ?_
                  refine S.off rfl ?_
                  refine S.off rfl ?_
                  refine S.off rfl ?_
                  refine S.pickFC rfl rfl ?_
                  refine S.pickF rfl rfl ?_
                  refine WS.done ?_
                  refine WG.condF rfl ?_
                  refine WG.skip ?_
                  refine WG.seq ?_
                  refine WG.region rfl ?_
                  refine S.moveT rfl ?_
                  refine S.fieldB Try.underlying32 rfl ti2 rfl rfl rfl rfl ?_
                  refine S.loadB (i := 5) hS2004 rfl Try.underlying2 rfl rfl rfl rfl ?_
                  refine S.fieldB Try.underlying34 rfl ti2 rfl rfl rfl rfl ?_
                  refine S.loadB (i := 3) hS2004 rfl Try.underlying2 rfl rfl rfl rfl ?_
                  refine S.buildK (v := pk u49.b (grant mo m u49.b u49.c u49.d).1.1.2.1) rfl (by kernel_rfl) rfl ?_
                  refine S.fieldB Try.underlying34 rfl ti2 rfl rfl rfl rfl ?_
                  refine S.loadB (i := 3) hS2004 rfl Try.underlying2 rfl rfl rfl rfl ?_
                  refine S.putF (PhA (grant mo m u49.b u49.c u49.d).2) keyed_pk (key_pk (fits_wf (hok _ (List.mem_of_getElem? hu49)).2.1) ((fits_le (hI1.grant (a := u49.b) (b := u49.c) (t := u49.d)) hgo.now).2)) hS2004 (i := 6) rfl Try.underlying49 (by omega) rfl rfl rfl (fun k v h _ => phA hgo h) (phAn hgo) rfl ?_
                  intro wPA hSPA; clear hS2004
                  refine WS.done ?_
                  refine WG.region rfl ?_
                  refine S.moveT rfl ?_
                  refine S.fieldB Try.underlying32 rfl ti2 rfl rfl rfl rfl ?_
                  refine S.loadB (i := 5) hSPA rfl Try.underlying2 rfl rfl rfl rfl ?_
                  refine S.fieldB Try.underlying34 rfl ti2 rfl rfl rfl rfl ?_
                  refine S.loadB (i := 3) hSPA rfl Try.underlying2 rfl rfl rfl rfl ?_
                  refine S.buildK (v := pk u49.b (grant mo m u49.b u49.c u49.d).1.1.1) rfl (by kernel_rfl) rfl ?_
                  refine S.fieldB Try.underlying34 rfl ti2 rfl rfl rfl rfl ?_
                  refine S.loadB (i := 3) hSPA rfl Try.underlying2 rfl rfl rfl rfl ?_
                  refine S.putF (PhB (grant mo m u49.b u49.c u49.d).2) keyed_pk (key_pk (fits_wf (hok _ (List.mem_of_getElem? hu49)).2.1) ((fits_le (hI1.grant (a := u49.b) (b := u49.c) (t := u49.d)) hgo.now).1)) hSPA (i := 7) rfl Try.underlying49 (by omega) rfl rfl rfl (fun k v h _ => phB hgo h) (phBn hgo) rfl ?_
                  intro wPB hSPB; clear hSPA
                  refine WS.done ?_
                  refine WG.region rfl ?_
                  refine S.moveT rfl ?_
                  first
                    | refine S.addN rfl rfl rfl (by omega) ?_
                    | refine S.add rfl rfl rfl ?_
                  refine S.assignT rfl ?_
                  refine WS.done ?_
                  try (rw [hgn.2] at hSPB)
                  exact ⟨rfl, _, (by omega), ⟨i + 1, _, _, _, rfl, (by exact ⟨by omega, by first | exact hI1.grant | exact hI1, by omega, by omega⟩), rfl, ⟨rfl, rfl, rfl, rfl, rfl, trivial⟩, ((((((((hSPB.at_ (i := 7) rfl).at_ (i := 7) rfl).at_ (i := 4) rfl).at_ (i := 4) rfl).at_ (i := 7) rfl).at_ (i := 7) rfl).at_ (i := 7) rfl).at_ (i := 7) rfl).drop.drop.drop.drop⟩⟩
      ·
        skip
        refine WG.exit ?_
        refine WG.seq ?_
        refine WG.region rfl ?_
        refine S.alloc hS1001 ti3 rfl rfl ?_
        intro b20 w20 hS20; clear hS1001
        refine S.storeB (i := 0) hS20 rfl ti3 rfl rfl rfl rfl rfl rfl rfl rfl ?_
        intro w2021 hS2021; clear hS20
        refine WS.done ?_
        refine WG.seq ?_
        refine WG.seq ?_
        refine WG.region rfl ?_
        refine S.moveT rfl ?_
        refine S.call ent18 rfl (r_all hS2021 ) rfl ?_
        rintro _ w182 ⟨R182, bp182, hR182, rfl, hro182, hS182⟩
        clear hS2021
        replace h1 := h1.mono hR182
        refine WS.done ?_
        refine WG.block ?_
        refine WG.rangeFuncX (xs := m) (enc := entA) (Lc := [blk b20 (.cells (#[.int .i64 0]) 3 (0, 0))]) (T := _) (fun pre _ Lk => Lk = [blk b20 (.cells (#[.int .i64 (pre.length : Nat)]) 3 (0, 0))]) (fun _ _ => False) (fun r x _ => upd (upd r 183 (.int .i64 x.1)) 184 (entV x.2)) (fun _ _ => []) hS182 rfl (fun args w => run_callFunc ent23 args w) (fun _ => rfl) rfl (all_iter hro182 hI1) (Kn.le.refl _) ((perm_erase _ 2 _ rfl).trans (perm_erase _ 2 _ rfl)) (rfl) ?_ ?_ ?_ ?_
        ·
          intro pre x suf Rk Lk T' W hpx hle hI hSa l K hK
          rw [show entA x = #[.int .i64 x.1, entV x.2] from rfl, setp2]
          refine WG.skip ?_
          exact ⟨rfl, hK 0 _ hSa⟩
        ·
          intro l T' pre x suf Rk Lk b W hpx hle hI hSb
          subst hI
          replace hSb : St W Rk (blk b20 (.cells (#[.int .i64 (pre.length : Nat)]) 3 (0, 0)) :: T') := hSb
          have hpl : pre.length < m.length := by rw [← hpx, List.length_append, List.length_cons]; omega
          have hml := hI1.len
          have hmo := hI1.mo0
          refine WG.block ?_
          refine WG.region rfl ?_
          refine S.loadB (i := 0) hSb rfl Try.underlying3 rfl rfl rfl rfl ?_
          first
            | refine S.addN rfl rfl rfl (by omega) ?_
            | refine S.add rfl rfl rfl ?_
          refine S.storeB (i := 0) hSb rfl ti3 rfl rfl rfl rfl rfl rfl rfl rfl ?_
          intro w2022 hS2022; clear hSb
          refine WS.done ?_
          exact ⟨rfl, Rk, [blk b20 (.cells (#[.int .i64 ((pre ++ [x]).length : Nat)]) 3 (0, 0))], Kn.le.refl _, rfl, by rw [List.length_append, List.length_singleton]; exact hS2022⟩
        ·
          intro D Rk Lk W hle hI hSd
          subst hI
          replace hSd : St W Rk (blk b20 (.cells (#[.int .i64 (m.length : Nat)]) 3 (0, 0)) :: defC D :: _) := hSd
          refine WG.seq ?_
          refine WG.region rfl ?_
          refine S.loadB (i := 0) hSd rfl Try.underlying3 rfl rfl rfl rfl ?_
          refine S.moveT rfl ?_
          refine S.leq rfl rfl rfl ?_
          refine S.isTD (d := 189) rfl (by exact hI1.len) ?_
          refine S.assignT rfl ?_
          refine WS.done ?_
          refine WG.ret (retM (A := []) (hSd.at_ (i := 1) rfl) (fun wz hSz => ?_))
          refine ret1 rfl rfl ?_
          exact ⟨rfl, (hSz.drop.drop.drop.drop.drop).weak (hR182.trans hle)⟩
        ·
          intro D Rk Lk W hle hI _
          exact hI.elim


end Go.Proofs.Ytiffedgmageiaaa.B

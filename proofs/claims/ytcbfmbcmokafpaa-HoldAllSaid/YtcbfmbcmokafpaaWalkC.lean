import Derived.Test.YtcbfmbcmokafpaaWalkB
namespace Go.Proofs.Ytcbfmbcmokafpaa.B
open Go.Proofs Go.RowKit
set_option linter.unusedVariables false
set_option linter.unusedSimpArgs false
structure CallC where
  what : Int
  first : Int
  v : Value
  items : List Int
def encC (c : CallC) : List Value := [.int .i64 c.what, .int .i64 c.first, c.v]
structure RoC (R : Kn) (v : Value) (cs : List CallC) : Prop where
  row : Ro R encC 3 v cs
  each : ∀ c ∈ cs, Ro R (encI .i64) 1 c.v c.items ∧ fits c.what ∧ fits c.first ∧ (∀ x ∈ c.items, fits x) ∧ c.items.length ≤ 140737488355328
theorem RoC.mono {R S : Kn} {v : Value} {cs : List CallC} (h : RoC R v cs) (hs : R.le S) : RoC S v cs := ⟨h.row.mono hs, fun c hc => ⟨(h.each c hc).1.mono hs, (h.each c hc).2⟩⟩
def grt (cs : List CallC) : Bool := decide (60 < cs.length) || cs.any (fun c => decide (100 < c.items.length))
theorem grt_long {cs : List CallC} (h : 60 < cs.length) : grt cs = true := by unfold grt; simp [h]
theorem grt_one {cs : List CallC} {c : CallC} (hc : c ∈ cs) (h : 100 < c.items.length) : grt cs = true := by
  unfold grt; rw [List.any_eq_true.2 ⟨c, hc, by simpa using h⟩, Bool.or_true]
theorem grt_no {cs : List CallC} (h : cs.length ≤ 60) (h2 : ∀ c ∈ cs, c.items.length ≤ 100) : grt cs = false := by
  unfold grt
  rw [Bool.or_eq_false_iff]
  refine ⟨decide_eq_false (by omega), List.any_eq_false.2 (fun c hc => ?_)⟩
  have := h2 c hc
  simp; omega
theorem grt_false {cs : List CallC} (h : grt cs = false) : cs.length ≤ 60 ∧ ∀ c ∈ cs, c.items.length ≤ 100 := by
  unfold grt at h
  rw [Bool.or_eq_false_iff] at h
  refine ⟨by have := of_decide_eq_false h.1; omega, fun c hc => ?_⟩
  have := List.any_eq_false.1 h.2 c hc
  simp at this; omega
theorem take_snoc' {α : Type} {xs : List α} {i : Nat} {u : α} (h : xs[i]? = some u) : xs.take (i + 1) = xs.take i ++ [u] := by rw [List.take_add_one, h]; rfl
set_option maxRecDepth 100000 in
set_option maxHeartbeats 4000000 in
theorem r_offer {w : World} {R : Kn} {L : List HP} {n mo : Int} {m : List (Int × Int)} {bh : Nat} {vr : Value} (hS : St w R (blk bh (.cells (#[.int .i64 n, .int .i64 mo, vr]) 44 (0, 0)) :: L)) {first : Int} (h0 : Ro R gpE 2 vr m) (hI : HI n mo m) (hfi : fits first) {v2 : Value} {xs : List Int} (h2 : Ro R (encI .i64) 1 v2 xs) (hf : ∀ x ∈ xs, fits x) (hm : xs.length ≤ 1000000) :
    Fn Try.prog 13 #[.pointer (some ⟨bh, 0, none⟩), .int .i64 first, v2] w (fun v w' => ∃ a R' vr', v = .tuple #[a, .int .i64 (offer n mo m first xs).2.1] ∧ R.le R' ∧ Ro R' gpE 2 vr' (offer n mo m first xs).2.2.2 ∧ St w' R' (Ow 2 (encI .i64) 1 a (offer n mo m first xs).1 :: blk bh (.cells (#[.int .i64 (offer n mo m first xs).2.2.1, .int .i64 mo, vr']) 44 (0, 0)) :: L)) := by
  obtain ⟨a2, c2, rfl, hl2⟩ := h2.len
  have hfi2 := id hfi
  unfold fits at hfi2
  have hn0 := hI.n0
  have hn1 := hI.n1
  have hmo0 := hI.mo0
  have hmo1 := hI.mo1
  refine Fn.intro (n := 110) Try.func13 rfl rfl rfl ?_
  refine WR.seq ?_
  refine WR.region rfl ?_
  refine S.assignC rfl ?_
  refine S.assignC rfl ?_
  refine WS.done ?_
  refine WR.seq ?_
  refine WR.region rfl ?_
  first
    | refine S.buildRow (vs := []) hS Try.underlying32 ti2 rfl rfl rfl rfl rfl rfl rfl ?_
    | refine S.buildRow hS Try.underlying32 ti2 rfl rfl rfl rfl rfl rfl rfl ?_
  intro b12 w12 hS12; clear hS
  have hSo := hS12.ownRow (enc := encI .i64) (n := 1) [] rfl (fun _ h => by cases h) (by simp)
  refine S.assignT rfl ?_
  refine WS.done ?_
  refine WR.seq ?_
  refine WR.region rfl ?_
  refine S.assignC rfl ?_
  refine WS.done ?_
  refine WR.seq ?_
  refine WR.seq ?_
  refine WR.region rfl ?_
  refine S.moveT rfl ?_
  refine S.lss rfl rfl rfl ?_
  refine S.moveT rfl ?_
  refine S.splitD (d := 15) rfl (fun c15 => ?_) (fun c15 => ?_)
  ·
    skip
    refine S.off rfl ?_
    refine S.off rfl ?_
    refine S.pickTC rfl rfl ?_
    refine WS.done ?_
    refine WR.condT rfl ?_
    refine WR.seq ?_
    refine WR.region rfl ?_
    refine S.moveT rfl ?_
    refine S.moveT rfl ?_
    refine S.lenSl Try.underlying32 rfl rfl ?_
    refine S.assignT rfl ?_
    refine S.assignT rfl ?_
    refine WS.done ?_
    refine WR.ret (ret2 rfl rfl rfl ?_)
    rw [offer_out (.inl c15)]
    exact ⟨_, R, _, rfl, Kn.le.refl _, h0, hSo⟩
  ·
    skip
    refine S.moveT rfl ?_
    refine S.gtr rfl rfl rfl ?_
    refine S.pickF rfl rfl ?_
    refine WS.done ?_
    refine WR.condD rfl (fun c18 => ?_) (fun c18 => ?_)
    ·
      skip
      refine WR.seq ?_
      refine WR.region rfl ?_
      refine S.moveT rfl ?_
      refine S.moveT rfl ?_
      refine S.lenSl Try.underlying32 rfl rfl ?_
      refine S.assignT rfl ?_
      refine S.assignT rfl ?_
      refine WS.done ?_
      refine WR.ret (ret2 rfl rfl rfl ?_)
      rw [offer_out (.inr (by omega))]
      exact ⟨_, R, _, rfl, Kn.le.refl _, h0, hSo⟩
    ·
      skip
      refine WR.skip ?_
      refine WR.seq ?_
      refine WR.seq ?_
      refine WR.region rfl ?_
      refine S.assignC rfl ?_
      refine WS.done ?_
      refine WR.block ?_
      refine WR.loopE (fun rq mm rr wr => ∃ (i : Nat) (Ri : Kn) (vri : Value), mm = xs.length - i ∧ (i ≤ xs.length ∧ R.le Ri ∧ Ro Ri gpE 2 vri (offT n mo m first xs i).1) ∧ rr 9 = .int .i64 (offT n mo m first xs i).2 ∧ rr 10 = .int .i64 (i : Int) ∧ Agr [0, 1, 2, 8] rr rq ∧ St wr Ri (Ow 2 (encI .i64) 1 (.slice (some ⟨b12, 0, none⟩) 0 0) ([] : List Int) :: blk bh (.cells (#[.int .i64 n, .int .i64 mo, vri]) 44 (0, 0)) :: L)) ⟨0, R, _, rfl, (by exact ⟨by omega, Kn.le.refl _, h0⟩), rfl, rfl, ⟨rfl, rfl, rfl, rfl, trivial⟩, hSo⟩ ?_
      rintro mm rr w1001 ⟨i, Ri, vri, hm1001, ⟨hi, hRi, hroi⟩, hr1001_9, hr1001_10, hA1001, hS1001⟩
      obtain ⟨rr, rfl⟩ := agrBack hA1001
      clear hA1001
      obtain ⟨rr, rfl⟩ := back2 (r := rr) hr1001_9 hr1001_10
      clear hr1001_9 hr1001_10
      obtain ⟨ai, ci, rfl, hli⟩ := hroi.len
      have h2 := h2.mono hRi
      refine WR.seq ?_
      refine WR.seq ?_
      refine WR.region rfl ?_
      refine S.moveT rfl ?_
      refine S.moveT rfl ?_
      refine S.lenSl Try.underlying32 rfl rfl ?_
      refine S.lss rfl rfl rfl ?_
      refine WS.done ?_
      refine WR.condD rfl (fun c25 => ?_) (fun c25 => ?_)
      ·
        skip
        refine WR.skip ?_
        refine WR.seq ?_
        refine WR.block ?_
        refine WR.seq ?_
        have hfst : 0 ≤ first ∧ first ≤ 2199023255552 := by omega
        obtain ⟨hI1, hr0, hr1⟩ := hI.offT (first := first) (by omega) hm hf i hi
        have hlen := hI1.len2
        have hus : offT n mo m first xs (i + 1) = offStep n mo (offT n mo m first xs i) (first + i) (xs.getD i 0) := rfl
        refine WR.region rfl ?_
        refine S.moveT rfl ?_
        refine S.moveT rfl ?_
        first
          | refine S.addN rfl rfl rfl (by omega) ?_
          | refine S.add rfl rfl rfl ?_
        refine S.assignT rfl ?_
        refine WS.done ?_
        refine WR.seq ?_
        refine WR.seq ?_
        refine WR.region rfl ?_
        refine S.moveT rfl ?_
        refine S.moveT rfl ?_
        refine S.nilCheck rfl rfl ?_
        refine S.fieldB Try.underlying44 rfl ti2 rfl rfl rfl rfl ?_
        refine S.loadB (i := 1) hS1001 rfl Try.underlying2 rfl rfl rfl rfl ?_
        refine S.lss rfl rfl rfl ?_
        refine S.moveT rfl ?_
        refine S.splitD (d := 37) rfl (fun c37 => ?_) (fun c37 => ?_)
        ·
          skip
          refine S.off rfl ?_
          refine S.off rfl ?_
          refine S.off rfl ?_
          refine S.pickTC rfl rfl ?_
          refine WS.done ?_
          refine WR.condT rfl ?_
          refine WR.exit ?_
          refine WR.region rfl ?_
          refine S.moveT rfl ?_
          first
            | refine S.addN rfl rfl rfl (by omega) ?_
            | refine S.add rfl rfl rfl ?_
          refine S.assignT rfl ?_
          refine WS.done ?_
          exact ⟨_, (by omega), ⟨i + 1, _, _, rfl, (by first | exact ⟨by omega, hRi, by rw [hus, offStep_old (.inl c37)]; exact hroi⟩ | exact ⟨by omega, hRi, by rw [hus, offStep_old (.inr c41)]; exact hroi⟩ | exact ⟨by omega, hRi, by rw [hus, offStep_far (not_or.2 ⟨c37, by simpa using c41⟩) c52]; exact hroi⟩ | exact ⟨by omega, hRi.trans hR62, by rw [hus, offStep_new (not_or.2 ⟨c37, by simpa using c41⟩) c52]; exact hro62⟩), (by rw [hus]; first | (rw [offStep_old (.inl c37)]; rfl) | (rw [offStep_old (.inr c41)]; rfl) | (rw [offStep_far (not_or.2 ⟨c37, by simpa using c41⟩) c52]; rfl) | (rw [offStep_new (not_or.2 ⟨c37, by simpa using c41⟩) c52]; rfl)), rfl, ⟨rfl, rfl, rfl, rfl, trivial⟩, hS1001⟩⟩
        ·
          skip
          refine S.moveT rfl ?_
          refine S.moveT rfl ?_
          refine S.call ent22 rfl (r_has ((hS1001.at_ (i := 0) rfl).at_ (i := 1) rfl) (by exact hroi) (by omega)) rfl ?_
          rintro _ w40 ⟨rfl, hS40⟩
          clear hS1001
          refine S.pickF rfl rfl ?_
          refine WS.done ?_
          refine WR.cond rfl (fun c41 => ?_) (fun c41 => ?_)
          ·
            skip
            refine WR.exit ?_
            refine WR.region rfl ?_
            refine S.moveT rfl ?_
            first
              | refine S.addN rfl rfl rfl (by omega) ?_
              | refine S.add rfl rfl rfl ?_
            refine S.assignT rfl ?_
            refine WS.done ?_
            exact ⟨_, (by omega), ⟨i + 1, _, _, rfl, (by first | exact ⟨by omega, hRi, by rw [hus, offStep_old (.inl c37)]; exact hroi⟩ | exact ⟨by omega, hRi, by rw [hus, offStep_old (.inr c41)]; exact hroi⟩ | exact ⟨by omega, hRi, by rw [hus, offStep_far (not_or.2 ⟨c37, by simpa using c41⟩) c52]; exact hroi⟩ | exact ⟨by omega, hRi.trans hR62, by rw [hus, offStep_new (not_or.2 ⟨c37, by simpa using c41⟩) c52]; exact hro62⟩), (by rw [hus]; first | (rw [offStep_old (.inl c37)]; rfl) | (rw [offStep_old (.inr c41)]; rfl) | (rw [offStep_far (not_or.2 ⟨c37, by simpa using c41⟩) c52]; rfl) | (rw [offStep_new (not_or.2 ⟨c37, by simpa using c41⟩) c52]; rfl)), rfl, ⟨rfl, rfl, rfl, rfl, trivial⟩, ((hS40.at_ (i := 0) rfl).at_ (i := 1) rfl)⟩⟩
          ·
            skip
            refine WR.skip ?_
            refine WR.seq ?_
            refine WR.seq ?_
            refine WR.regionQ mixed hS40 (by kernel_rfl) rfl ?_
            refine Q.moveT rfl ?_
            refine Q.moveT rfl ?_
            refine Q.nilCheck rfl rfl ?_
            refine Q.fieldB Try.underlying44 rfl ti2 rfl rfl rfl rfl ?_
            refine Q.loadB (i := 0) rfl Try.underlying2 rfl rfl rfl rfl ?_
            refine Q.moveT rfl ?_
            refine Q.nilCheck rfl rfl ?_
            refine Q.fieldB Try.underlying44 rfl ti3 rfl rfl rfl rfl ?_
            refine Q.loadB (i := 0) rfl Try.underlying3 rfl rfl rfl rfl ?_
            first
              | refine Q.addN rfl rfl rfl (by omega) ?_
              | refine Q.add rfl rfl rfl ?_
            refine Q.geq rfl rfl rfl ?_
            refine WQ.done ?_
            intro w5001 hS5001
            clear hS40
            refine WR.condD rfl (fun c52 => ?_) (fun c52 => ?_)
            ·
              skip
              refine WR.seq ?_
              refine WR.region rfl ?_
              refine S.moveT rfl ?_
              first
                | refine S.addN rfl rfl rfl (by omega) ?_
                | refine S.add rfl rfl rfl ?_
              refine S.assignT rfl ?_
              refine WS.done ?_
              refine WR.exit ?_
              refine WR.region rfl ?_
              refine S.moveT rfl ?_
              first
                | refine S.addN rfl rfl rfl (by omega) ?_
                | refine S.add rfl rfl rfl ?_
              refine S.assignT rfl ?_
              refine WS.done ?_
              exact ⟨_, (by omega), ⟨i + 1, _, _, rfl, (by first | exact ⟨by omega, hRi, by rw [hus, offStep_old (.inl c37)]; exact hroi⟩ | exact ⟨by omega, hRi, by rw [hus, offStep_old (.inr c41)]; exact hroi⟩ | exact ⟨by omega, hRi, by rw [hus, offStep_far (not_or.2 ⟨c37, by simpa using c41⟩) c52]; exact hroi⟩ | exact ⟨by omega, hRi.trans hR62, by rw [hus, offStep_new (not_or.2 ⟨c37, by simpa using c41⟩) c52]; exact hro62⟩), (by rw [hus]; first | (rw [offStep_old (.inl c37)]; rfl) | (rw [offStep_old (.inr c41)]; rfl) | (rw [offStep_far (not_or.2 ⟨c37, by simpa using c41⟩) c52]; rfl) | (rw [offStep_new (not_or.2 ⟨c37, by simpa using c41⟩) c52]; rfl)), rfl, ⟨rfl, rfl, rfl, rfl, trivial⟩, ((hS5001.at_ (i := 0) rfl).at_ (i := 1) rfl)⟩⟩
            ·
              skip
              refine WR.skip ?_
              refine WR.region rfl ?_
              refine S.moveT rfl ?_
              refine S.moveT rfl ?_
              refine S.moveT rfl ?_
              refine S.moveT rfl ?_
              refine S.indexRo h2 Try.underlying32 ti2 rfl rfl (by omega) rfl ?_
              intro ad59 u59 hu59 hl59 hc59
              refine S.loadRo hS5001 hc59 rfl Try.underlying2 rfl rfl rfl ?_
              have hxd : u59 = xs.getD i 0 := (getD_of (getI hu59)).symm
              rw [← hxd] at hus
              refine S.buildStruct [.int _ _, .int _ _] [(0, 1), (1, 1)] Try.underlying56 ti56 rfl (by kernel_rfl) rfl rfl rfl rfl rfl rfl ?_
              refine S.call ent23 rfl (r_put hS5001 (by exact hroi) (by omega) (by exact hI1.rise) (by cases hgg : aget (offT n mo m first xs i).1 (first + i) with
                | none => rfl
                | some u => rw [hgg] at c41; cases c41)) rfl ?_
              rintro _ w62 ⟨R62, vr62, hR62, hro62, hS62⟩
              clear hS5001
              replace hroi := hroi.mono hR62
              replace h2 := h2.mono hR62
              refine WS.done ?_
              refine WR.region rfl ?_
              refine S.moveT rfl ?_
              first
                | refine S.addN rfl rfl rfl (by omega) ?_
                | refine S.add rfl rfl rfl ?_
              refine S.assignT rfl ?_
              refine WS.done ?_
              exact ⟨_, (by omega), ⟨i + 1, _, _, rfl, (by first | exact ⟨by omega, hRi, by rw [hus, offStep_old (.inl c37)]; exact hroi⟩ | exact ⟨by omega, hRi, by rw [hus, offStep_old (.inr c41)]; exact hroi⟩ | exact ⟨by omega, hRi, by rw [hus, offStep_far (not_or.2 ⟨c37, by simpa using c41⟩) c52]; exact hroi⟩ | exact ⟨by omega, hRi.trans hR62, by rw [hus, offStep_new (not_or.2 ⟨c37, by simpa using c41⟩) c52]; exact hro62⟩), (by rw [hus]; first | (rw [offStep_old (.inl c37)]; rfl) | (rw [offStep_old (.inr c41)]; rfl) | (rw [offStep_far (not_or.2 ⟨c37, by simpa using c41⟩) c52]; rfl) | (rw [offStep_new (not_or.2 ⟨c37, by simpa using c41⟩) c52]; rfl)), rfl, ⟨rfl, rfl, rfl, rfl, trivial⟩, ((hS62.at_ (i := 0) rfl).at_ (i := 1) rfl)⟩⟩
      ·
        skip
        refine WR.exit ?_
        refine WR.seq ?_
        refine WR.block ?_
        refine WR.loopE (fun rq mm rr wr => ∃ (out : List Int) (n1 : Int) (m1 : List (Int × Int)) (v8 vr1 : Value), mm = m1.length ∧ (HI n1 mo m1 ∧ (rel n (offT n mo m first xs xs.length).1).1 = out ++ (rel n1 m1).1 ∧ (rel n (offT n mo m first xs xs.length).1).2 = (rel n1 m1).2 ∧ out.length + m1.length ≤ 256 ∧ Ro Ri gpE 2 vr1 m1) ∧ rr 8 = v8 ∧ Agr [0, 9] rr rq ∧ St wr Ri (Ow 2 (encI .i64) 1 v8 out :: blk bh (.cells (#[.int .i64 n1, .int .i64 mo, vr1]) 44 (0, 0)) :: L)) ⟨[], n, (offT n mo m first xs xs.length).1, _, _, rfl, (by have hix : i = xs.length := (by omega); subst hix; have hIx := (hI.offT (first := first) (by omega) hm hf xs.length (Nat.le_refl _)).1; exact ⟨hIx, rfl, rfl, by have := hIx.len2; simpa using this, hroi⟩), rfl, ⟨rfl, rfl, trivial⟩, (by have hix : i = xs.length := (by omega); subst hix; exact hS1001)⟩ ?_
        rintro mm rr w1002 ⟨out, n1, m1, v8, vr1, hm1002, ⟨hI1, hr1, hr2, hol, hroj⟩, hr1002_8, hA1002, hS1002⟩
        obtain ⟨rr, rfl⟩ := agrBack hA1002
        clear hA1002
        obtain ⟨rr, rfl⟩ := back1 (r := rr) hr1002_8
        clear hr1002_8
        obtain rfl : i = xs.length := by omega
        obtain ⟨ai1, ci1, rfl, hli1⟩ := hroj.len
        have hn0' := hI1.n0
        have hn1' := hI1.n1
        have hlen1 := hI1.len2
        refine WR.seq ?_
        refine WR.seq ?_
        refine WR.regionQ mixed hS1002 (by kernel_rfl) rfl ?_
        refine Q.moveT rfl ?_
        refine Q.nilCheck rfl rfl ?_
        refine Q.fieldB Try.underlying44 rfl ti42 rfl rfl rfl rfl ?_
        refine Q.loadB (i := 1) rfl Try.underlying42 rfl rfl rfl rfl ?_
        refine Q.lenSl Try.underlying42 rfl rfl ?_
        refine Q.gtr rfl rfl rfl ?_
        refine Q.moveT rfl ?_
        refine Q.splitD (d := 69) rfl (fun c69 => ?_) (fun c69 => ?_)
        ·
          skip
          refine Q.moveT rfl ?_
          refine Q.nilCheck rfl rfl ?_
          refine Q.fieldB Try.underlying44 rfl ti42 rfl rfl rfl rfl ?_
          refine Q.loadB (i := 1) rfl Try.underlying42 rfl rfl rfl rfl ?_
          refine Q.indexRo hroj Try.underlying42 ti56 rfl rfl (by omega) rfl ?_
          intro ad74 u74 hu74 hl74 hc74
          refine Q.fieldElt Try.underlying56 rfl ti2 rfl rfl rfl ?_
          refine Q.loadRoF hc74 rfl Try.underlying2 rfl rfl rfl ?_
          refine Q.moveT rfl ?_
          refine Q.nilCheck rfl rfl ?_
          refine Q.fieldB Try.underlying44 rfl ti2 rfl rfl rfl rfl ?_
          refine Q.loadB (i := 1) rfl Try.underlying2 rfl rfl rfl rfl ?_
          refine Q.eql rfl rfl rfl ?_
          refine Q.pickT rfl rfl ?_
          refine WQ.done ?_
          intro w5002 hS5002
          clear hS1002
          refine WR.condD rfl (fun c82 => ?_) (fun c82 => ?_)
          ·
            skip
            refine WR.skip ?_
            refine WR.block ?_
            refine WR.seq ?_
            obtain ⟨p1, r1, hm1⟩ : ∃ p1 r1, m1 = p1 :: r1 := by
              cases m1 with
              | nil => simp at c69
              | cons p r => exact ⟨p, r, rfl⟩
            have hp1 : u74 = p1 := by
              have h9 := getI (i := 0) hu74
              rw [hm1] at h9
              exact (Option.some.inj h9).symm
            subst hp1
            have hm2 : m1 = (n1, u74.2) :: r1 := by rw [hm1, ← c82]
            have hI2 : HI (n1 + 1) mo r1 := by rw [hm2] at hI1; exact hI1.tail
            have hrel : rel n1 m1 = (u74.2 :: (rel (n1 + 1) r1).1, (rel (n1 + 1) r1).2) := by rw [hm2, rel_hit]
            have hdr : m1.drop 1 = r1 := by rw [hm1]; rfl
            have hlr : m1.length = r1.length + 1 := by rw [hm1]; rfl
            refine WR.region rfl ?_
            refine S.moveT rfl ?_
            refine S.moveT rfl ?_
            refine S.nilCheck rfl rfl ?_
            refine S.fieldB Try.underlying44 rfl ti42 rfl rfl rfl rfl ?_
            refine S.loadB (i := 1) hS5002 rfl Try.underlying42 rfl rfl rfl rfl ?_
            refine S.indexRo hroj Try.underlying42 ti56 rfl rfl (by omega) rfl ?_
            intro ad88 u88 hu88 hl88 hc88
            refine S.fieldElt Try.underlying56 rfl ti2 rfl rfl rfl ?_
            refine S.loadRoF hS5002 hc88 rfl Try.underlying2 rfl rfl rfl ?_
            first
              | refine S.buildRow (vs := [.int _ _]) hS5002 Try.underlying32 ti2 rfl rfl rfl rfl rfl rfl rfl ?_
              | refine S.buildRow hS5002 Try.underlying32 ti2 rfl rfl rfl rfl rfl rfl rfl ?_
            intro b91 w91 hS91; clear hS5002
            refine S.appendTmp (i := 0) [u88.2] hS91 rfl rfl (fun _ _ => rfl) Try.underlying32 ti2 rfl rfl rfl rfl encI_one (by simp; omega) rfl ?_
            intro v92 w92 hS92; clear hS91
            refine S.assignT rfl ?_
            refine WS.done ?_
            refine WR.seq ?_
            refine WR.region rfl ?_
            refine S.moveT rfl ?_
            refine S.moveT rfl ?_
            refine S.nilCheck rfl rfl ?_
            refine S.fieldB Try.underlying44 rfl ti42 rfl rfl rfl rfl ?_
            refine S.loadB (i := 1) hS92 rfl Try.underlying42 rfl rfl rfl rfl ?_
            refine S.sliceLo (1) hroj Try.underlying42 ti56 rfl rfl (by omega) (by omega) rfl ?_
            intro a98 cc98 hro98
            refine S.nilCheck rfl rfl ?_
            refine S.fieldB Try.underlying44 rfl ti42 rfl rfl rfl rfl ?_
            refine S.storeB (i := 1) hS92 rfl ti42 rfl rfl rfl rfl rfl rfl rfl rfl ?_
            intro w2003 hS2003; clear hS92
            refine WS.done ?_
            refine WR.region rfl ?_
            refine S.moveT rfl ?_
            refine S.nilCheck rfl rfl ?_
            refine S.fieldB Try.underlying44 rfl ti2 rfl rfl rfl rfl ?_
            refine S.loadB (i := 1) hS2003 rfl Try.underlying2 rfl rfl rfl rfl ?_
            first
              | refine S.addN rfl rfl rfl (by omega) ?_
              | refine S.add rfl rfl rfl ?_
            refine S.nilCheck rfl rfl ?_
            refine S.fieldB Try.underlying44 rfl ti2 rfl rfl rfl rfl ?_
            refine S.storeB (i := 1) hS2003 rfl ti2 rfl rfl rfl rfl rfl rfl rfl rfl ?_
            intro w2004 hS2004; clear hS2003
            refine WS.done ?_
            exact ⟨_, (by rw [List.length_drop]; omega), ⟨_, n1 + 1, m1.drop 1, v92, _, rfl, (by have hu9 : u88 = u74 := Option.some.inj (hu88.symm.trans hu74); subst hu9; exact ⟨by rw [hdr]; exact hI2, by rw [hr1, hrel, hdr, List.append_assoc]; rfl, by rw [hr2, hrel, hdr], by rw [List.length_append, List.length_singleton, hdr]; omega, hro98⟩), rfl, ⟨rfl, rfl, trivial⟩, hS2004⟩⟩
          ·
            skip
            refine WR.exit ?_
            refine WR.seq ?_
            refine WR.region rfl ?_
            refine S.moveT rfl ?_
            refine S.moveT rfl ?_
            refine S.assignT rfl ?_
            refine S.assignT rfl ?_
            refine WS.done ?_
            refine WR.ret (ret2 rfl rfl rfl ?_)
            rw [offer_in (by omega)]
            have hrm : rel n1 m1 = ([], n1, m1) := by
              refine rel_miss (fun p r e => ?_)
              subst e
              first | exact fun h9 => c82 (by have := getI (i := 0) hu74; simp at this; subst this; exact h9) | (exfalso; simp at c69)
            rw [hrm] at hr1 hr2
            rw [hr1, hr2, List.append_nil]
            exact ⟨_, Ri, _, rfl, hRi, hroj, hS5002⟩
        ·
          skip
          refine Q.off rfl ?_
          refine Q.off rfl ?_
          refine Q.off rfl ?_
          refine Q.off rfl ?_
          refine Q.off rfl ?_
          refine Q.off rfl ?_
          refine Q.off rfl ?_
          refine Q.off rfl ?_
          refine Q.off rfl ?_
          refine Q.off rfl ?_
          refine Q.off rfl ?_
          refine Q.off rfl ?_
          refine Q.pickFC rfl rfl ?_
          refine WQ.done ?_
          intro w5005 hS5005
          clear hS1002
          refine WR.condF rfl ?_
          refine WR.exit ?_
          refine WR.seq ?_
          refine WR.region rfl ?_
          refine S.moveT rfl ?_
          refine S.moveT rfl ?_
          refine S.assignT rfl ?_
          refine S.assignT rfl ?_
          refine WS.done ?_
          refine WR.ret (ret2 rfl rfl rfl ?_)
          rw [offer_in (by omega)]
          have hrm : rel n1 m1 = ([], n1, m1) := by
            refine rel_miss (fun p r e => ?_)
            subst e
            first | exact fun h9 => c82 (by have := getI (i := 0) hu74; simp at this; subst this; exact h9) | (exfalso; simp at c69)
          rw [hrm] at hr1 hr2
          rw [hr1, hr2, List.append_nil]
          exact ⟨_, Ri, _, rfl, hRi, hroj, hS5005⟩

set_option maxRecDepth 100000 in
set_option maxHeartbeats 4000000 in
theorem r_waiting {w : World} {R : Kn} {L : List HP} {n mo : Int} {m : List (Int × Int)} {bh : Nat} {vr : Value} (hS : St w R (blk bh (.cells (#[.int .i64 n, .int .i64 mo, vr]) 44 (0, 0)) :: L)) (h0 : Ro R gpE 2 vr m) (hl : m.length ≤ 1000000) :
    Fn Try.prog 19 #[.pointer (some ⟨bh, 0, none⟩)] w (fun v w' => St w' R (Ow 2 (encI .i64) 1 v (m.map (·.1)) :: blk bh (.cells (#[.int .i64 n, .int .i64 mo, vr]) 44 (0, 0)) :: L)) := by
  obtain ⟨a0, c0, rfl, hl0⟩ := h0.len
  refine Fn.intro (n := 27) Try.func19 rfl rfl rfl ?_
  refine WR.seq ?_
  refine WR.region rfl ?_
  refine S.assignC rfl ?_
  refine WS.done ?_
  refine WR.seq ?_
  refine WR.region rfl ?_
  first
    | refine S.buildRow (vs := []) hS Try.underlying32 ti2 rfl rfl rfl rfl rfl rfl rfl ?_
    | refine S.buildRow hS Try.underlying32 ti2 rfl rfl rfl rfl rfl rfl rfl ?_
  intro b5 w5 hS5; clear hS
  have hSo := hS5.ownRow (enc := encI .i64) (n := 1) [] rfl (fun _ h => by cases h) (by simp)
  refine S.assignT rfl ?_
  refine WS.done ?_
  refine WR.seq ?_
  refine WR.seq ?_
  refine WR.region rfl ?_
  refine S.assignC rfl ?_
  refine WS.done ?_
  refine WR.block ?_
  refine WR.loopE (fun rq mm rr wr => ∃ (i : Nat) (v3 : Value), mm = m.length - i ∧ (i ≤ m.length) ∧ rr 3 = v3 ∧ rr 4 = .int .i64 (i : Int) ∧ Agr [0] rr rq ∧ St wr R (Ow 2 (encI .i64) 1 v3 ((m.take i).map (·.1)) :: blk bh (.cells (#[.int .i64 n, .int .i64 mo, .slice a0 m.length c0]) 44 (0, 0)) :: L)) ⟨0, _, rfl, (by omega), rfl, rfl, ⟨rfl, trivial⟩, hSo⟩ ?_
  rintro mm rr w1001 ⟨i, v3, hm1001, hi, hr1001_3, hr1001_4, hA1001, hS1001⟩
  obtain ⟨rr, rfl⟩ := agrBack hA1001
  clear hA1001
  obtain ⟨rr, rfl⟩ := back2 (r := rr) hr1001_3 hr1001_4
  clear hr1001_3 hr1001_4
  refine WR.seq ?_
  refine WR.seq ?_
  refine WR.region rfl ?_
  refine S.moveT rfl ?_
  refine S.moveT rfl ?_
  refine S.nilCheck rfl rfl ?_
  refine S.fieldB Try.underlying44 rfl ti42 rfl rfl rfl rfl ?_
  refine S.loadB (i := 1) hS1001 rfl Try.underlying42 rfl rfl rfl rfl ?_
  refine S.lenSl Try.underlying42 rfl rfl ?_
  refine S.lss rfl rfl rfl ?_
  refine WS.done ?_
  refine WR.condD rfl (fun c12 => ?_) (fun c12 => ?_)
  ·
    skip
    refine WR.skip ?_
    refine WR.seq ?_
    refine WR.block ?_
    refine WR.region rfl ?_
    refine S.moveT rfl ?_
    refine S.moveT rfl ?_
    refine S.nilCheck rfl rfl ?_
    refine S.fieldB Try.underlying44 rfl ti42 rfl rfl rfl rfl ?_
    refine S.loadB (i := 1) hS1001 rfl Try.underlying42 rfl rfl rfl rfl ?_
    refine S.moveT rfl ?_
    refine S.indexRo h0 Try.underlying42 ti56 rfl rfl (by omega) rfl ?_
    intro ad21 u21 hu21 hl21 hc21
    refine S.fieldElt Try.underlying56 rfl ti2 rfl rfl rfl ?_
    refine S.loadRoF hS1001 hc21 rfl Try.underlying2 rfl rfl rfl ?_
    first
      | refine S.buildRow (vs := [.int _ _]) hS1001 Try.underlying32 ti2 rfl rfl rfl rfl rfl rfl rfl ?_
      | refine S.buildRow hS1001 Try.underlying32 ti2 rfl rfl rfl rfl rfl rfl rfl ?_
    intro b24 w24 hS24; clear hS1001
    refine S.appendTmp (i := 0) [u21.1] hS24 rfl rfl (fun _ _ => rfl) Try.underlying32 ti2 rfl rfl rfl rfl encI_one (by rw [List.length_map, List.length_take, List.length_singleton]; omega) rfl ?_
    intro v25 w25 hS25; clear hS24
    refine S.assignT rfl ?_
    refine WS.done ?_
    refine WR.region rfl ?_
    refine S.moveT rfl ?_
    first
      | refine S.addN rfl rfl rfl (by omega) ?_
      | refine S.add rfl rfl rfl ?_
    refine S.assignT rfl ?_
    refine WS.done ?_
    exact ⟨_, (by omega), ⟨i + 1, v25, rfl, (by omega), rfl, rfl, ⟨rfl, trivial⟩, (by rw [List.take_add_one, getI hu21, List.map_append]; exact hS25)⟩⟩
  ·
    skip
    refine WR.exit ?_
    refine WR.seq ?_
    refine WR.region rfl ?_
    refine S.moveT rfl ?_
    refine S.assignT rfl ?_
    refine WS.done ?_
    refine WR.ret (ret1 rfl rfl ?_)
    rw [List.take_of_length_le (by omega)] at hS1001
    exact hS1001

set_option maxRecDepth 100000 in
set_option maxHeartbeats 4000000 in
theorem r_drain {w : World} {R : Kn} {L : List HP} {n mo : Int} {m : List (Int × Int)} {bh : Nat} {vr : Value} (hS : St w R (blk bh (.cells (#[.int .i64 n, .int .i64 mo, vr]) 44 (0, 0)) :: L)) (h0 : Ro R gpE 2 vr m) (hl : m.length ≤ 1000000) :
    Fn Try.prog 16 #[.pointer (some ⟨bh, 0, none⟩)] w (fun v w' => St w' R (Ow 2 (encI .i64) 1 v (m.map (·.2)) :: blk bh (.cells (#[.int .i64 n, .int .i64 mo, .slice none 0 0]) 44 (0, 0)) :: L)) := by
  obtain ⟨a0, c0, rfl, hl0⟩ := h0.len
  refine Fn.intro (n := 30) Try.func16 rfl rfl rfl ?_
  refine WR.seq ?_
  refine WR.region rfl ?_
  refine S.assignC rfl ?_
  refine WS.done ?_
  refine WR.seq ?_
  refine WR.region rfl ?_
  first
    | refine S.buildRow (vs := []) hS Try.underlying32 ti2 rfl rfl rfl rfl rfl rfl rfl ?_
    | refine S.buildRow hS Try.underlying32 ti2 rfl rfl rfl rfl rfl rfl rfl ?_
  intro b5 w5 hS5; clear hS
  have hSo := hS5.ownRow (enc := encI .i64) (n := 1) [] rfl (fun _ h => by cases h) (by simp)
  refine S.assignT rfl ?_
  refine WS.done ?_
  refine WR.seq ?_
  refine WR.seq ?_
  refine WR.region rfl ?_
  refine S.assignC rfl ?_
  refine WS.done ?_
  refine WR.block ?_
  refine WR.loopE (fun rq mm rr wr => ∃ (i : Nat) (v3 : Value), mm = m.length - i ∧ (i ≤ m.length) ∧ rr 3 = v3 ∧ rr 4 = .int .i64 (i : Int) ∧ Agr [0] rr rq ∧ St wr R (Ow 2 (encI .i64) 1 v3 ((m.take i).map (·.2)) :: blk bh (.cells (#[.int .i64 n, .int .i64 mo, .slice a0 m.length c0]) 44 (0, 0)) :: L)) ⟨0, _, rfl, (by omega), rfl, rfl, ⟨rfl, trivial⟩, hSo⟩ ?_
  rintro mm rr w1001 ⟨i, v3, hm1001, hi, hr1001_3, hr1001_4, hA1001, hS1001⟩
  obtain ⟨rr, rfl⟩ := agrBack hA1001
  clear hA1001
  obtain ⟨rr, rfl⟩ := back2 (r := rr) hr1001_3 hr1001_4
  clear hr1001_3 hr1001_4
  refine WR.seq ?_
  refine WR.seq ?_
  refine WR.region rfl ?_
  refine S.moveT rfl ?_
  refine S.moveT rfl ?_
  refine S.nilCheck rfl rfl ?_
  refine S.fieldB Try.underlying44 rfl ti42 rfl rfl rfl rfl ?_
  refine S.loadB (i := 1) hS1001 rfl Try.underlying42 rfl rfl rfl rfl ?_
  refine S.lenSl Try.underlying42 rfl rfl ?_
  refine S.lss rfl rfl rfl ?_
  refine WS.done ?_
  refine WR.condD rfl (fun c12 => ?_) (fun c12 => ?_)
  ·
    skip
    refine WR.skip ?_
    refine WR.seq ?_
    refine WR.block ?_
    refine WR.region rfl ?_
    refine S.moveT rfl ?_
    refine S.moveT rfl ?_
    refine S.nilCheck rfl rfl ?_
    refine S.fieldB Try.underlying44 rfl ti42 rfl rfl rfl rfl ?_
    refine S.loadB (i := 1) hS1001 rfl Try.underlying42 rfl rfl rfl rfl ?_
    refine S.moveT rfl ?_
    refine S.indexRo h0 Try.underlying42 ti56 rfl rfl (by omega) rfl ?_
    intro ad21 u21 hu21 hl21 hc21
    refine S.fieldElt Try.underlying56 rfl ti2 rfl rfl rfl ?_
    refine S.loadRoF hS1001 hc21 rfl Try.underlying2 rfl rfl rfl ?_
    first
      | refine S.buildRow (vs := [.int _ _]) hS1001 Try.underlying32 ti2 rfl rfl rfl rfl rfl rfl rfl ?_
      | refine S.buildRow hS1001 Try.underlying32 ti2 rfl rfl rfl rfl rfl rfl rfl ?_
    intro b24 w24 hS24; clear hS1001
    refine S.appendTmp (i := 0) [u21.2] hS24 rfl rfl (fun _ _ => rfl) Try.underlying32 ti2 rfl rfl rfl rfl encI_one (by rw [List.length_map, List.length_take, List.length_singleton]; omega) rfl ?_
    intro v25 w25 hS25; clear hS24
    refine S.assignT rfl ?_
    refine WS.done ?_
    refine WR.region rfl ?_
    refine S.moveT rfl ?_
    first
      | refine S.addN rfl rfl rfl (by omega) ?_
      | refine S.add rfl rfl rfl ?_
    refine S.assignT rfl ?_
    refine WS.done ?_
    exact ⟨_, (by omega), ⟨i + 1, v25, rfl, (by omega), rfl, rfl, ⟨rfl, trivial⟩, (by rw [List.take_add_one, getI hu21, List.map_append]; exact hS25)⟩⟩
  ·
    skip
    refine WR.exit ?_
    refine WR.seq ?_
    refine WR.region rfl ?_
    refine S.moveT rfl ?_
    refine S.nilCheck rfl rfl ?_
    refine S.fieldB Try.underlying44 rfl ti42 rfl rfl rfl rfl ?_
    refine S.storeB (i := 1) hS1001 rfl ti42 rfl rfl rfl rfl rfl rfl rfl rfl ?_
    intro w2001 hS2001; clear hS1001
    refine WS.done ?_
    refine WR.seq ?_
    refine WR.region rfl ?_
    refine S.moveT rfl ?_
    refine S.assignT rfl ?_
    refine WS.done ?_
    refine WR.ret (ret1 rfl rfl ?_)
    rw [List.take_of_length_le (by omega)] at hS2001
    exact hS2001

set_option maxRecDepth 100000 in
set_option maxHeartbeats 4000000 in
theorem u_same {w : World} {R : Kn} {L : List HP}  (hS : St w R (L)) {v0 v1 : Value} {xs ys : List Int} (h0 : Ro R (encI .i64) 1 v0 xs) (h1 : Ro R (encI .i64) 1 v1 ys) (hm : xs.length ≤ 140737488355328) :
    Fn Try.prog 14 #[v0, v1] w (fun v w' => v = .bool (decide (xs = ys)) ∧ St w' R L) := by
  obtain ⟨a0, c0, rfl, hl0⟩ := h0.len
  obtain ⟨a1, c1, rfl, hl1⟩ := h1.len
  refine Fn.intro (n := 26) Try.func14 rfl rfl rfl ?_
  refine WR.seq ?_
  refine WR.region rfl ?_
  refine S.assignC rfl ?_
  refine WS.done ?_
  refine WR.seq ?_
  refine WR.seq ?_
  refine WR.region rfl ?_
  refine S.moveT rfl ?_
  refine S.lenSl Try.underlying32 rfl rfl ?_
  refine S.moveT rfl ?_
  refine S.lenSl Try.underlying32 rfl rfl ?_
  refine S.neq rfl rfl rfl ?_
  refine WS.done ?_
  refine WR.condD rfl (fun c10 => ?_) (fun c10 => ?_)
  ·
    skip
    refine WR.seq ?_
    refine WR.region rfl ?_
    refine S.assignC rfl ?_
    refine WS.done ?_
    refine WR.ret (ret1 rfl rfl ?_)
    exact ⟨congrArg Value.bool (decide_eq_false (fun e => by subst e; omega)).symm, hS⟩
  ·
    skip
    refine WR.skip ?_
    refine WR.seq ?_
    refine WR.seq ?_
    refine WR.region rfl ?_
    refine S.assignC rfl ?_
    refine WS.done ?_
    refine WR.block ?_
    refine WR.loopE (fun rq mm rr wr => ∃ (i : Nat), mm = xs.length - i ∧ (i ≤ xs.length ∧ xs.take i = ys.take i) ∧ rr 5 = .int .i64 (i : Int) ∧ Agr [0, 1] rr rq ∧ St wr R L) ⟨0, rfl, (by exact ⟨by omega, rfl⟩), rfl, ⟨rfl, rfl, trivial⟩, hS⟩ ?_
    rintro mm rr w1001 ⟨i, hm1001, ⟨hi, he⟩, hr1001_5, hA1001, hS1001⟩
    obtain ⟨rr, rfl⟩ := agrBack hA1001
    clear hA1001
    obtain ⟨rr, rfl⟩ := back1 (r := rr) hr1001_5
    clear hr1001_5
    refine WR.seq ?_
    refine WR.seq ?_
    refine WR.region rfl ?_
    refine S.moveT rfl ?_
    refine S.moveT rfl ?_
    refine S.lenSl Try.underlying32 rfl rfl ?_
    refine S.lss rfl rfl rfl ?_
    refine WS.done ?_
    refine WR.condD rfl (fun c14 => ?_) (fun c14 => ?_)
    ·
      skip
      refine WR.skip ?_
      refine WR.seq ?_
      refine WR.block ?_
      refine WR.seq ?_
      refine WR.regionQ mixed hS1001 (by kernel_rfl) rfl ?_
      refine Q.moveT rfl ?_
      refine Q.moveT rfl ?_
      refine Q.indexRo h0 Try.underlying32 ti2 rfl rfl (by omega) rfl ?_
      intro ad19 u19 hu19 hl19 hc19
      refine Q.loadRo hc19 rfl Try.underlying2 rfl rfl rfl ?_
      refine Q.moveT rfl ?_
      refine Q.moveT rfl ?_
      refine Q.indexRo h1 Try.underlying32 ti2 rfl rfl (by omega) rfl ?_
      intro ad23 u23 hu23 hl23 hc23
      refine Q.loadRo hc23 rfl Try.underlying2 rfl rfl rfl ?_
      refine Q.neq rfl rfl rfl ?_
      refine WQ.done ?_
      intro w5001 hS5001
      clear hS1001
      refine WR.condD rfl (fun c25 => ?_) (fun c25 => ?_)
      ·
        skip
        refine WR.seq ?_
        refine WR.region rfl ?_
        refine S.assignC rfl ?_
        refine WS.done ?_
        refine WR.ret (ret1 rfl rfl ?_)
        exact ⟨congrArg Value.bool (decide_eq_false (fun e => by subst e; have := hu19.symm.trans hu23; injection this with this; omega)).symm, hS5001⟩
      ·
        skip
        refine WR.skip ?_
        refine WR.region rfl ?_
        refine S.moveT rfl ?_
        first
          | refine S.addN rfl rfl rfl (by omega) ?_
          | refine S.add rfl rfl rfl ?_
        refine S.assignT rfl ?_
        refine WS.done ?_
        exact ⟨_, (by omega), ⟨i + 1, rfl, (by exact ⟨by omega, by rw [take_snoc' (getI hu19), take_snoc' (getI hu23), he, show u19 = u23 by omega]⟩), rfl, ⟨rfl, rfl, trivial⟩, hS5001⟩⟩
    ·
      skip
      refine WR.exit ?_
      refine WR.seq ?_
      refine WR.region rfl ?_
      refine S.assignC rfl ?_
      refine WS.done ?_
      refine WR.ret (ret1 rfl rfl ?_)
      exact ⟨congrArg Value.bool (decide_eq_true (by rw [← List.take_length (l := xs), ← List.take_length (l := ys), show xs.length = i by omega, show ys.length = i by omega, he])).symm, hS1001⟩

set_option maxRecDepth 100000 in
set_option maxHeartbeats 4000000 in
theorem l13_great {w : World} {R : Kn} {L : List HP}  (hS : St w R (L)) {v0 : Value} {cs : List CallC} (h0 : RoC R v0 cs) (hm : cs.length ≤ 140737488355328) :
    Fn Try.prog 8 #[v0] w (fun v w' => v = .bool (grt cs) ∧ St w' R L) := by
  have hrc := h0.row
  obtain ⟨a0, c0, rfl, hl0⟩ := hrc.len
  refine Fn.intro (n := 20) Try.func8 rfl rfl rfl ?_
  refine WR.seq ?_
  refine WR.region rfl ?_
  refine S.assignC rfl ?_
  refine WS.done ?_
  refine WR.seq ?_
  refine WR.seq ?_
  refine WR.region rfl ?_
  refine S.moveT rfl ?_
  refine S.lenSl Try.underlying22 rfl rfl ?_
  refine S.gtr rfl rfl rfl ?_
  refine WS.done ?_
  refine WR.condD rfl (fun c6 => ?_) (fun c6 => ?_)
  ·
    skip
    refine WR.seq ?_
    refine WR.region rfl ?_
    refine S.assignC rfl ?_
    refine WS.done ?_
    refine WR.ret (ret1 rfl rfl ?_)
    exact ⟨congrArg Value.bool (grt_long (by omega)).symm, hS⟩
  ·
    skip
    refine WR.skip ?_
    refine WR.seq ?_
    refine WR.seq ?_
    refine WR.region rfl ?_
    refine S.assignC rfl ?_
    refine WS.done ?_
    refine WR.block ?_
    refine WR.loopE (fun rq mm rr wr => ∃ (i : Nat), mm = cs.length - i ∧ (i ≤ cs.length ∧ ∀ c ∈ cs.take i, c.items.length ≤ 100) ∧ rr 3 = .int .i64 (i : Int) ∧ Agr [0] rr rq ∧ St wr R L) ⟨0, rfl, (by exact ⟨by omega, fun c hc => by simp at hc⟩), rfl, ⟨rfl, trivial⟩, hS⟩ ?_
    rintro mm rr w1001 ⟨i, hm1001, ⟨hi, hall⟩, hr1001_3, hA1001, hS1001⟩
    obtain ⟨rr, rfl⟩ := agrBack hA1001
    clear hA1001
    obtain ⟨rr, rfl⟩ := back1 (r := rr) hr1001_3
    clear hr1001_3
    refine WR.seq ?_
    refine WR.seq ?_
    refine WR.region rfl ?_
    refine S.moveT rfl ?_
    refine S.moveT rfl ?_
    refine S.lenSl Try.underlying22 rfl rfl ?_
    refine S.lss rfl rfl rfl ?_
    refine WS.done ?_
    refine WR.condD rfl (fun c10 => ?_) (fun c10 => ?_)
    ·
      skip
      refine WR.skip ?_
      refine WR.seq ?_
      refine WR.block ?_
      refine WR.seq ?_
      refine WR.region rfl ?_
      refine S.moveT rfl ?_
      refine S.moveT rfl ?_
      refine S.indexRo hrc Try.underlying22 ti34 rfl rfl (by omega) rfl ?_
      intro ad15 u15 hu15 hl15 hc15
      refine S.fieldElt Try.underlying34 rfl ti32 rfl rfl rfl ?_
      refine S.loadRoF hS1001 hc15 rfl Try.underlying32 rfl rfl rfl ?_
      obtain ⟨av, cv, hav, -⟩ := (h0.each _ (List.mem_of_getElem? hu15)).1.len
      refine S.as (d := 17) rfl hav ?_
      refine S.lenSl Try.underlying32 rfl rfl ?_
      refine S.gtr rfl rfl rfl ?_
      refine WS.done ?_
      refine WR.condD rfl (fun c19 => ?_) (fun c19 => ?_)
      ·
        skip
        refine WR.seq ?_
        refine WR.region rfl ?_
        refine S.assignC rfl ?_
        refine WS.done ?_
        refine WR.ret (ret1 rfl rfl ?_)
        exact ⟨congrArg Value.bool (grt_one (List.mem_of_getElem? hu15) (by omega)).symm, hS1001⟩
      ·
        skip
        refine WR.skip ?_
        refine WR.region rfl ?_
        refine S.moveT rfl ?_
        first
          | refine S.addN rfl rfl rfl (by omega) ?_
          | refine S.add rfl rfl rfl ?_
        refine S.assignT rfl ?_
        refine WS.done ?_
        exact ⟨_, (by omega), ⟨i + 1, rfl, (by exact ⟨by omega, allT hall (getI hu15) (by omega)⟩), rfl, ⟨rfl, trivial⟩, hS1001⟩⟩
    ·
      skip
      refine WR.exit ?_
      refine WR.seq ?_
      refine WR.region rfl ?_
      refine S.assignC rfl ?_
      refine WS.done ?_
      refine WR.ret (ret1 rfl rfl ?_)
      rw [List.take_of_length_le (by omega)] at hall
      exact ⟨congrArg Value.bool (grt_no (by omega) hall).symm, hS1001⟩

set_option maxRecDepth 100000 in
set_option maxHeartbeats 4000000 in
theorem r_copyLongs {w : World} {R : Kn} {L : List HP}  (hS : St w R (L)) {v0 : Value} {xs : List Int} (h0 : Ro R (encI .i64) 1 v0 xs) (hm : xs.length ≤ 1000000) :
    Fn Try.prog 11 #[v0] w (fun v w' => St w' R (Ow 2 (encI .i64) 1 v xs :: L)) := by
  refine Fn.intro (n := 6) Try.func11 rfl rfl rfl ?_
  refine WR.seq ?_
  refine WR.region rfl ?_
  refine S.assignC rfl ?_
  refine WS.done ?_
  refine WR.seq ?_
  refine WR.region rfl ?_
  first
    | refine S.buildRow (vs := []) hS Try.underlying32 ti2 rfl rfl rfl rfl rfl rfl rfl ?_
    | refine S.buildRow hS Try.underlying32 ti2 rfl rfl rfl rfl rfl rfl rfl ?_
  intro b3 w3 hS3; clear hS
  have hSo := hS3.ownRow (enc := encI .i64) (n := 1) [] rfl (fun _ h => by cases h) (by simp)
  refine S.moveT rfl ?_
  refine S.appendRo (i := 0) hSo rfl h0 Try.underlying32 ti2 rfl rfl rfl rfl encI_one (by simp; omega) rfl ?_
  intro v5 w5 hS5; clear hSo
  refine S.assignT rfl ?_
  refine WS.done ?_
  refine WR.ret (ret1 rfl rfl ?_)
  exact hS5


end Go.Proofs.Ytcbfmbcmokafpaa.B

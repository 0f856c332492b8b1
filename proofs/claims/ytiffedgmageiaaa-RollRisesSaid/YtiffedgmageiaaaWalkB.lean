import Derived.Test.YtiffedgmageiaaaWalkA
import Derived.Test.YtiffedgmageiaaaArrQ
namespace Go.Proofs.Ytiffedgmageiaaa.B
open Go.Proofs Go.RowKit
set_option linter.unusedVariables false
set_option linter.unusedSimpArgs false
set_option maxRecDepth 100000 in
set_option maxHeartbeats 4000000 in
theorem r_all {w : World} {R : Kn} {L : List HP}  (hS : St w R (L)) {bh : Nat} :
    Fn Try.prog 18 #[.pointer (some ⟨bh, 0, none⟩)] w (fun v w' => ∃ R' bp, R.le R' ∧ v = .func (.func 23) #[] #[.pointer (some ⟨bp, 0, none⟩)] ∧ roCell R' ⟨bp, 0, none⟩ (.pointer (some ⟨bh, 0, none⟩)) ∧ St w' R' L) := by
  refine Fn.intro (n := 4) Try.func18 rfl rfl rfl ?_
  refine WR.seq ?_
  refine WR.region rfl ?_
  refine S.box hS rfl rfl rfl ?_
  intro b1 w1 hS1; clear hS
  obtain ⟨R1, h1, hR1, hh1, hm1, hSk⟩ := hS1.keep
  refine S.noFunc rfl ?_
  refine WS.done ?_
  refine WR.seq ?_
  refine WR.region rfl ?_
  refine S.mkFunc rfl rfl ?_
  refine S.assignT rfl ?_
  refine WS.done ?_
  refine WR.ret (ret1 rfl rfl ?_)
  exact ⟨R1, b1, hR1, rfl, ⟨rfl, _, _, _, hm1 _ _ hh1, rfl⟩, hSk⟩

set_option maxRecDepth 100000 in
set_option maxHeartbeats 4000000 in
theorem all_iter {R0 : Kn} {bp bh bm : Nat} {mo : Int} {m : EM} (hro : roCell R0 ⟨bp, 0, none⟩ (.pointer (some ⟨bh, 0, none⟩))) (hI : RI mo m) :
    IterX Try.prog 23 #[.pointer (some ⟨bp, 0, none⟩)] entA m R0 [blk bh (.cells (#[.int .i64 mo, .map (some bm)]) 58 (0, 0)), Mp Try.prog 2 bm (mE entV m)] := by
  intro l Inv InvX T Tx M R L W hle0 hXM hy hI0 hS0
  have hS := hS0.perm hXM
  have hln := hI.len
  have hmo := hI.mo0
  refine Fn.introG (n := 27) Try.func23 rfl rfl rfl ?_
  refine WG.seq ?_
  refine WG.region rfl ?_
  refine S.load1 Try.underlying24 rfl rfl (hS.roCell (hro.mono hle0)) rfl ?_
  refine S.nilCheck rfl rfl ?_
  refine S.fieldB Try.underlying58 rfl ti56 rfl rfl rfl rfl ?_
  refine S.loadB (i := 0) hS rfl Try.underlying56 rfl rfl rfl rfl ?_
  refine S.call ent24 rfl (fn_clone k_cloneA ((hS.at_ (i := 0) rfl).at_ (i := 1) rfl) ) rfl ?_
  rintro _ w10 ⟨bc10, rfl, hS10⟩
  clear hS
  refine S.assignT rfl ?_
  refine WS.done ?_
  refine WG.seq ?_
  refine WG.region rfl ?_
  refine S.moveT rfl ?_
  refine S.call ent26 rfl (fn_keys k_keysA hS10 ) rfl ?_
  rintro _ w12 ⟨bp12, rfl, hS12⟩
  clear hS10
  refine S.call ent25 rfl (fn_sorted k_sortedA Try.underlying2 hS12 (by rw [mE_len]; omega)) rfl ?_
  rintro v13 w13 hS13
  clear hS12
  rw [mE_keys] at hS13
  obtain ⟨av, cv, rfl⟩ := hS13.rowLen
  refine S.lenSl Try.underlying65 rfl rfl ?_
  refine S.moveC rfl ?_
  refine WS.done ?_
  refine WG.block ?_
  refine WG.loopE (fun rq mm rr wr => ∃ (i : Nat) (Rk : Kn) (Lk : List HP), mm = m.length - i ∧ (i ≤ m.length ∧ R.le Rk ∧ Inv (m.take i) Rk Lk) ∧ rr 15 = .int .i64 (i : Int) ∧ Agr [0, 3, 13, 14] rr rq ∧ St wr Rk (Ow 2 (encI .i64) 1 (.slice av (m.map (·.1)).length cv) (m.map (·.1)) :: blk bp12 (.cells #[.map (some bc10)] 56 (0, 0)) :: Mp Try.prog 2 bc10 (mE entV m) :: (Lk ++ T))) ⟨0, R, L, rfl, (by exact ⟨Nat.zero_le _, Kn.le.refl _, hI0⟩), rfl, ⟨rfl, rfl, rfl, rfl, trivial⟩, (hS13.perm (((((List.Perm.swap _ _ _).trans hXM.symm).cons _).cons _).cons _))⟩ ?_
  rintro mm rr w1001 ⟨i, Rk, Lk, hm1001, ⟨hi, hle, hIv⟩, hr1001_15, hA1001, hS1001⟩
  obtain ⟨rr, rfl⟩ := agrBack hA1001
  clear hA1001
  obtain ⟨rr, rfl⟩ := back1 (r := rr) hr1001_15
  clear hr1001_15
  have hml : (m.map (·.1)).length = m.length := List.length_map ..
  refine WG.seq ?_
  refine WG.region rfl ?_
  refine S.lss rfl rfl rfl ?_
  refine WS.done ?_
  refine WG.seq ?_
  refine WG.condD rfl (fun c16 => ?_) (fun c16 => ?_)
  ·
    skip
    refine WG.skip ?_
    refine WG.seq ?_
    refine WG.block ?_
    refine WG.seq ?_
    obtain ⟨x, hmi⟩ : ∃ x, m[i]? = some x := ⟨_, List.getElem?_eq_getElem (by have h9 := c16; rw [List.length_map] at h9; omega)⟩
    have hxa := aget_of hI.rise (List.mem_of_getElem? hmi)
    have hxk := hI.key _ (List.mem_of_getElem? hmi)
    refine WG.region rfl ?_
    refine S.indexOw (i := 0) hS1001 rfl Try.underlying65 ti2 rfl rfl (by rw [List.length_map] at *; omega) rfl ?_
    refine S.loadOw (i := 0) hS1001 rfl (fun _ _ => rfl) Try.underlying2 rfl rfl (keyAt hmi) rfl rfl ?_
    refine S.assignT rfl ?_
    refine WS.done ?_
    refine WG.seq ?_
    refine WG.regionYi 5 rfl rfl rfl rfl rfl ?_
    refine S.moveT rfl ?_
    refine S.moveT rfl ?_
    refine S.moveT rfl ?_
    refine S.moveT rfl ?_
    refine S.look (d0 := zE) (i := 2) hS1001 rfl Try.underlying56 Try.underlying2 ti34 rfl rfl (by omega) rfl ?_
    refine S.as (d := 23) rfl (v' := entV x.2) (by rw [hxa]; rfl) ?_
    refine WS.done ?_
    refine bif_T rfl ⟨l, _, exec_yield rfl rfl, (hy [_, _, _] (m.take i) x (m.drop (i + 1)) Rk Lk _ (take_split hmi) hle hIv (St.under (A := [_, _, _]) hS1001)).mono fun bq wq hq => ?_⟩
    clear hS1001
    obtain ⟨Rk2, Lk2, hle2, hq⟩ := hq
    rcases hq with ⟨rfl, hI2, hS2⟩ | ⟨rfl, hI2, hS2⟩
    ·
      have hS3 := St.under (A := Lk2) hS2
      refine S.not rfl rfl ?_
      refine WS.done ?_
      refine WG.condF rfl ?_
      refine WG.skip ?_
      refine WG.region rfl ?_
      first
        | refine S.addN rfl rfl rfl (by omega) ?_
        | refine S.add rfl rfl rfl ?_
      refine S.moveT rfl ?_
      refine WS.done ?_
      exact ⟨rfl, _, (by omega), ⟨i + 1, Rk2, Lk2, rfl, (by exact ⟨by omega, hle.trans hle2, by rw [take_snoc hmi]; exact hI2⟩), rfl, ⟨rfl, rfl, rfl, rfl, trivial⟩, hS3⟩⟩
    ·
      have hS3 := St.under (A := Lk2) hS2
      refine S.not rfl rfl ?_
      refine WS.done ?_
      refine WG.condT rfl ?_
      refine WG.ret (qm0 (ret0 rfl ?_))
      exact ⟨_, _, hle.trans hle2, .inr ⟨hI2, hS3.drop.drop.drop⟩⟩
  ·
    skip
    refine WG.exit ?_
    refine Exists.intro [] ⟨trivial, ?_⟩
    obtain rfl : i = m.length := by omega
    exact ⟨_, _, hle, .inl ⟨by rw [List.take_of_length_le (Nat.le_refl _)] at hIv; exact hIv, hS1001.drop.drop.drop⟩⟩


end Go.Proofs.Ytiffedgmageiaaa.B

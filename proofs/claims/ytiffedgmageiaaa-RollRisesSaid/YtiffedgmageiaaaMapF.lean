/- Maps of which only is said what holds of each entry; keys that are pairs of longs ([2]int64). -/
import Derived.Test.YtiffedgmageiaaaTab
import Derived.DeepKeys4
namespace Go.Proofs.Ytiffedgmageiaaa.B
set_option linter.unusedVariables false
set_option linter.unusedSimpArgs false
open Go.RowKit Go.ChangeMaps Go.Maps
open Go.WideElems (Fit rd rg rd_key rd_val rg_of)
def pk (a b : Int) : Value := .agg #[.int .i64 a, .int .i64 b]
theorem pk_inj {a b c d : Int} (h : pk a b = pk c d) : a = c ∧ b = d := by
  unfold pk at h
  simpa using h
def MpF (P : Program) (k : TypeId) (b n : Nat) (Φ : Value → Value → Prop) : HP := fun h =>
  ∃ es clock, h b = some (.map es clock) ∧ Fit P k hR es clock ∧ es.size ≤ n ∧ ∀ x ∈ es.toList, Φ x.key x.val
theorem keyOf_pk {P : Program} {k e : TypeId} {a b : Int} (hk : P.underlying k = some (.array 2 e)) (he : P.underlying e = some (.int .i64)) (ck : P.cellsOf k = 2) (ce : P.cellsOf e = 1) (ht : P.keyType k = true) (hs : Nat.blt 0 P.types.size = true) (ha : fits a) (hb : fits b) :
    ∃ l, keyOf P k (pk a b) = some l := by
  obtain ⟨n, hn⟩ : ∃ n, P.types.size = n + 1 := ⟨P.types.size - 1, (Nat.succ_pred_eq_of_pos (show 0 < P.types.size by simpa using hs)).symm⟩
  have h1 : ∀ x, fits x → P.keyLits (n + 1) e [Value.int .i64 x] = some [.int .i64 x] := fun x hx => by
    unfold fits at hx
    simp [Program.keyLits, he, wf_i64 hx]
  refine ⟨.string (keyBytes [.int .i64 a, .int .i64 b]), ?_⟩
  · unfold keyOf
    rw [hk]
    simp only [ht, pk, Value.formed, hk, ck]
    rw [hn]
    have h2 : (List.range 2).mapM (m := Option) (fun i => P.keyLits (n + 1) e (([Value.int .i64 a, Value.int .i64 b].drop (i * P.cellsOf e)).take (P.cellsOf e))) = some [[.int .i64 a], [.int .i64 b]] := by
      rw [ce]
      simp [List.range, List.range.loop, h1 a ha, h1 b hb]
    have h3 : P.keyLits (n + 1 + 1) k [Value.int .i64 a, Value.int .i64 b] = some [.int .i64 a, .int .i64 b] := by
      unfold Program.keyLits
      simp only [hk, ck, List.length_cons, List.length_nil, h2]
      rfl
    show (if _ then (P.keyLits (n + 1 + 1) k [Value.int .i64 a, Value.int .i64 b]).map _ else none) = _
    rw [h3]; rfl
section
variable {P : Program} {ops : Array Oper} {Q : Exit → Regs → World → Prop} {r : Regs} {w : World} {os : List Oper}
  {d : Nat} {ty t k e : TypeId} {pos : String} {aft : Array Edge} {g : Option (Nat × Bool)} {R : Kn} {L : List HP} {x y z : Operand} {i b n m b' : Nat} {Φ Φ' : Value → Value → Prop} {key z0 val : Value}
theorem S.makeMapF (s : St w R L) (ht : P.underlying t = some (.map k e)) (hw : wantR ⟨some d, .makeMap t none, ty, pos, aft, g⟩ ops r = true)
    (h : ∀ b w', St w' R (MpF P k b 0 Φ :: L) → WS P ops Q os (upd r d (.map (some b))) w') : WS P ops Q (⟨some d, .makeMap t none, ty, pos, aft, g⟩ :: os) r w := by
  refine S.makeMap s ht hw (fun b w' s' => h b w' (s'.head (fun h ⟨es, clock, h1, h2, h3⟩ => ⟨es, clock, h1, h2, ?_, ?_⟩)))
  · have := mp_size h3; simp at this; simp [this]
  · have := mp_size h3
    simp at this
    intro x hx; rw [this] at hx; cases hx
theorem S.lookF (K : Keyed P k) (hl : ∃ l, keyOf P k key = some l) (s : St w R L) (hi : L[i]? = some (MpF P k b n Φ)) (ht : P.underlying t = some (.map k e)) (hz : TI P e z0 m b') (hx : ev r x = .map (some b)) (hy : ev r y = key)
    (hw : wantR ⟨some d, .lookup t x y false, ty, pos, aft, g⟩ ops r = true)
    (h : ∀ v, v = z0 ∨ Φ key v → WS P ops Q os (upd r d v) w) : WS P ops Q (⟨some d, .lookup t x y false, ty, pos, aft, g⟩ :: os) r w := by
  obtain ⟨kl, hkl⟩ := hl
  obtain ⟨hh, ⟨es, clock, h1, F, h2, h3⟩, h4, _⟩ := (s.at_ hi).see
  rcases fit_look false K ht (run_zero hz) (h4 _ _ h1) F hkl with ⟨q1, _, _⟩ | ⟨e0, y0, q0, q1, q2, _⟩
  · refine S.val hw ?_ (h z0 (.inl rfl))
    simp only [execOp, hx, hy, Sem.run_bind, q1, Result.andThen_ok, Sem.run_pure, Bool.false_eq_true, if_false]
  · refine S.val hw ?_ (h e0.val (.inr (by rw [← q1]; exact h3 e0 q0)))
    simp only [execOp, hx, hy, Sem.run_bind, q2, Result.andThen_ok, Sem.run_pure, Bool.false_eq_true, if_false]
theorem S.putF {dd : Option Nat} (Φ' : Value → Value → Prop) (K : Keyed P k) (hl : ∃ l, keyOf P k key = some l) (s : St w R L) (hi : L[i]? = some (MpF P k b n Φ)) (ht : P.underlying t = some (.map k e)) (hm : n ≤ 100000000) (hx : ev r x = .map (some b)) (hy : ev r y = key) (hz : ev r z = val)
    (hold : ∀ k v, Φ k v → k ≠ key → Φ' k v) (hnew : Φ' key val) (hw : wantR ⟨dd, .mapUpdate t x y z, ty, pos, aft, g⟩ ops r = true)
    (h : ∀ w', St w' R (L.set i (MpF P k b (n + 1) Φ')) → WS P ops Q os (updO r dd undef) w') : WS P ops Q (⟨dd, .mapUpdate t x y z, ty, pos, aft, g⟩ :: os) r w := by
  obtain ⟨kl, hkl⟩ := hl
  have s1 := s.at_ hi
  obtain ⟨hh, ⟨es, clock, h1, F, h2, h3⟩, h4, _⟩ := s1.see
  obtain ⟨es', clock', q1, q2, q3, _, _, q4⟩ := fit_store (R' := hR) K ht (h4 _ _ h1) F (Nat.lt_of_le_of_lt (Nat.le_trans h2 hm) (by decide)) (fun _ _ _ _ hz => hz) hkl (val := val) rfl
  have hlen : es'.size ≤ n + 1 := by
    have e1 := congrArg List.length q3
    rw [length_sorted, List.length_map, Array.length_toList] at e1
    have e2 : ((es.toList.map (rg P k hR)).foldr DataW.insert []).length = es.size := by rw [length_sorted, List.length_map, Array.length_toList]
    have e3 : ∀ (l : List (Lit × DataW Value)) (p : Lit × DataW Value), (DataW.insert p l).length = l.length + 1 := fun l p => by
      induction l with
      | nil => rfl
      | cons y l ih => unfold DataW.insert; split <;> simp [ih]
    have e4 : (delKey kl ((es.toList.map (rg P k hR)).foldr DataW.insert [])).length ≤ ((es.toList.map (rg P k hR)).foldr DataW.insert []).length := List.length_filter_le ..
    have e5 := e3 (delKey kl ((es.toList.map (rg P k hR)).foldr DataW.insert [])) (kl, .held val)
    have e6 : es'.size = (DataW.insert (kl, .held val) (delKey kl ((es.toList.map (rg P k hR)).foldr DataW.insert []))).length := e1
    rw [e5] at e6
    rw [e2] at e4
    omega
  refine WS.op hw ?_
  have hr : (execOp (ev r) ⟨dd, .mapUpdate t x y z, ty, pos, aft, g⟩).run P w = .ok .skip (setBlock w b (.map es' clock')) := by
    simp only [execOp, hx, hy, hz, Sem.run_bind, q1, Result.andThen_ok, Sem.run_pure]
  unfold ROp; rw [hr]
  refine h _ (St.put_ (List.getElem?_eq_some_iff.1 hi).1 ?_)
  have hlt := (Array.getElem?_eq_some_iff.1 (h4 _ _ h1)).1
  refine s1.turn rfl rfl rfl (fun h hh hle => ?_)
  obtain ⟨_, _, hq, _⟩ := hh
  refine ⟨fun x => if x = b then some (.map es' clock') else none, ⟨es', clock', by simp, q2, hlen, fun x hx => ?_⟩, fun x o e => ?_, fun x o e => ?_, fun x hx hn => ?_⟩
  · rcases q4 x hx with ⟨u1, u2⟩ | ⟨u1, u2⟩
    · exact hold _ _ (h3 x u1) u2
    · rw [u1, u2]; exact hnew
  · by_cases hxb : x = b
    · subst hxb; simp at e; subst e
      simp [hp, setBlock, hlt]
    · simp [hxb] at e
  · by_cases hxb : x = b
    · subst hxb; exact .inl ⟨_, hq⟩
    · simp [hxb] at e
  · have hxb : x ≠ b := fun e => by subst e; rw [hq] at hn; cases hn
    simp only [hp, setBlock]
    rw [Array.getElem?_setIfInBounds_ne (fun e => hxb e.symm)]
end
end Go.Proofs.Ytiffedgmageiaaa.B

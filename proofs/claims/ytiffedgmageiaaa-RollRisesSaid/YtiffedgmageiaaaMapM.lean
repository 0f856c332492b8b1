/- Maps whose keys are 64 bits, as owned pieces: what they hold as a list that rises by key. -/
import Derived.Test.YtiffedgmageiaaaStruct
import Derived.Maps.Own
import Derived.Carry
namespace Go.Proofs.Ytiffedgmageiaaa.B
set_option linter.unusedVariables false
set_option linter.unusedSimpArgs false
open Go.RowKit Go.ChangeMaps
open Go.WideElems (Fit rd rg rd_key rd_val rg_of)

abbrev hR (v : Value) : Option (DataW Value × List MemPlace) := some (.held v, [])
def dm (m : List (Int × Value)) : List (Lit × DataW Value) := m.map (fun p => (.int .i64 p.1, .held p.2))
def Mp (P : Program) (k : TypeId) (b : Nat) (m : List (Int × Value)) : HP := fun h =>
  ∃ es clock, h b = some (.map es clock) ∧ Fit P k hR es clock ∧ (es.toList.map (rg P k hR)).foldr DataW.insert [] = dm m
section
variable {β : Type}
def aget (m : List (Int × β)) (k : Int) : Option β := (m.find? (fun p => p.1 == k)).map (·.2)
def ains (x : Int × β) : List (Int × β) → List (Int × β)
  | [] => [x]
  | y :: r => if x.1 < y.1 then x :: y :: r else y :: ains x r
def adel (m : List (Int × β)) (k : Int) : List (Int × β) := m.filter (fun p => p.1 != k)
def aput (m : List (Int × β)) (k : Int) (v : β) : List (Int × β) := ains (k, v) (adel m k)
def mE (enc : β → Value) (m : List (Int × β)) : List (Int × Value) := m.map (fun p => (p.1, enc p.2))
theorem mE_get {enc : β → Value} {m : List (Int × β)} {k : Int} : aget (mE enc m) k = (aget m k).map enc := by
  unfold aget mE
  rw [List.find?_map]
  simp only [Function.comp_def, Option.map_map]
theorem mE_del {enc : β → Value} {m : List (Int × β)} {k : Int} : adel (mE enc m) k = mE enc (adel m k) := by
  unfold adel mE
  rw [List.filter_map]; rfl
theorem mE_ins {enc : β → Value} {x : Int × β} : ∀ m : List (Int × β), ains (x.1, enc x.2) (mE enc m) = mE enc (ains x m)
  | [] => rfl
  | y :: r => by
    have ih := mE_ins (enc := enc) (x := x) r
    show (if x.1 < y.1 then _ else _) = mE enc (if x.1 < y.1 then _ else _)
    by_cases h : x.1 < y.1
    · rw [if_pos h, if_pos h]; rfl
    · rw [if_neg h, if_neg h]
      show _ :: ains _ (mE enc r) = _
      rw [ih]; rfl
theorem mE_put {enc : β → Value} {m : List (Int × β)} {k : Int} {v : β} : aput (mE enc m) k (enc v) = mE enc (aput m k v) := by
  unfold aput
  rw [← mE_ins (x := (k, v)), mE_del]
theorem mE_len {enc : β → Value} {m : List (Int × β)} : (mE enc m).length = m.length := List.length_map ..
theorem ains_len {x : Int × β} : ∀ m : List (Int × β), (ains x m).length = m.length + 1
  | [] => rfl
  | y :: r => by
    unfold ains
    split
    · rfl
    · simp [ains_len r]
theorem adel_len {m : List (Int × β)} {k : Int} : (adel m k).length ≤ m.length := List.length_filter_le ..
theorem aput_len {m : List (Int × β)} {k : Int} {v : β} : (aput m k v).length ≤ m.length + 1 := by
  unfold aput
  rw [ains_len]
  have := adel_len (m := m) (k := k)
  omega
end
theorem sameKey_i {a k : Int} : Lit.sameKey (.int .i64 a) (.int .i64 k) = (a == k) := by
  simp only [Lit.sameKey]
  by_cases h : a = k <;> simp [h]
theorem dm_get {m : List (Int × Value)} {k : Int} {zd : DataW Value} : (DataW.map (dm m)).atKey (.int .i64 k) zd = match aget m k with | some v => .held v | none => zd := by
  unfold DataW.atKey dm aget
  simp only [List.find?_map, Function.comp_def, sameKey_i]
  cases m.find? (fun p => p.1 == k) <;> rfl
theorem dm_ins {x : Int × Value} : ∀ m : List (Int × Value), DataW.insert (.int .i64 x.1, .held x.2) (dm m) = dm (ains x m)
  | [] => rfl
  | y :: r => by
    have ih := dm_ins (x := x) r
    unfold ains
    show (if (Lit.int .i64 x.1).before (.int .i64 y.1) then _ else _) = _
    simp only [Lit.before, decide_eq_true_eq]
    by_cases h : x.1 < y.1
    · rw [if_pos h, if_pos h]; rfl
    · rw [if_neg h, if_neg h]
      show _ :: DataW.insert _ (dm r) = _
      rw [ih]; rfl
theorem dm_del {m : List (Int × Value)} {k : Int} : delKey (.int .i64 k) (dm m) = dm (adel m k) := by
  unfold delKey dm adel
  rw [List.filter_map]
  congr 1
  apply List.filter_congr
  intro p _
  simp only [Function.comp, notKey, sameKey_i, bne]
theorem dm_put {m : List (Int × Value)} {k : Int} {v : Value} : putKey (.int .i64 k) (.held v) (dm m) = dm (aput m k v) := by
  unfold putKey aput
  rw [← dm_ins (x := (k, v)), ← dm_del]; rfl
theorem dm_len {m : List (Int × Value)} : (dm m).length = m.length := List.length_map ..
theorem dm_inj {a b : List (Int × Value)} (h : dm a = dm b) : a = b := by
  have key : ∀ (a b : List (Int × Value)), dm a = dm b → a = b := by
    intro a
    induction a with
    | nil => intro b h; cases b with
      | nil => rfl
      | cons y b => simp [dm] at h
    | cons x a ih => intro b h; cases b with
      | nil => simp [dm] at h
      | cons y b =>
        simp only [dm, List.map_cons, List.cons.injEq, Prod.mk.injEq, Lit.int.injEq, true_and, DataW.held.injEq] at h
        have := ih b h.2
        rw [this]
        congr 1
        exact Prod.ext h.1.1 h.1.2
  exact key a b h

section
variable {P : Program} {k : TypeId} {m : List (Int × Value)} {es : Array MapEntry} {clock : Nat}
theorem mp_size (hD : (es.toList.map (rg P k hR)).foldr DataW.insert [] = dm m) : es.size = m.length := by
  have := congrArg List.length hD
  rw [length_sorted, dm_len, List.length_map, Array.length_toList] at this
  exact this
/-- The keys rise. -/
theorem mp_rises (hk : P.underlying k = some (.int .i64)) (F : Fit P k hR es clock) (hD : (es.toList.map (rg P k hR)).foldr DataW.insert [] = dm m) : m.Pairwise (fun a b => a.1 < b.1) := by
  have h := Go.Maps.sorted_sorted (Go.Maps.int_keyed hk).one _ (Go.Maps.fit_keys F) (Go.Maps.fit_apart (Go.Maps.int_keyed hk) F)
  rw [hD] at h
  unfold dm at h
  rw [List.pairwise_map] at h
  exact h.imp (fun hab => by simpa [Lit.before] using hab)
theorem mp_fits (hk : P.underlying k = some (.int .i64)) (F : Fit P k hR es clock) (hD : (es.toList.map (rg P k hR)).foldr DataW.insert [] = dm m) : ∀ p ∈ m, (Lit.int .i64 p.1).wf = true := by
  intro p hp
  have h1 : (Lit.int .i64 p.1, DataW.held p.2) ∈ (es.toList.map (rg P k hR)).foldr DataW.insert [] := by
    rw [hD]; exact List.mem_map.2 ⟨p, hp, rfl⟩
  have mem : ∀ (x : Lit × DataW Value) (l : List (Lit × DataW Value)) (y), y ∈ DataW.insert x l → y = x ∨ y ∈ l := by
    intro x l
    induction l with
    | nil => intro y hy; simp [DataW.insert] at hy; exact .inl hy
    | cons z l ih =>
      intro y hy
      unfold DataW.insert at hy
      split at hy
      · rcases List.mem_cons.1 hy with rfl | hy
        · exact .inl rfl
        · exact .inr hy
      · rcases List.mem_cons.1 hy with rfl | hy
        · exact .inr (List.mem_cons_self ..)
        · rcases ih y hy with h | h
          · exact .inl h
          · exact .inr (List.mem_cons_of_mem _ h)
  have mem2 : ∀ (l : List (Lit × DataW Value)) (y), y ∈ l.foldr DataW.insert [] → y ∈ l := by
    intro l
    induction l with
    | nil => intro y hy; exact hy
    | cons x l ih =>
      intro y hy
      rcases mem x _ y hy with rfl | h
      · exact List.mem_cons_self ..
      · exact List.mem_cons_of_mem _ (ih y h)
  obtain ⟨e, he, hr⟩ := List.mem_map.1 (mem2 _ _ h1)
  obtain ⟨y, hy⟩ := F.reads e he
  have h2 := rd_key hy
  rw [rg_of hy] at hr
  rw [hr] at h2
  obtain ⟨x, hx, hl⟩ : ∃ x, e.key = .int .i64 x ∧ (Lit.int .i64 p.1) = .int .i64 x ∧ (Lit.int .i64 x).wf = true := by
    revert h2
    cases e.key <;> simp [keyOf, mapKey, hk]
    intro a b c
    subst a
    exact ⟨_, ⟨rfl, rfl⟩, c.symm, b⟩
  rw [hl.1]; exact hl.2
end

/-! ## the piece -/
section
variable {P : Program} {k : TypeId} {m m' : List (Int × Value)} {w : World} {R : Kn} {L : List HP} {b : Nat}
theorem St.mapAt (s : St w R (Mp P k b m :: L)) : ∃ es clock, w.heap[b]? = some (.map es clock) ∧ Fit P k hR es clock ∧ (es.toList.map (rg P k hR)).foldr DataW.insert [] = dm m := by
  obtain ⟨h, ⟨es, clock, h1, h2, h3⟩, h4, _⟩ := s.see
  exact ⟨es, clock, h4 _ _ h1, h2, h3⟩
theorem St.mapTurn {es' : Array MapEntry} {clock' : Nat} (s : St w R (Mp P k b m :: L)) (F : Fit P k hR es' clock') (hD : (es'.toList.map (rg P k hR)).foldr DataW.insert [] = dm m') :
    St (setBlock w b (.map es' clock')) R (Mp P k b m' :: L) := by
  obtain ⟨es, clock, hb, _⟩ := s.mapAt
  have hlt := (Array.getElem?_eq_some_iff.1 hb).1
  refine s.turn rfl rfl rfl (fun h hh hle => ?_)
  obtain ⟨_, _, hq, _⟩ := hh
  refine ⟨fun x => if x = b then some (.map es' clock') else none, ⟨es', clock', by simp, F, hD⟩, fun x o e => ?_, fun x o e => ?_, fun x hx hn => ?_⟩
  · by_cases hxb : x = b
    · subst hxb; simp at e; subst e; exact heap_setBlock_same hb _
    · simp [hxb] at e
  · by_cases hxb : x = b
    · subst hxb; exact .inl ⟨_, hq⟩
    · simp [hxb] at e
  · exact heap_setBlock_other hb _ (fun e => by subst e; rw [hq] at hn; cases hn)
theorem St.mapNew (s : St w R L) : St (w.alloc (.map #[] 0)) R (Mp P k w.heap.size [] :: L) := by
  refine s.make rfl rfl rfl ⟨fun x => if x = w.heap.size then some (.map #[] 0) else none, ⟨#[], 0, by simp, ⟨by simp, MapKept.stamped_empty 0, by simp⟩, rfl⟩, fun x o2 e => ?_, fun x o2 e => ?_⟩ (fun x hx => Below.heap_alloc w _ x hx)
  · by_cases hxl : x = w.heap.size
    · subst hxl; simp at e; subst e; exact (MapKept.heap_alloc w _).1
    · simp [hxl] at e
  · by_cases hxl : x = w.heap.size
    · omega
    · simp [hxl] at e
/-- A copy of a map. -/
theorem St.mapCopy {es : Array MapEntry} {clock : Nat} (s : St w R L) (F : Fit P k hR es clock) (hD : (es.toList.map (rg P k hR)).foldr DataW.insert [] = dm m) : St (w.alloc (.map es clock)) R (Mp P k w.heap.size m :: L) := by
  refine s.make rfl rfl rfl ⟨fun x => if x = w.heap.size then some (.map es clock) else none, ⟨es, clock, by simp, F, hD⟩, fun x o2 e => ?_, fun x o2 e => ?_⟩ (fun x hx => Below.heap_alloc w _ x hx)
  · by_cases hxl : x = w.heap.size
    · subst hxl; simp at e; subst e; exact (MapKept.heap_alloc w _).1
    · simp [hxl] at e
  · by_cases hxl : x = w.heap.size
    · omega
    · simp [hxl] at e
theorem St.mapRises (s : St w R (Mp P k b m :: L)) (hk : P.underlying k = some (.int .i64)) : m.Pairwise (fun a b => a.1 < b.1) := by
  obtain ⟨es, clock, hb, F, hD⟩ := s.mapAt
  exact mp_rises hk F hD
end
theorem wf_i64 {x : Int} (h : -9223372036854775808 ≤ x ∧ x ≤ 9223372036854775807) : (Lit.int .i64 x).wf = true := by
  have h1 : IntKind.i64.min = -9223372036854775808 := by decide
  have h2 : IntKind.i64.max = 9223372036854775807 := by decide
  simp only [Lit.wf, h1, h2, Bool.and_eq_true, decide_eq_true_eq]; omega
theorem run_look {P : Program} {k t e : TypeId} {β : Type} {enc : β → Value} {d0 : β} {m : List (Int × β)} {w : World} {R : Kn} {L : List HP} {b n b' : Nat} {key : Int} (c : Bool) (s : St w R (Mp P k b (mE enc m) :: L)) (ht : P.underlying t = some (.map k e)) (hk : P.underlying k = some (.int .i64)) (hz : TI P e (enc d0) n b')
    (hf : -9223372036854775808 ≤ key ∧ key ≤ 9223372036854775807) : (Instr.lookup t (.map (some b)) (.int .i64 key) c).run P w = .ok (if c then .tuple #[enc ((aget m key).getD d0), .bool (aget m key).isSome] else enc ((aget m key).getD d0)) w := by
  obtain ⟨es, clock, hb, F, hD⟩ := s.mapAt
  rcases Go.Maps.fit_look c (Go.Maps.int_keyed hk) ht (run_zero hz) hb F (Go.Maps.keyOf_int_mk hk (wf_i64 hf)) with ⟨h1, _, h2⟩ | ⟨e0, y, _, _, h1, h2, h3, _⟩
  · rw [hD] at h2
    have h4 := h2 .nil
    rw [dm_get, mE_get] at h4
    cases hg : aget m key with
    | none => rw [h1]; cases c <;> rfl
    | some v => rw [hg] at h4; cases h4
  · rw [hD] at h3
    have h4 := h3 .nil
    rw [dm_get, mE_get] at h4
    obtain rfl := Option.some.inj h2
    cases hg : aget m key with
    | none => rw [hg] at h4; cases h4
    | some v =>
      rw [hg] at h4
      simp only [Option.map_some, DataW.held.injEq] at h4
      rw [h1, ← h4]; cases c <;> rfl

/-! ## the rules -/
section
variable {P : Program} {ops : Array Oper} {Q : Exit → Regs → World → Prop} {r : Regs} {w : World} {os : List Oper}
  {d : Nat} {ty t : TypeId} {pos : String} {aft : Array Edge} {g : Option (Nat × Bool)} {R : Kn} {L : List HP} {x y z : Operand}
  {k e : TypeId} {β : Type} {enc : β → Value} {m : List (Int × β)} {i b n b' : Nat} {key : Int}
theorem S.makeMap (s : St w R L) (ht : P.underlying t = some (.map k e)) (hw : wantR ⟨some d, .makeMap t none, ty, pos, aft, g⟩ ops r = true)
    (h : ∀ b w', St w' R (Mp P k b [] :: L) → WS P ops Q os (upd r d (.map (some b))) w') : WS P ops Q (⟨some d, .makeMap t none, ty, pos, aft, g⟩ :: os) r w := by
  refine WS.op hw ?_
  have hr : (execOp (ev r) ⟨some d, .makeMap t none, ty, pos, aft, g⟩).run P w = .ok (.value (.map (some w.heap.size))) (w.alloc (.map #[] 0)) := by
    simp only [execOp, Option.map_none, Sem.run_bind, run_makeMap, Result.andThen_ok, Sem.run_pure]
  unfold ROp; rw [hr]
  exact h _ _ s.mapNew
theorem S.lookOk {d0 : β} (s : St w R L) (hi : L[i]? = some (Mp P k b (mE enc m))) (ht : P.underlying t = some (.map k e)) (hk : P.underlying k = some (.int .i64)) (hz : TI P e (enc d0) n b') (hx : ev r x = .map (some b)) (hy : ev r y = .int .i64 key)
    (hf : -9223372036854775808 ≤ key ∧ key ≤ 9223372036854775807) (hw : wantR ⟨some d, .lookup t x y true, ty, pos, aft, g⟩ ops r = true)
    (h : WS P ops Q os (upd r d (.tuple #[enc ((aget m key).getD d0), .bool (aget m key).isSome])) w) : WS P ops Q (⟨some d, .lookup t x y true, ty, pos, aft, g⟩ :: os) r w := by
  refine S.val hw ?_ h
  simp only [execOp, hx, hy, Sem.run_bind, run_look true (s.at_ hi) ht hk hz hf, Result.andThen_ok, Sem.run_pure, if_true]
theorem Q.lookOk {K : Regs → Prop} {d0 : β} (hi : L[i]? = some (Mp P k b (mE enc m))) (ht : P.underlying t = some (.map k e)) (hk : P.underlying k = some (.int .i64)) (hz : TI P e (enc d0) n b') (hx : ev r x = .map (some b)) (hy : ev r y = .int .i64 key)
    (hf : -9223372036854775808 ≤ key ∧ key ≤ 9223372036854775807) (hw : wantR ⟨some d, .lookup t x y true, ty, pos, aft, g⟩ ops r = true)
    (h : WQ P ops (fun w => St w R L) K os (upd r d (.tuple #[enc ((aget m key).getD d0), .bool (aget m key).isSome]))) : WQ P ops (fun w => St w R L) K (⟨some d, .lookup t x y true, ty, pos, aft, g⟩ :: os) r := by
  refine Q.val hw (fun w s => ?_) h
  simp only [execOp, hx, hy, Sem.run_bind, run_look true (s.at_ hi) ht hk hz hf, Result.andThen_ok, Sem.run_pure, if_true]
theorem S.look {d0 : β} (s : St w R L) (hi : L[i]? = some (Mp P k b (mE enc m))) (ht : P.underlying t = some (.map k e)) (hk : P.underlying k = some (.int .i64)) (hz : TI P e (enc d0) n b') (hx : ev r x = .map (some b)) (hy : ev r y = .int .i64 key)
    (hf : -9223372036854775808 ≤ key ∧ key ≤ 9223372036854775807) (hw : wantR ⟨some d, .lookup t x y false, ty, pos, aft, g⟩ ops r = true)
    (h : WS P ops Q os (upd r d (enc ((aget m key).getD d0))) w) : WS P ops Q (⟨some d, .lookup t x y false, ty, pos, aft, g⟩ :: os) r w := by
  refine S.val hw ?_ h
  simp only [execOp, hx, hy, Sem.run_bind, run_look false (s.at_ hi) ht hk hz hf, Result.andThen_ok, Sem.run_pure, Bool.false_eq_true, if_false]
theorem Q.look {K : Regs → Prop} {d0 : β} (hi : L[i]? = some (Mp P k b (mE enc m))) (ht : P.underlying t = some (.map k e)) (hk : P.underlying k = some (.int .i64)) (hz : TI P e (enc d0) n b') (hx : ev r x = .map (some b)) (hy : ev r y = .int .i64 key)
    (hf : -9223372036854775808 ≤ key ∧ key ≤ 9223372036854775807) (hw : wantR ⟨some d, .lookup t x y false, ty, pos, aft, g⟩ ops r = true)
    (h : WQ P ops (fun w => St w R L) K os (upd r d (enc ((aget m key).getD d0)))) : WQ P ops (fun w => St w R L) K (⟨some d, .lookup t x y false, ty, pos, aft, g⟩ :: os) r := by
  refine Q.val hw (fun w s => ?_) h
  simp only [execOp, hx, hy, Sem.run_bind, run_look false (s.at_ hi) ht hk hz hf, Result.andThen_ok, Sem.run_pure, Bool.false_eq_true, if_false]
theorem run_put {k t e : TypeId} {β : Type} {enc : β → Value} {m : List (Int × β)} {b : Nat} {key : Int} (u : β) (s : St w R (Mp P k b (mE enc m) :: L)) (ht : P.underlying t = some (.map k e)) (hk : P.underlying k = some (.int .i64)) (hm : m.length ≤ 100000000)
    (hf : -9223372036854775808 ≤ key ∧ key ≤ 9223372036854775807) : ∃ w', (Instr.mapUpdate t (.map (some b)) (.int .i64 key) (enc u)).run P w = .ok () w' ∧ St w' R (Mp P k b (mE enc (aput m key u)) :: L) := by
  obtain ⟨es, clock, hb, F, hD⟩ := s.mapAt
  have hsz := mp_size hD
  rw [mE_len] at hsz
  obtain ⟨es', clock', h1, h2, h3, _⟩ := Go.Maps.fit_store (R' := hR) (Go.Maps.int_keyed hk) ht hb F (by rw [hsz]; exact Nat.lt_of_le_of_lt hm (by decide)) (fun _ _ _ _ hz => hz) (Go.Maps.keyOf_int_mk hk (wf_i64 hf)) (val := enc u) rfl
  refine ⟨_, h1, s.mapTurn h2 ?_⟩
  rw [h3, hD, dm_put, mE_put]
theorem S.mapPut {dd : Option Nat} (u : β) (s : St w R L) (hi : L[i]? = some (Mp P k b (mE enc m))) (ht : P.underlying t = some (.map k e)) (hk : P.underlying k = some (.int .i64)) (hm : m.length ≤ 100000000) (hx : ev r x = .map (some b)) (hy : ev r y = .int .i64 key)
    (hz : ev r z = enc u) (hf : -9223372036854775808 ≤ key ∧ key ≤ 9223372036854775807) (hw : wantR ⟨dd, .mapUpdate t x y z, ty, pos, aft, g⟩ ops r = true)
    (h : ∀ w', St w' R (L.set i (Mp P k b (mE enc (aput m key u)))) → WS P ops Q os (updO r dd undef) w') : WS P ops Q (⟨dd, .mapUpdate t x y z, ty, pos, aft, g⟩ :: os) r w := by
  refine WS.op hw ?_
  obtain ⟨w', h1, h2⟩ := run_put u (s.at_ hi) ht hk hm hf
  have hr : (execOp (ev r) ⟨dd, .mapUpdate t x y z, ty, pos, aft, g⟩).run P w = .ok .skip w' := by
    simp only [execOp, hx, hy, hz, Sem.run_bind, h1, Result.andThen_ok, Sem.run_pure]
  unfold ROp; rw [hr]
  exact h _ (h2.put_ (List.getElem?_eq_some_iff.1 hi).1)
theorem S.mapDel {dd : Option Nat} (s : St w R L) (hi : L[i]? = some (Mp P k b (mE enc m))) (ht : P.underlying t = some (.map k e)) (hk : P.underlying k = some (.int .i64)) (hx : ev r x = .map (some b)) (hy : ev r y = .int .i64 key)
    (hf : -9223372036854775808 ≤ key ∧ key ≤ 9223372036854775807) (hw : wantR ⟨dd, .call { callee := .builtin .delete, args := #[x, y], argTypes := #[t, k] }, ty, pos, aft, g⟩ ops r = true)
    (h : ∀ w', St w' R (L.set i (Mp P k b (mE enc (adel m key)))) → WS P ops Q os (updO r dd (.tuple #[])) w') : WS P ops Q (⟨dd, .call { callee := .builtin .delete, args := #[x, y], argTypes := #[t, k] }, ty, pos, aft, g⟩ :: os) r w := by
  refine WS.op hw ?_
  obtain ⟨es, clock, hb, F, hD⟩ := (s.at_ hi).mapAt
  obtain ⟨es', h1, h2, _, h3, _⟩ := Go.Maps.fit_drop (ty := ty) (Go.Maps.int_keyed hk) ht hb F (Go.Maps.keyOf_int_mk hk (wf_i64 hf))
  have hr : (execOp (ev r) ⟨dd, .call { callee := .builtin .delete, args := #[x, y], argTypes := #[t, k] }, ty, pos, aft, g⟩).run P w = .ok (.value (.tuple #[])) (setBlock w b (.map es' clock)) := by
    simp only [execOp, resolve, invoke, builtin, List.map_toArray, List.map_cons, List.map_nil, pure_bind, hx, hy, Sem.run_bind, h1, Result.andThen_ok, Sem.run_pure]
  unfold ROp; rw [hr]
  refine h _ (((s.at_ hi).mapTurn h2 ?_).put_ (List.getElem?_eq_some_iff.1 hi).1)
  rw [h3, hD, dm_del, mE_del]
theorem S.mapClear {dd : Option Nat} (s : St w R L) (hi : L[i]? = some (Mp P k b (mE enc m))) (ht : P.underlying t = some (.map k e)) (hx : ev r x = .map (some b))
    (hw : wantR ⟨dd, .call { callee := .builtin .clear, args := #[x], argTypes := #[t] }, ty, pos, aft, g⟩ ops r = true)
    (h : ∀ w', St w' R (L.set i (Mp P k b (mE enc []))) → WS P ops Q os (updO r dd (.tuple #[])) w') : WS P ops Q (⟨dd, .call { callee := .builtin .clear, args := #[x], argTypes := #[t] }, ty, pos, aft, g⟩ :: os) r w := by
  refine WS.op hw ?_
  obtain ⟨es, clock, hb, F, hD⟩ := (s.at_ hi).mapAt
  have h1 : (Builtin.clear_ #[t] ty #[.map (some b)]).run P w = .ok (.tuple #[]) (setBlock w b (.map #[] clock)) := by
    simp [Builtin.clear_, run_underlying ht, MapKept.run_getObj_map hb, MapKept.run_setObj_map _ hb, Result.andThen, setBlock]
  have hr : (execOp (ev r) ⟨dd, .call { callee := .builtin .clear, args := #[x], argTypes := #[t] }, ty, pos, aft, g⟩).run P w = .ok (.value (.tuple #[])) (setBlock w b (.map #[] clock)) := by
    simp only [execOp, resolve, invoke, builtin, List.map_toArray, List.map_cons, List.map_nil, pure_bind, hx, Sem.run_bind, h1, Result.andThen_ok, Sem.run_pure]
  unfold ROp; rw [hr]
  exact h _ (((s.at_ hi).mapTurn (es' := #[]) (clock' := clock) ⟨by simp, MapKept.stamped_empty clock, by simp⟩ rfl).put_ (List.getElem?_eq_some_iff.1 hi).1)
end
end Go.Proofs.Ytiffedgmageiaaa.B

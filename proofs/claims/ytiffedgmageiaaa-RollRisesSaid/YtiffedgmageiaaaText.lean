/- Texts and bytes: a text's bytes as numbers, appended and made of rows; nil checks; rows of texts. -/
import Derived.Test.YtiffedgmageiaaaPair
import Derived.Laws.BytesString
import Derived.Laws.Pointers
namespace Go.Proofs.Ytiffedgmageiaaa.B
set_option linter.unusedVariables false
set_option linter.unusedSimpArgs false
open Go.RowKit Go.ChangeShapes Go.WideShapes

/-- A text's bytes. -/
def sB (s : ByteArray) : List Int := s.data.toList.map fun b => (b.toNat : Int)
theorem sB_len (s : ByteArray) : (sB s).length = s.size := by unfold sB; rw [List.length_map]; rfl
theorem sB_byte (s : ByteArray) : ∀ x ∈ sB s, 0 ≤ x ∧ x < 256 := by
  intro x hx
  obtain ⟨b, _, rfl⟩ := List.mem_map.1 hx
  have := b.toNat_lt
  omega
/-- The text of bytes. -/
def bS (xs : List Int) : ByteArray := xs.foldl (fun r n => r.push (UInt8.ofNat n.toNat)) ByteArray.empty
theorem bS_data (xs : List Int) : ∀ r : ByteArray, (xs.foldl (fun r n => r.push (UInt8.ofNat n.toNat)) r).data.toList = r.data.toList ++ xs.map (fun n => UInt8.ofNat n.toNat) := by
  induction xs with
  | nil => intro r; simp
  | cons x xs ih => intro r; rw [List.foldl_cons, ih]; simp [ByteArray.push]
theorem bS_list (xs : List Int) : (bS xs).data.toList = xs.map (fun n => UInt8.ofNat n.toNat) := by
  unfold bS; rw [bS_data]; rfl
theorem bS_sB (s : ByteArray) : bS (sB s) = s := by
  have h : (bS (sB s)).data.toList = s.data.toList := by
    rw [bS_list]; unfold sB
    rw [List.map_map]
    conv => rhs; rw [← List.map_id s.data.toList]
    apply List.map_congr_left
    intro b _
    simp
  have h2 : (bS (sB s)).data = s.data := by rw [← Array.toList_inj]; exact h
  cases hb : bS (sB s); cases s; rw [hb] at h2; simp at h2; rw [h2]
theorem sB_inj {a b : ByteArray} (h : sB a = sB b) : a = b := by rw [← bS_sB a, ← bS_sB b, h]
section
variable {P : Program} {ops : Array Oper} {Q : Exit → Regs → World → Prop} {r : Regs} {w : World} {os : List Oper}
  {d : Nat} {ty t t' : TypeId} {pos : String} {aft : Array Edge} {g : Option (Nat × Bool)} {R : Kn} {L : List HP} {x y : Operand}
theorem Src.str (s : ByteArray) : Src P 1 w (.string s) (sB s).length ((sB s).flatMap (encI .u8)) := by
  have e : (sB s).flatMap (encI .u8) = (s.data.map fun b => Value.int .u8 b.toNat).toList := by
    unfold sB
    simp only [Array.toList_map]
    induction s.data.toList with
    | nil => rfl
    | cons b l ih => rw [List.map_cons, List.flatMap_cons, ih]; rfl
  refine ⟨fun k => ?_, fun k => ?_, ?_⟩
  · simp only [Builtin.lenOf, sB_len, Sem.run_pure]
  · rw [sB_len, e]
    simp only [Builtin.firstCells, Sem.run_pure]
    rw [show s.extract 0 s.size = s from ByteArray.extract_zero_size]
  · rw [e, sB_len]; simp
/-- 'append' of a text. -/
theorem S.appendStr {t u e : TypeId} {z : Value} {b i : Nat} {v : Value} {s : ByteArray} {xs : List Int} (st : St w R L) (hi : L[i]? = some (Ow e (encI .u8) 1 v xs))
    (ht : P.underlying t = some (.slice e)) (hu : P.underlying u = some .string) (hI : TI P e z 1 b) (hzs : z.cells.size = 1)
    (hx : ev r x = v) (hy : ev r y = .string s) (hb : (xs.length + s.size) * b ≤ 140737488355328 ∧ xs.length + s.size ≤ 140737488355328)
    (hw : wantR ⟨some d, .call { callee := .builtin .append, args := #[x, y], argTypes := #[t, u] }, ty, pos, aft, g⟩ ops r = true)
    (h : ∀ v' w', St w' R (L.set i (Ow e (encI .u8) 1 v' (xs ++ sB s))) → WS P ops Q os (upd r d v') w') :
    WS P ops Q (⟨some d, .call { callee := .builtin .append, args := #[x, y], argTypes := #[t, u] }, ty, pos, aft, g⟩ :: os) r w :=
  S.appendOw st hi ht hu rfl hI hzs rfl hx hy (Src.str s) encI_one (by rw [sB_len]; exact hb) hw h
theorem loadBytes {xs : List Int} (s : St w R L) {a : Addr} {n c : Nat} (h : Ro R (encI .u8) 1 (.slice (some a) n c) xs) : (loadCells a n).run P w = .ok (xs.map (Value.int .u8)).toArray w := by
  have hl : xs.length = n := by
    obtain ⟨_, _, e, _⟩ := h.len
    cases e; rfl
  rcases h with ⟨h1, _⟩ | ⟨a', c', h1, h2, h3⟩
  · cases h1
  · cases h1
    have := run_loadCells_list (P := P) w a (xs.map (Value.int .u8)) (fun j u hj => by
      rw [List.getElem?_map] at hj
      obtain ⟨x, hx, rfl⟩ := Option.map_eq_some_iff.1 hj
      have := (h3 j x hx).2 0 _ rfl
      rw [Nat.mul_one, Nat.add_zero] at this
      exact s.roCell this)
    rwa [List.length_map] at this
theorem run_toStr {v : Value} {xs : List Int} (s : St w R L) (h : Ro R (encI .u8) 1 v xs) : (Conv.bytesToString v).run P w = .ok (.string (bS xs)) w := by
  obtain ⟨a, c, rfl, hl⟩ := h.len
  cases a with
  | none =>
    rcases h with ⟨h1, rfl⟩ | ⟨a', c', h1, h2, h3⟩
    · simp [Conv.bytesToString, Sem.run_pure]; rfl
    · cases h1
  | some a => exact run_bytesToString w a _ _ xs (loadBytes s h)
/-- A text made of bytes. -/
theorem S.toStr {e : TypeId} {v : Value} {xs : List Int} (s : St w R L) (h0 : Ro R (encI .u8) 1 v xs) (hs : P.underlying t = some (.slice e)) (he : P.underlying e = some (.int .u8)) (hd : P.underlying t' = some .string)
    (hx : ev r x = v) (hw : wantR ⟨some d, .convert t t' x, ty, pos, aft, g⟩ ops r = true) (h : WS P ops Q os (upd r d (.string (bS xs))) w) : WS P ops Q (⟨some d, .convert t t' x, ty, pos, aft, g⟩ :: os) r w := by
  refine S.val hw ?_ h
  have hr := run_toStr (P := P) s h0
  obtain ⟨a, c, rfl, _⟩ := h0.len
  simp only [execOp, hx, Sem.run_bind, run_convert_bytes_string w t t' e a xs.length c hs he hd, hr, Result.andThen_ok, Sem.run_pure]
theorem S.eqlStr {a b : ByteArray} (hx : ev r x = .string a) (hy : ev r y = .string b) (hw : wantR ⟨some d, .binOp .eql t x y t', ty, pos, aft, g⟩ ops r = true)
    (h : WS P ops Q os (upd r d (.bool (decide (a = b)))) w) : WS P ops Q (⟨some d, .binOp .eql t x y t', ty, pos, aft, g⟩ :: os) r w := by
  refine S.val hw ?_ h
  have : eqGuard .eql t x y (.string a) (.string b) = pure () := by unfold eqGuard; rfl
  have e : (a.toList == b.toList) = decide (a = b) := by
    rw [ByteArray.toList_eq, ByteArray.toList_eq]
    by_cases h : a = b
    · subst h; simp
    · have : a.data.toList ≠ b.data.toList := fun e => h (by cases a; cases b; rw [Array.toList_inj] at e; cases e; rfl)
      rw [decide_eq_false h]; exact beq_eq_false_iff_ne.2 this
  simp only [execOp, hx, hy, this, pure_bind, binOp, Op.stringOp, e, Sem.run_bind, Sem.run_pure, Result.andThen_ok]
theorem S.nilCheck {a : Addr} (hx : ev r x = .pointer (some a)) (hw : wantR ⟨some d, .nilCheck x, ty, pos, aft, g⟩ ops r = true)
    (h : WS P ops Q os (upd r d (.pointer (some a))) w) : WS P ops Q (⟨some d, .nilCheck x, ty, pos, aft, g⟩ :: os) r w := by
  refine S.val hw ?_ h
  simp only [execOp, hx, Sem.run_pure]
theorem S.eqlNil {e : TypeId} {a : Addr} (ht : P.underlying t = some (.pointer e)) (hx : ev r x = .pointer (some a)) (hy : ev r y = .pointer none) (hw : wantR ⟨some d, .binOp .eql t x y t', ty, pos, aft, g⟩ ops r = true)
    (h : WS P ops Q os (upd r d (.bool false)) w) : WS P ops Q (⟨some d, .binOp .eql t x y t', ty, pos, aft, g⟩ :: os) r w := by
  refine S.val hw ?_ h
  have : eqGuard .eql t x y (.pointer (some a)) (.pointer none) = pure () := by unfold eqGuard; rfl
  have hp : P.underlying t = some (.pointer (P.pointee t)) := by simp [Program.pointee, ht]
  simp only [execOp, hx, hy, this, pure_bind, Sem.run_bind, run_eql_pointer_nil w t (some a) hp, Result.andThen_ok, Option.isNone_some, Sem.run_pure]
end
section
variable {P : Program} {fn : Func} {Post : Value → World → Prop} {r : Regs} {w : World}
theorem ret0N (hr : fn.results.toList = []) (hp : Post (.tuple #[]) w) : retQ P fn Post .normal r w := ⟨[], by rw [hr]; trivial, hp⟩
end
/-! ## rows of texts -/
theorem encS_one {xs : List ByteArray} : ∀ x ∈ xs, ∀ u ∈ encS x, u.oneCell' = true := by
  intro x _ u hu
  simp only [encS, List.mem_cons, List.not_mem_nil, or_false] at hu
  subst hu; rfl
section
variable {H : Type} {enc : TypeId × Value → H} {P : Program} {W : World}
theorem TR.strs {t e : TypeId} {cs : List Value} {d : DataW H} (hu : P.underlying t = some (.slice e)) (he : P.underlying e = some .string) (hc : P.cellsOf e = 1) (h : TR enc P W t cs d) (hs : SZ P t d) :
    ∃ v, ∃ xs : List ByteArray, cs = [v] ∧ Ro (knAll W) encS 1 v xs ∧ (∀ x ∈ xs, x.size ≤ reachBytes) ∧ xs.length * P.bytesOf e ≤ reachBytes := by
  obtain ⟨v, xs, g1, g2, g3, g4⟩ := h.slice hu (by rw [hc]; decide) hs
  rw [hc] at g2
  obtain ⟨ys, g5, g6⟩ := B.typed (e2 := encS) (fun y _ => y.size ≤ reachBytes) xs (fun x hx => (g3 x hx).1.string he (g3 x hx).2)
  have hl : xs.length = ys.length := by have := congrArg List.length g5; simpa using this
  exact ⟨v, ys, g1, g2.typed g5, fun y hy => let ⟨_, _, q⟩ := g6 y hy; q, by rw [← hl]; exact g4⟩
end
end Go.Proofs.Ytiffedgmageiaaa.B

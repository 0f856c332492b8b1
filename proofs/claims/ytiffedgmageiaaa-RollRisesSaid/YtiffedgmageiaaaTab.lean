/- Blocks that hold an array of structs behind other fields; a map's length; what a law is handed of rows of structs of five longs. -/
import Derived.Test.YtiffedgmageiaaaRowsN
import Derived.Test.YtiffedgmageiaaaMapM
import Derived.Test.YtiffedgmageiaaaNil
import Derived.Test.YtiffedgmageiaaaSafe
namespace Go.Proofs.Ytiffedgmageiaaa.B
set_option linter.unusedVariables false
set_option linter.unusedSimpArgs false
open Go.RowKit
def tabC {α : Type} (pre : List Value) (enc : α → List Value) (rows : List α) : Array Value := (pre ++ rows.flatMap enc).toArray
section
variable {α : Type} {enc : α → List Value} {pre : List Value} {rows : List α} {n k f p : Nat} {u : α} {c : Value}
theorem tab_pre (h : pre[k]? = some c) : (tabC pre enc rows)[k]? = some c := by
  have hl := (List.getElem?_eq_some_iff.1 h).1
  unfold tabC
  rw [List.getElem?_toArray, List.getElem?_append_left hl]; exact h
theorem tab_at (hp : pre.length = p) (he : ∀ x ∈ rows, (enc x).length = n) (hu : rows[k]? = some u) (hc : (enc u)[f]? = some c) : (tabC pre enc rows)[p + k * n + f]? = some c := by
  subst hp
  unfold tabC
  rw [List.getElem?_toArray, List.getElem?_append_right (by omega), show pre.length + k * n + f - pre.length = k * n + f by omega]
  exact flat_at rows he k u hu f c hc
theorem tab_len (he : ∀ x ∈ rows, (enc x).length = n) : (tabC pre enc rows).size = pre.length + rows.length * n := by
  unfold tabC
  rw [List.size_toArray, List.length_append]
  congr 1
  induction rows with
  | nil => simp
  | cons x xs ih =>
    rw [List.flatMap_cons, List.length_append, he x (List.mem_cons_self ..), ih (fun y hy => he y (List.mem_cons_of_mem _ hy)), List.length_cons, Nat.add_mul]
    omega
end
section
variable {P : Program} {ops : Array Oper} {Q : Exit → Regs → World → Prop} {r : Regs} {w : World} {os : List Oper}
  {d : Nat} {ty t : TypeId} {pos : String} {aft : Array Edge} {g : Option (Nat × Bool)} {R : Kn} {L : List HP}
  {α : Type} {enc : α → List Value} {te : TypeId} {x y : Operand} {i k n f p b : Nat} {pre : List Value} {rows : List α} {u : α} {c : Value} {fz : Nat × Nat}
theorem tab_cell (s : St w R L) (hi : L[i]? = some (blk b (.cells (tabC pre enc rows) te fz))) (hp : pre.length = p) (he : ∀ x ∈ rows, (enc x).length = n) (hu : rows[k]? = some u) (hc : (enc u)[f]? = some c) :
    w.cell? ⟨b, p + k * n + f, none⟩ = some c := cell_of_heap (s.at_ hi).blkAt (tab_at hp he hu hc)
theorem S.ixTab {e : TypeId} {m : Nat} {j : Int} {kd : IntKind} {z : Value} {b' : Nat} (ht : P.underlying t = some (.array m e)) (hz : TI P e z n b') (hx : ev r x = .pointer (some ⟨b, p, none⟩)) (hy : ev r y = .int kd j) (hb : 0 ≤ j ∧ j < m)
    (hw : wantR ⟨some d, .indexAddr t x y, ty, pos, aft, g⟩ ops r = true) (h : WS P ops Q os (upd r d (.pointer (some ⟨b, p + j.toNat * n, none⟩))) w) : WS P ops Q (⟨some d, .indexAddr t x y, ty, pos, aft, g⟩ :: os) r w := by
  refine S.indexArr ht hz hx hy hb hw ?_
  rw [Addr.add_none]; exact h
theorem Q.ixTab {C : World → Prop} {K : Regs → Prop} {e : TypeId} {m : Nat} {j : Int} {kd : IntKind} {z : Value} {b' : Nat} (ht : P.underlying t = some (.array m e)) (hz : TI P e z n b') (hx : ev r x = .pointer (some ⟨b, p, none⟩)) (hy : ev r y = .int kd j) (hb : 0 ≤ j ∧ j < m)
    (hw : wantR ⟨some d, .indexAddr t x y, ty, pos, aft, g⟩ ops r = true) (h : WQ P ops C K os (upd r d (.pointer (some ⟨b, p + j.toNat * n, none⟩)))) : WQ P ops C K (⟨some d, .indexAddr t x y, ty, pos, aft, g⟩ :: os) r := by
  refine Q.indexArr ht hz hx hy hb hw ?_
  rw [Addr.add_none]; exact h
theorem S.loadTabF {td : TypeDesc} (s : St w R L) (hi : L[i]? = some (blk b (.cells (tabC pre enc rows) te fz))) (hp : pre.length = p) (he : ∀ x ∈ rows, (enc x).length = n) (ht : P.underlying t = some td) (hta : agB (some td) = false)
    (hx : ev r x = .pointer (some ⟨b, p + k * n + f, none⟩)) (hu : rows[k]? = some u) (hc : (enc u)[f]? = some c) (hw : wantR ⟨some d, .load t x, ty, pos, aft, g⟩ ops r = true) (h : WS P ops Q os (upd r d c) w) :
    WS P ops Q (⟨some d, .load t x, ty, pos, aft, g⟩ :: os) r w := S.load1 ht hta hx (tab_cell s hi hp he hu hc) hw h
theorem Q.loadTabF {K : Regs → Prop} {td : TypeDesc} (hi : L[i]? = some (blk b (.cells (tabC pre enc rows) te fz))) (hp : pre.length = p) (he : ∀ x ∈ rows, (enc x).length = n) (ht : P.underlying t = some td) (hta : agB (some td) = false)
    (hx : ev r x = .pointer (some ⟨b, p + k * n + f, none⟩)) (hu : rows[k]? = some u) (hc : (enc u)[f]? = some c) (hw : wantR ⟨some d, .load t x, ty, pos, aft, g⟩ ops r = true) (h : WQ P ops (fun w => St w R L) K os (upd r d c)) :
    WQ P ops (fun w => St w R L) K (⟨some d, .load t x, ty, pos, aft, g⟩ :: os) r := Q.load1 ht hta hx (fun w s => tab_cell s hi hp he hu hc) hw h
theorem S.loadTabA {td : TypeDesc} {z : Value} {b' : Nat} (s : St w R L) (hi : L[i]? = some (blk b (.cells (tabC pre enc rows) te fz))) (hp : pre.length = p) (he : ∀ x ∈ rows, (enc x).length = n) (ht : P.underlying t = some td) (hta : agB (some td) = true) (hI : TI P t z n b')
    (hx : ev r x = .pointer (some ⟨b, p + k * n, none⟩)) (hu : rows[k]? = some u) (hw : wantR ⟨some d, .load t x, ty, pos, aft, g⟩ ops r = true) (h : WS P ops Q os (upd r d (.agg (enc u).toArray)) w) :
    WS P ops Q (⟨some d, .load t x, ty, pos, aft, g⟩ :: os) r w :=
  S.loadA ht hta hI hx (he u (List.mem_of_getElem? hu)) (fun j c hc => by rw [Addr.add_none]; exact tab_cell s hi hp he hu hc) hw h
theorem Q.loadTabA {K : Regs → Prop} {td : TypeDesc} {z : Value} {b' : Nat} (hi : L[i]? = some (blk b (.cells (tabC pre enc rows) te fz))) (hp : pre.length = p) (he : ∀ x ∈ rows, (enc x).length = n) (ht : P.underlying t = some td) (hta : agB (some td) = true) (hI : TI P t z n b')
    (hx : ev r x = .pointer (some ⟨b, p + k * n, none⟩)) (hu : rows[k]? = some u) (hw : wantR ⟨some d, .load t x, ty, pos, aft, g⟩ ops r = true) (h : WQ P ops (fun w => St w R L) K os (upd r d (.agg (enc u).toArray))) :
    WQ P ops (fun w => St w R L) K (⟨some d, .load t x, ty, pos, aft, g⟩ :: os) r :=
  Q.loadA ht hta hI hx (he u (List.mem_of_getElem? hu)) (fun w s j c hc => by rw [Addr.add_none]; exact tab_cell s hi hp he hu hc) hw h
theorem S.loadTabP {td : TypeDesc} (s : St w R L) (hi : L[i]? = some (blk b (.cells (tabC pre enc rows) te fz))) (ht : P.underlying t = some td) (hta : agB (some td) = false)
    (hx : ev r x = .pointer (some ⟨b, k, none⟩)) (hc : pre[k]? = some c) (hw : wantR ⟨some d, .load t x, ty, pos, aft, g⟩ ops r = true) (h : WS P ops Q os (upd r d c) w) :
    WS P ops Q (⟨some d, .load t x, ty, pos, aft, g⟩ :: os) r w := S.loadB s hi ht hta hx (tab_pre hc) hw h
theorem Q.loadTabP {K : Regs → Prop} {td : TypeDesc} (hi : L[i]? = some (blk b (.cells (tabC pre enc rows) te fz))) (ht : P.underlying t = some td) (hta : agB (some td) = false)
    (hx : ev r x = .pointer (some ⟨b, k, none⟩)) (hc : pre[k]? = some c) (hw : wantR ⟨some d, .load t x, ty, pos, aft, g⟩ ops r = true) (h : WQ P ops (fun w => St w R L) K os (upd r d c)) :
    WQ P ops (fun w => St w R L) K (⟨some d, .load t x, ty, pos, aft, g⟩ :: os) r := Q.loadB hi ht hta hx (tab_pre hc) hw h
theorem S.storeTabA {z : Value} {b' : Nat} {dd : Option Nat} {val : Value} (u : α) (s : St w R L) (hi : L[i]? = some (blk b (.cells (tabC pre enc rows) te (0, 0)))) (hp : pre.length = p) (he : ∀ x ∈ rows, (enc x).length = n) (hI : TI P t z n b')
    (hx : ev r x = .pointer (some ⟨b, p + k * n, none⟩)) (hk : k < rows.length) (hy : ev r y = val) (hc : val.cells.toList = enc u) (hn : (enc u).length = n) (ho : ((enc u).all fun u => u.oneCell') = true)
    (hw : wantR ⟨dd, .store t x y, ty, pos, aft, g⟩ ops r = true) (h : ∀ w', St w' R (L.set i (blk b (.cells (tabC pre enc (rows.set k u)) te (0, 0)))) → WS P ops Q os (updO r dd undef) w') :
    WS P ops Q (⟨dd, .store t x y, ty, pos, aft, g⟩ :: os) r w := by
  subst hp
  have hle : k * n + n ≤ rows.length * n := by rw [← Nat.succ_mul]; exact Nat.mul_le_mul_right _ hk
  refine S.storeB (c' := pre ++ (rows.set k u).flatMap enc) s hi hI hx hy hc hn ho (decide_eq_true (by rw [tab_len he]; omega)) ?_ hw h
  have hfl := flat_set (u := u) (enc := enc) rfl rows k (fun x hx => (he x hx).trans hn.symm) hk
  rw [hn] at hfl
  rw [hfl]
  show (pre ++ rows.flatMap enc).take _ ++ (enc u ++ (pre ++ rows.flatMap enc).drop _) = _
  rw [List.take_append, List.take_of_length_le (l := pre) (by omega), List.drop_append, List.drop_eq_nil_of_le (as := pre) (by omega), List.nil_append, List.append_assoc]
  rw [show pre.length + k * n - pre.length = k * n by omega, show pre.length + k * n + n - pre.length = k * n + n by omega]
end
/-! ## a map's length -/
section
variable {P : Program} {ops : Array Oper} {Q : Exit → Regs → World → Prop} {r : Regs} {w : World} {os : List Oper}
  {d : Nat} {ty t k e : TypeId} {pos : String} {aft : Array Edge} {g : Option (Nat × Bool)} {R : Kn} {L : List HP} {x : Operand} {i b : Nat} {m : List (Int × Value)} {β : Type} {enc : β → Value} {ms : List (Int × β)}
theorem run_mapLen (s : St w R (Mp P k b m :: L)) (ht : P.underlying t = some (.map k e)) (ty : TypeId) : (Builtin.len_ #[t] ty #[.map (some b)]).run P w = .ok (.int .i64 (m.length : Nat)) w := by
  obtain ⟨es, clock, hb, F, hD⟩ := s.mapAt
  have := mp_size hD
  simp [Builtin.len_, run_underlying ht, MapKept.run_getObj_map hb, goInt, Result.andThen, this]
theorem S.mapLen (s : St w R L) (hi : L[i]? = some (Mp P k b (mE enc ms))) (ht : P.underlying t = some (.map k e)) (hx : ev r x = .map (some b)) (hw : wantR ⟨some d, .call { callee := .builtin .len, args := #[x], argTypes := #[t] }, ty, pos, aft, g⟩ ops r = true)
    (h : WS P ops Q os (upd r d (.int .i64 (ms.length : Nat))) w) : WS P ops Q (⟨some d, .call { callee := .builtin .len, args := #[x], argTypes := #[t] }, ty, pos, aft, g⟩ :: os) r w :=
  S.len (t := t) (by rw [← mE_len (enc := enc) (m := ms)]; exact run_mapLen (s.at_ hi) ht ty) hx hw h
theorem Q.mapLen {K : Regs → Prop} (hi : L[i]? = some (Mp P k b (mE enc ms))) (ht : P.underlying t = some (.map k e)) (hx : ev r x = .map (some b)) (hw : wantR ⟨some d, .call { callee := .builtin .len, args := #[x], argTypes := #[t] }, ty, pos, aft, g⟩ ops r = true)
    (h : WQ P ops (fun w => St w R L) K os (upd r d (.int .i64 (ms.length : Nat)))) : WQ P ops (fun w => St w R L) K (⟨some d, .call { callee := .builtin .len, args := #[x], argTypes := #[t] }, ty, pos, aft, g⟩ :: os) r :=
  Q.len (t := t) (fun w s => by rw [← mE_len (enc := enc) (m := ms)]; exact run_mapLen (s.at_ hi) ht ty) hx hw h
end
/-! ## rows of structs of longs -/
structure Five where
  a : Int
  b : Int
  c : Int
  d : Int
  e : Int
def fiveE (x : Five) : List Value := [.int .i64 x.a, .int .i64 x.b, .int .i64 x.c, .int .i64 x.d, .int .i64 x.e]
def Five.ok (x : Five) : Prop := wfI .i64 x.a ∧ wfI .i64 x.b ∧ wfI .i64 x.c ∧ wfI .i64 x.d ∧ wfI .i64 x.e
open Go.ChangeShapes Go.WideShapes in
theorem TR.fives {H : Type} {enc : TypeId × Value → H} {P : Program} {W : World} {t e : TypeId} {fs : Array Field} {cs : List Value} {d : DataW H} (hu : P.underlying t = some (.slice e)) (he : P.underlying e = some (.struct fs)) {f0 f1 f2 f3 f4 : Field} (hfs : fs = #[f0, f1, f2, f3, f4])
    (h0 : P.underlying f0.type = some (.int .i64)) (h1 : P.underlying f1.type = some (.int .i64)) (h2 : P.underlying f2.type = some (.int .i64)) (h3 : P.underlying f3.type = some (.int .i64)) (h4 : P.underlying f4.type = some (.int .i64))
    (o0 : f0.offset = 0) (o1 : f1.offset = 1) (o2 : f2.offset = 2) (o3 : f3.offset = 3) (o4 : f4.offset = 4) (c0 : P.cellsOf f0.type = 1) (c1 : P.cellsOf f1.type = 1) (c2 : P.cellsOf f2.type = 1) (c3 : P.cellsOf f3.type = 1) (c4 : P.cellsOf f4.type = 1) (ct : P.cellsOf e = 5)
    (h : TR enc P W t cs d) (hs : SZ P t d) : ∃ v, ∃ xs : List Five, cs = [v] ∧ Ro (knAll W) fiveE 5 v xs ∧ (∀ x ∈ xs, x.ok) ∧ xs.length * P.bytesOf e ≤ reachBytes := by
  subst hfs
  obtain ⟨v, xs, g1, g2, g3, g4⟩ := h.slice hu (by rw [ct]; decide) hs
  rw [ct] at g2
  obtain ⟨ys, g5, g6⟩ := B.typed (e2 := fiveE) (fun y _ => y.ok) xs (fun x hx => by
    obtain ⟨q, qs⟩ := g3 x hx
    have hl := q.cells he
    obtain ⟨d0, p0, _⟩ := q.field he qs 0 (f := f0) rfl
    obtain ⟨d1, p1, _⟩ := q.field he qs 1 (f := f1) rfl
    obtain ⟨d2, p2, _⟩ := q.field he qs 2 (f := f2) rfl
    obtain ⟨d3, p3, _⟩ := q.field he qs 3 (f := f3) rfl
    obtain ⟨d4, p4, _⟩ := q.field he qs 4 (f := f4) rfl
    obtain ⟨a, h5, h6⟩ := p0.int h0
    obtain ⟨b, h7, h8⟩ := p1.int h1
    obtain ⟨c, h9, h10⟩ := p2.int h2
    obtain ⟨dd, h11, h12⟩ := p3.int h3
    obtain ⟨ee, h13, h14⟩ := p4.int h4
    rw [o0, c0] at h5
    rw [o1, c1] at h7
    rw [o2, c2] at h9
    rw [o3, c3] at h11
    rw [o4, c4] at h13
    rw [ct] at hl
    match hq : x.1, hl with
    | [x0, x1, x2, x3, x4], _ =>
      rw [hq] at h5 h7 h9 h11 h13
      simp at h5 h7 h9 h11 h13
      exact ⟨⟨a, b, c, dd, ee⟩, by rw [h5, h7, h9, h11, h13]; rfl, h6, h8, h10, h12, h14⟩)
  have hl : xs.length = ys.length := by have := congrArg List.length g5; simpa using this
  exact ⟨v, ys, g1, g2.typed g5, fun y hy => let ⟨_, _, q⟩ := g6 y hy; q, by rw [← hl]; exact g4⟩
end Go.Proofs.Ytiffedgmageiaaa.B

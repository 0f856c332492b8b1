/- Structs made of parts, their fields, results that lie in memory, the greater and the lesser of two. -/
import Derived.Test.YtiffedgmageiaaaDraw
namespace Go.Proofs.Ytiffedgmageiaaa.B
set_option linter.unusedVariables false
set_option linter.unusedSimpArgs false

/-- The places of values, one behind the other. -/
def plc (place : Nat → Option (Nat × Nat)) : Nat → Nat → List Value → Prop
  | _, _, [] => True
  | k, off, v :: vs => place k = some (off, v.cells.size) ∧ plc place (k + 1) (off + v.cells.size) vs
theorem fill_plc (place : Nat → Option (Nat × Nat)) : ∀ (vs : List Value) (k off : Nat) (cs : Array Value), plc place k off vs → off + (vs.flatMap (fun v => v.cells.toList)).length ≤ cs.size →
    ∃ out, Instr.fill place cs (en k vs) = some out ∧ out.toList = cs.toList.take off ++ vs.flatMap (fun v => v.cells.toList) ++ cs.toList.drop (off + (vs.flatMap (fun v => v.cells.toList)).length)
  | [], k, off, cs, _, _ => ⟨cs, rfl, by simp⟩
  | v :: vs, k, off, cs, ⟨hp, hps⟩, h => by
    rw [List.flatMap_cons, List.length_append, Array.length_toList] at h
    have hf := fold_set off v.cells.toList 0 cs (by simp only [Nat.add_zero, Array.length_toList]; omega)
    simp only [Nat.add_zero, Array.length_toList] at hf
    have hz : v.cells.zipIdx.foldl (fun cs (p : Value × Nat) => cs.setIfInBounds (off + p.2) p.1) cs = (v.cells.toList.zipIdx.foldl (fun cs (p : Value × Nat) => cs.setIfInBounds (off + p.2) p.1) cs) := by
      rw [← Array.foldl_toList, Array.toList_zipIdx]
    have hsz : ((v.cells.toList.zipIdx.foldl (fun cs (p : Value × Nat) => cs.setIfInBounds (off + p.2) p.1) cs)).size = cs.size := by
      rw [← Array.length_toList, hf]
      simp only [List.length_append, List.length_take, List.length_drop, Array.length_toList]
      omega
    obtain ⟨out, h1, h2⟩ := fill_plc place vs (k + 1) (off + v.cells.size) _ hps (by rw [hsz]; omega)
    refine ⟨out, ?_, ?_⟩
    · simp only [en, Instr.fill, hp]
      rw [if_neg (by simp only [bne_self_eq_false, Bool.false_or, decide_eq_true_eq, ne_eq, not_true_eq_false, decide_false]; omega)]
      have : (Array.foldl (fun cs x => match x with | (c, j) => cs.setIfInBounds (off + j) c) cs v.cells.zipIdx) = v.cells.toList.zipIdx.foldl (fun cs (p : Value × Nat) => cs.setIfInBounds (off + p.2) p.1) cs := hz
      rw [this]
      exact h1
    · rw [h2, hf, List.flatMap_cons, List.length_append, Array.length_toList (xs := v.cells)]
      have hl1 : (List.take off cs.toList ++ v.cells.toList).length = off + v.cells.size := by
        rw [List.length_append, List.length_take, Array.length_toList, Array.length_toList, Nat.min_eq_left (by omega)]
      rw [List.take_append, hl1, Nat.sub_self, List.take_zero, List.append_nil, List.take_of_length_le (by omega)]
      rw [show off + (v.cells.size + (List.flatMap (fun v => v.cells.toList) vs).length) = (off + v.cells.size) + (List.flatMap (fun v => v.cells.toList) vs).length by omega, List.drop_append, hl1, Nat.add_sub_cancel_left, List.drop_eq_nil_of_le (by omega), List.nil_append, List.drop_drop]
      simp only [List.append_assoc]
/-- The same, as a check. -/
def plcB : List (Nat × Nat) → Nat → List Nat → Bool
  | [], _, [] => true
  | (o, n) :: ps, off, s :: ss => Nat.beq o off && (Nat.beq n s && plcB ps (off + s) ss)
  | _, _, _ => false
theorem plc_of : ∀ (ps : List (Nat × Nat)) (vs : List Value) (k off : Nat) (place : Nat → Option (Nat × Nat)), (∀ j, place (k + j) = ps[j]?) → plcB ps off (vs.map fun v => v.cells.size) = true → plc place k off vs
  | [], [], _, _, _, _, _ => trivial
  | (o, n) :: ps, v :: vs, k, off, place, hp, h => by
    simp only [List.map_cons, plcB, Bool.and_eq_true] at h
    obtain ⟨h1, h2, h3⟩ := h
    have h1 := Nat.eq_of_beq_eq_true h1
    have h2 := Nat.eq_of_beq_eq_true h2
    subst h1; subst h2
    refine ⟨by have := hp 0; simpa using this, plc_of ps vs (k + 1) _ place (fun j => ?_) h3⟩
    have := hp (j + 1)
    rw [show k + (j + 1) = k + 1 + j by omega] at this
    simpa using this
  | [], _ :: _, _, _, _, _, h => by cases h
  | _ :: _, [], _, _, _, _, h => by cases h

section
variable {P : Program} {ops : Array Oper} {Q : Exit → Regs → World → Prop} {r : Regs} {w : World} {os : List Oper}
  {d : Nat} {ty : TypeId} {pos : String} {aft : Array Edge} {g : Option (Nat × Bool)} {R : Kn} {L : List HP}
theorem run_places (w : World) : ∀ (fs : List Field) (ps : List (Nat × Nat)), (fs.map fun f => (P.info? f.type).map fun i => (f.offset, i.size)) = ps.map some →
    (fs.mapM (m := Sem) fun f => do pure (f.offset, ← sizeOf f.type)).run P w = .ok ps w
  | [], ps, h => by
    cases ps with
    | nil => rfl
    | cons _ _ => simp at h
  | f :: fs, ps, h => by
    cases ps with
    | nil => simp at h
    | cons p ps =>
      simp only [List.map_cons, List.cons.injEq] at h
      obtain ⟨h1, h2⟩ := h
      cases hi : P.info? f.type with
      | none => rw [hi] at h1; cases h1
      | some i =>
        rw [hi] at h1
        simp only [Option.map_some, Option.some.injEq] at h1
        have hs : (sizeOf f.type).run P w = .ok i.size w := by simp [sizeOf, typeInfo, Sem.run_bind, hi]
        rw [List.mapM_cons]
        simp only [Sem.run_bind, bind_assoc, pure_bind, hs, Result.andThen_ok, run_places w fs ps h2, Sem.run_pure, h1]
/-- A struct of which all fields are told, in order. -/
theorem S.buildStruct {t : TypeId} {fs : Array Field} {z : Value} {n b : Nat} {parts : Array (Nat × Operand)} (vs : List Value) (ps : List (Nat × Nat)) {cs : List Value} (ht : P.underlying t = some (.struct fs)) (hI : TI P t z n b) (hzn : Nat.beq z.cells.size n = true)
    (hps : (fs.toList.map fun f => (P.info? f.type).map fun i => (f.offset, i.size)) = ps.map some) (hpi : parts.toList.map (·.1) = List.range' 0 parts.toList.length) (hpl : (parts.toList.map fun q => ev r q.2) = vs)
    (hB : plcB ps 0 (vs.map fun v => v.cells.size) = true) (hc : vs.flatMap (fun v => v.cells.toList) = cs) (hn : Nat.beq cs.length n = true)
    (hw : wantR ⟨some d, .build t parts, ty, pos, aft, g⟩ ops r = true) (h : WS P ops Q os (upd r d (.agg cs.toArray)) w) : WS P ops Q (⟨some d, .build t parts, ty, pos, aft, g⟩ :: os) r w := by
  subst hpl
  have hzn' := Nat.eq_of_beq_eq_true hzn
  have hn' := Nat.eq_of_beq_eq_true hn
  have hen : (parts.toList.map fun q => (q.1, ev r q.2)) = en 0 (parts.toList.map fun q => ev r q.2) := by
    have := en_of (parts.toList.map fun q => (q.1, ev r q.2)) 0 (by rw [List.map_map, List.length_map]; exact hpi)
    rw [List.map_map] at this
    exact this
  obtain ⟨out, h1, h2⟩ := fill_plc (fun i => ps.toArray[i]?) (parts.toList.map fun q => ev r q.2) 0 0 z.cells (plc_of ps _ 0 0 _ (fun j => by simp) hB) (by rw [hc]; omega)
  have hout : out = cs.toArray := by
    apply Array.ext'
    rw [h2, hc, List.take_zero, List.nil_append, Nat.zero_add, List.drop_eq_nil_of_le (by rw [Array.length_toList]; omega), List.append_nil]
  subst hout
  refine S.val hw ?_ h
  have hpl : (fs.mapM (m := Sem) fun f => do pure (f.offset, ← sizeOf f.type)).run P w = .ok ps.toArray w := by
    rw [Array.mapM_eq_mapM_toList]
    simp only [map_eq_pure_bind, Sem.run_bind, run_places w fs.toList ps hps, Result.andThen_ok, Sem.run_pure]
  simp only [execOp, Instr.build, Sem.run_bind, run_zero hI, Result.andThen_ok, run_underlying ht, hpl, Array.toList_map, hen, h1, Sem.run_pure]
/-- A struct or an array of noughts. -/
theorem S.buildZero {t : TypeId} {z : Value} {n b : Nat} {cs : Array Value} (hI : TI P t z n b) (hz : z.cells = cs)
    (hrun : (Instr.build t #[]).run P w = .ok (.agg cs) w)
    (hw : wantR ⟨some d, .build t #[], ty, pos, aft, g⟩ ops r = true) (h : WS P ops Q os (upd r d (.agg cs)) w) : WS P ops Q (⟨some d, .build t #[], ty, pos, aft, g⟩ :: os) r w := by
  refine S.val hw ?_ h
  simp only [execOp, List.map_toArray, List.map_nil, Sem.run_bind, hrun, Result.andThen_ok, Sem.run_pure]
/-- .. whatever is told of it: as the kernel reckons it. -/
theorem S.buildK {t : TypeId} {parts : Array (Nat × Operand)} {pl : List (Nat × Value)} {v : Value} (hpl : (parts.toList.map fun q => (q.1, ev r q.2)) = pl) (hrun : (Instr.build t pl.toArray).run P w = .ok v w)
    (hw : wantR ⟨some d, .build t parts, ty, pos, aft, g⟩ ops r = true) (h : WS P ops Q os (upd r d v) w) : WS P ops Q (⟨some d, .build t parts, ty, pos, aft, g⟩ :: os) r w := by
  subst hpl
  refine S.val hw ?_ h
  have e : (parts.map fun (x : Nat × Operand) => (x.1, ev r x.2)) = (parts.toList.map fun q => (q.1, ev r q.2)).toArray := by
    apply Array.ext'; simp
  have e2 : (parts.map fun x => match x with | (i, x) => (i, ev r x)) = (parts.map fun (x : Nat × Operand) => (x.1, ev r x.2)) := rfl
  simp only [execOp, e2, e, Sem.run_bind, hrun, Result.andThen_ok, Sem.run_pure]
theorem S.field1 {t : TypeId} {fs : Array Field} {x : Operand} {f : Nat} {fd : Field} {td : TypeDesc} {cs : Array Value} {v : Value} (ht : P.underlying t = some (.struct fs)) (hf : fs[f]? = some fd) (htf : P.underlying fd.type = some td) (hta : agB (some td) = false)
    (hx : ev r x = .agg cs) (hv : cs[fd.offset]? = some v) (hw : wantR ⟨some d, .field t x f, ty, pos, aft, g⟩ ops r = true) (h : WS P ops Q os (upd r d v) w) : WS P ops Q (⟨some d, .field t x f, ty, pos, aft, g⟩ :: os) r w := by
  refine S.val hw ?_ h
  simp only [execOp, hx, Instr.field, Sem.run_bind, run_underlying ht, Result.andThen_ok, hf, asAgg, pure_bind, part, run_isAgg htf, hta, Bool.false_eq_true, if_false, hv, Sem.run_pure]
theorem S.max2 {x y : Operand} {k k' : IntKind} {m n : Int} {at_ : Array TypeId} (hx : ev r x = .int k m) (hy : ev r y = .int k' n)
    (hw : wantR ⟨some d, .call { callee := .builtin .max, args := #[x, y], argTypes := at_ }, ty, pos, aft, g⟩ ops r = true) (h : WS P ops Q os (upd r d (.int k (max m n))) w) :
    WS P ops Q (⟨some d, .call { callee := .builtin .max, args := #[x, y], argTypes := at_ }, ty, pos, aft, g⟩ :: os) r w := by
  refine S.val hw ?_ h
  have e : (if n > m then n else m) = max m n := by
    by_cases h : n > m
    · rw [if_pos h]; omega
    · rw [if_neg h]; omega
  simp only [execOp, resolve, invoke, builtin, List.map_toArray, List.map_cons, List.map_nil, pure_bind, hx, hy, Builtin.max_, List.foldlM_cons, List.foldlM_nil, Builtin.max2, e]
  rfl
theorem S.min2 {x y : Operand} {k k' : IntKind} {m n : Int} {at_ : Array TypeId} (hx : ev r x = .int k m) (hy : ev r y = .int k' n)
    (hw : wantR ⟨some d, .call { callee := .builtin .min, args := #[x, y], argTypes := at_ }, ty, pos, aft, g⟩ ops r = true) (h : WS P ops Q os (upd r d (.int k (min m n))) w) :
    WS P ops Q (⟨some d, .call { callee := .builtin .min, args := #[x, y], argTypes := at_ }, ty, pos, aft, g⟩ :: os) r w := by
  refine S.val hw ?_ h
  have e : (if n < m then n else m) = min m n := by
    by_cases h : n < m
    · rw [if_pos h]; omega
    · rw [if_neg h]; omega
  simp only [execOp, resolve, invoke, builtin, List.map_toArray, List.map_cons, List.map_nil, pure_bind, hx, hy, Builtin.min_, List.foldlM_cons, List.foldlM_nil, Builtin.min2, e]
  rfl
theorem run_loadBA {t : TypeId} {td : TypeDesc} {z : Value} {n b' i b off : Nat} {c : Array Value} {t' : TypeId} {fz : Nat × Nat} {cs : List Value} (s : St w R L) (hi : L[i]? = some (blk b (.cells c t' fz)))
    (ht : P.underlying t = some td) (hta : agB (some td) = true) (hI : TI P t z n b') (hn : cs.length = n) (hv : (c.toList.drop off).take n = cs) : (loadVar t ⟨b, off, none⟩).run P w = .ok (.agg cs.toArray) w := by
  refine run_loadAgg ht hta hI hn ?_
  intro j u hu
  rw [Addr.add_none]
  refine cell_of_heap (s.at_ hi).blkAt ?_
  rw [← hv, List.getElem?_take, List.getElem?_drop] at hu
  split at hu
  · rw [← Array.getElem?_toList]; exact hu
  · cases hu
theorem run_loadB {t : TypeId} {td : TypeDesc} {i b off : Nat} {c : Array Value} {t' : TypeId} {fz : Nat × Nat} {v : Value} (s : St w R L) (hi : L[i]? = some (blk b (.cells c t' fz)))
    (ht : P.underlying t = some td) (hta : agB (some td) = false) (hv : c[off]? = some v) : (loadVar t ⟨b, off, none⟩).run P w = .ok v w := by
  simp only [loadVar, Sem.run_bind, run_isAgg ht, hta, Result.andThen_ok, Bool.false_eq_true, if_false]
  simp [load, Sem.run, cell_of_heap (s.at_ hi).blkAt hv]
end
end Go.Proofs.Ytiffedgmageiaaa.B

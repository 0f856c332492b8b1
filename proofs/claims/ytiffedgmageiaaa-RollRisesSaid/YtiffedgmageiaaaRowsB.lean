/- Rows: those that never change, those of one's own that grow, what is appended, cut off, made of parts. -/
import Derived.Test.YtiffedgmageiaaaMemOps
import Derived.Laws.Append
namespace Go.Proofs.Ytiffedgmageiaaa.B
set_option linter.unusedVariables false
set_option linter.unusedSimpArgs false
open Go.RowKit

theorem Addr.add_add (a : Addr) (m n : Nat) : (a.add m).add n = a.add (m + n) := by
  unfold Addr.add
  by_cases hm : m = 0
  · subst hm; simp
  · by_cases hn : n = 0
    · subst hn; simp
    · have : m + n ≠ 0 := by omega
      simp only [hm, hn, this, if_false, Nat.add_assoc]
/-- A row of one's own: from the head of its block, so many elements, their cells; it may have room behind them. -/
def Os (e : TypeId) (n : Nat) (v : Value) (len : Nat) (cs : List Value) : HP := fun h =>
  cs.length = len * n ∧ ((v = .slice none 0 0 ∧ len = 0) ∨
    ∃ b cap cur, v = .slice (some ⟨b, 0, none⟩) len cap ∧ h b = some (.cells cur e (0, 0)) ∧ len ≤ cap ∧ cap ≤ maxLen ∧ cur.size = cap * n ∧ cur.toList.take (len * n) = cs)
/-- ..: its elements. -/
def Ow (e : TypeId) {α : Type} (enc : α → List Value) (n : Nat) (v : Value) (xs : List α) : HP := Os e n v xs.length (xs.flatMap enc)

/-- What is appended: so many elements, these cells. -/
structure Src (P : Program) (n : Nat) (w : World) (x : Value) (m : Nat) (news : List Value) : Prop where
  len : ∀ k, (Builtin.lenOf x).run P { w with drawn := k } = .ok m { w with drawn := k }
  cells : ∀ k, (Builtin.firstCells n m x).run P { w with drawn := k } = .ok news.toArray { w with drawn := k }
  size : news.length = m * n
def intB : TypeDesc → Bool | .int _ => true | _ => false

section
variable {P : Program} {w : World} {R : Kn} {L : List HP}

theorem cell_drawn (w : World) (k : Nat) (a : Addr) : ({ w with drawn := k } : World).cell? a = w.cell? a := rfl
theorem Src.slice {n : Nat} {a : Addr} {m c : Nat} {news : List Value} (hl : news.length = m * n) (h : ∀ j u, news[j]? = some u → w.cell? (a.add j) = some u) : Src P n w (.slice (some a) m c) m news :=
  ⟨fun _ => rfl, fun k => run_firstCells_some (P := P) _ n m a m c news hl (fun j u hu => (cell_drawn w k _).trans (h j u hu)), hl⟩
theorem Src.nil {n : Nat} : Src P n w (.slice none 0 0) 0 [] := ⟨fun _ => rfl, fun _ => run_firstCells_none (P := P) _ n 0 0 0, by simp⟩
theorem flat_get {α : Type} {enc : α → List Value} {n : Nat} : ∀ (xs : List α), (∀ x ∈ xs, (enc x).length = n) → ∀ j u, (xs.flatMap enc)[j]? = some u → 0 < n → ∃ x, xs[j / n]? = some x ∧ (enc x)[j % n]? = some u := by
  intro xs
  induction xs with
  | nil => intro _ j u h; simp at h
  | cons x xs ih =>
    intro he j u h hn
    have hx := he x (List.mem_cons_self ..)
    rw [List.flatMap_cons] at h
    by_cases hj : j < n
    · rw [List.getElem?_append_left (by omega)] at h
      exact ⟨x, by simp [Nat.div_eq_of_lt hj], by rw [Nat.mod_eq_of_lt hj]; exact h⟩
    · rw [List.getElem?_append_right (by omega), hx] at h
      obtain ⟨y, h1, h2⟩ := ih (fun y hy => he y (List.mem_cons_of_mem _ hy)) (j - n) u h hn
      refine ⟨y, ?_, ?_⟩
      · have : j / n = (j - n) / n + 1 := by
          rw [← Nat.add_div_right _ hn, Nat.sub_add_cancel (by omega)]
        rw [this, List.getElem?_cons_succ]; exact h1
      · rw [← Nat.mod_eq_sub_mod (by omega)] at h2; exact h2
theorem flat_at {α : Type} {enc : α → List Value} {n : Nat} : ∀ (xs : List α), (∀ x ∈ xs, (enc x).length = n) → ∀ i x, xs[i]? = some x → ∀ j u, (enc x)[j]? = some u → (xs.flatMap enc)[i * n + j]? = some u := by
  intro xs
  induction xs with
  | nil => intro _ i x h; simp at h
  | cons y ys ih =>
    intro he i x h j u hu
    have hy := he y (List.mem_cons_self ..)
    rw [List.flatMap_cons]
    cases i with
    | zero =>
      simp only [List.getElem?_cons_zero, Option.some.injEq] at h
      subst h
      have := (List.getElem?_eq_some_iff.1 hu).1
      rw [Nat.zero_mul, Nat.zero_add, List.getElem?_append_left this]; exact hu
    | succ i =>
      rw [List.getElem?_append_right (by rw [hy, Nat.succ_mul]; omega), hy]
      have : (i + 1) * n + j - n = i * n + j := by rw [Nat.succ_mul]; omega
      rw [this]
      exact ih (fun z hz => he z (List.mem_cons_of_mem _ hz)) i x (by simpa using h) j u hu
theorem flat_len {α : Type} {enc : α → List Value} {n : Nat} : ∀ (xs : List α), (∀ x ∈ xs, (enc x).length = n) → (xs.flatMap enc).length = xs.length * n := by
  intro xs
  induction xs with
  | nil => intro _; simp
  | cons x xs ih =>
    intro he
    rw [List.flatMap_cons, List.length_append, he x (List.mem_cons_self ..), ih (fun y hy => he y (List.mem_cons_of_mem _ hy)), List.length_cons, Nat.succ_mul, Nat.add_comm]
theorem Ro.enc_len {α : Type} {enc : α → List Value} {n : Nat} {v : Value} {xs : List α} (h : Ro R enc n v xs) : ∀ x ∈ xs, (enc x).length = n := by
  intro x hx
  rcases h with ⟨_, rfl⟩ | ⟨a, c, _, _, h3⟩
  · cases hx
  · obtain ⟨i, hi⟩ := List.mem_iff_getElem?.1 hx
    exact (h3 i x hi).1
theorem Src.ro {α : Type} {enc : α → List Value} {n : Nat} {v : Value} {xs : List α} (hn : 0 < n) (s : St w R L) (h : Ro R enc n v xs) : Src P n w v xs.length (xs.flatMap enc) := by
  have hl := flat_len xs h.enc_len
  have hL := h.enc_len
  rcases h with ⟨rfl, rfl⟩ | ⟨a, c, rfl, h2, h3⟩
  · exact Src.nil
  · refine Src.slice hl ?_
    intro j u hu
    obtain ⟨x, h4, h5⟩ := flat_get xs hL j u hu hn
    have := (h3 _ x h4).2 _ u h5
    rw [Nat.mul_comm, Nat.div_add_mod] at this
    exact s.roCell this
theorem Src.blk {i n b off m c : Nat} {cur : Array Value} {e : TypeId} {fz : Nat × Nat} {news : List Value} (s : St w R L) (hi : L[i]? = some (blk b (.cells cur e fz))) (hl : news.length = m * n) (hc : (cur.toList.drop off).take (m * n) = news) :
    Src P n w (.slice (some ⟨b, off, none⟩) m c) m news := by
  refine Src.slice hl ?_
  intro j u hu
  rw [Addr.add_none]
  refine cell_of_heap (s.at_ hi).blkAt ?_
  rw [← hc, List.getElem?_take, List.getElem?_drop] at hu
  split at hu
  · rw [← Array.getElem?_toList]; exact hu
  · cases hu

theorem ro_of {e : TypeId} {n : Nat} {α : Type} {enc : α → List Value} {v : Value} {xs : List α} {h : Hp} (hm : h.le R.mem) (he : ∀ x ∈ xs, (enc x).length = n)
    (hv : (v = .slice none 0 0 ∧ xs.length = 0) ∨ ∃ b cap cur, v = .slice (some ⟨b, 0, none⟩) xs.length cap ∧ h b = some (.cells cur e (0, 0)) ∧ xs.length ≤ cap ∧ cap ≤ maxLen ∧ cur.size = cap * n ∧ cur.toList.take (xs.length * n) = xs.flatMap enc) : Ro R enc n v xs := by
  rcases hv with ⟨rfl, h0⟩ | ⟨b, cap, cur, rfl, hb, hc, _, hs, ht⟩
  · exact .inl ⟨rfl, List.eq_nil_of_length_eq_zero h0⟩
  · refine .inr ⟨⟨b, 0, none⟩, cap, rfl, hc, fun i x hx => ⟨he x (List.mem_of_getElem? hx), fun j u hu => ?_⟩⟩
    have hi := (List.getElem?_eq_some_iff.1 hx).1
    have hjn : j < n := by rw [← he x (List.mem_of_getElem? hx)]; exact (List.getElem?_eq_some_iff.1 hu).1
    have hflat : (xs.flatMap enc)[i * n + j]? = some u := flat_at xs he i x hx j u hu
    rw [Addr.add_none]
    refine ⟨rfl, cur, e, (0, 0), hm _ _ hb, ?_⟩
    rw [← ht, List.getElem?_take] at hflat
    split at hflat
    · rw [Nat.zero_add, ← Array.getElem?_toList]; exact hflat
    · cases hflat
/-- What append does with a row of one's own. -/
theorem append_own {t u ty e : TypeId} {ud : TypeDesc} {z : Value} {n b : Nat} (ht : P.underlying t = some (.slice e)) (hu : P.underlying u = some ud) (hud : intB ud = false) (hi : TI P e z n b) (hzs : z.cells.size = n) (hn : 0 < n)
    {v x : Value} {len m : Nat} {cs news : List Value} (s : St w R (Os e n v len cs :: L)) (hs : Src P n w x m news) (h1 : ∀ u ∈ news, u.oneCell' = true)
    (hmax : len + m ≤ maxLen) (hby : (len + m) * b ≤ 140737488355328) :
    ∃ v' w', (Builtin.append_ #[t, u] ty #[v, x]).run P w = .ok v' w' ∧ St w' R (Os e n v' (len + m) (cs ++ news) :: L) := by
  obtain ⟨i, hi0, hz, hsz, hbs⟩ := hi
  subst hsz; subst hbs
  obtain ⟨h, ⟨hcs, hv⟩, hle, _⟩ := s.see
  have hxl := hs.len w.drawn
  have hx0 := hs.cells w.drawn
  have hx1 := hs.cells (w.drawn + 1)
  have hsm : len + m ≤ 9223372036854775807 := by simp only [maxLen] at hmax; omega
  have hnl : (cs ++ news).length = (len + m) * i.size := by rw [List.length_append, hcs, hs.size, Nat.add_mul]
  have hud' : ∀ k, ud ≠ .int k := fun k e => by subst e; cases hud
  have zs : ∀ k, (Builtin.zeroCells z.cells k).size = k * i.size := fun k => by rw [size_zeroCells, hzs]
  have hmi : (match ud with | .int _ => true | _ => false) = false := by cases ud <;> first | rfl | cases hud
  rcases hv with ⟨rfl, rfl⟩ | ⟨g, cap, cur, rfl, hg0, hlc, hcm, hcz, htk⟩
  · have hcs0 : cs = [] := List.eq_nil_of_length_eq_zero (by simpa using hcs)
    subst hcs0
    by_cases hm : m = 0
    · subst hm
      have hn0 : news = [] := List.eq_nil_of_length_eq_zero (by simpa using hs.size)
      subst hn0
      refine ⟨.slice none 0 0, w, ?_, s⟩
      simp [Builtin.append_, Sem.run_bind, run_underlying ht, run_underlying hu, sizeOf, typeInfo, hi0, hmi, hxl, hx0]
    · have h48 : ¬ (281474976710656 < Builtin.nextslicecap m 0 * i.bytes) := by
        have := growslice_fits (need := m) (old := 0) (by omega) (by simpa using hby); omega
      have h63 : ¬ (9223372036854775807 < (m : Int)) := by omega
      refine ⟨.slice (some ⟨w.heap.size, 0, none⟩) m (grownCap w m 0 e), w.drew.alloc (.cells (news.toArray ++ Builtin.zeroCells z.cells (grownCap w m 0 e - m)) e), ?_, ?_⟩
      · have hx1' : (Builtin.firstCells i.size m x).run P w.drew = .ok news.toArray w.drew := hx1
        simp [Builtin.append_, Sem.run_bind, run_underlying ht, run_underlying hu, sizeOf, typeInfo, zeroValue, hi0, hz, hmi, hxl, hm, h63, h48, Question.forced, run_firstCells_none, hx1', newRow, grownCap]
      · have s1 : St (w.drew.alloc (.cells (news.toArray ++ Builtin.zeroCells z.cells (grownCap w m 0 e - m)) e)) R (blk w.heap.size (.cells (news.toArray ++ Builtin.zeroCells z.cells (grownCap w m 0 e - m)) e (0, 0)) :: L) :=
          (s.drop.drawn (w.drawn + 1)).new _
        refine s1.head ?_
        intro h' hb
        have hge := grownCap_ge w m 0 e
        have hcm := grownCap_le_maxLen w m 0 e (by simpa using hmax)
        refine ⟨by simpa using hs.size, .inr ⟨w.heap.size, grownCap w m 0 e, _, by simp, hb, by simpa using hge, hcm, ?_, ?_⟩⟩
        · simp only [Array.size_append, List.size_toArray, zs, hs.size, ← Nat.add_mul]
          congr 1; omega
        · simp only [Array.toList_append, Nat.zero_add, List.nil_append]
          rw [← hs.size]; exact List.take_left
  · have hgw : w.heap[g]? = some (.cells cur e (0, 0)) := hle _ _ hg0
    by_cases hroom : len + m ≤ cap
    · have hfit : len * i.size + news.length ≤ cur.size := by rw [hs.size, hcz, ← Nat.add_mul]; exact Nat.mul_le_mul_right _ hroom
      have hst := run_storeCells_at P g (len * i.size) e news 0 cur w hgw (by simpa using hfit) h1
      simp only [Nat.add_zero] at hst
      refine ⟨.slice (some ⟨g, 0, none⟩) (len + m) cap, w.setRow g (cur.toList.take (len * i.size) ++ news ++ cur.toList.drop (len * i.size + news.length)).toArray, ?_, ?_⟩
      · simp [Builtin.append_, Sem.run_bind, run_underlying ht, run_underlying hu, sizeOf, typeInfo, hi0, hmi, hxl, hroom, hx0, Addr.add_none, hst]
      · refine s.turn rfl rfl rfl ?_
        intro h' hH hle'
        obtain ⟨_, hv'⟩ := hH
        have hgw2 : h' g = some (.cells cur e (0, 0)) := by
          rcases hv' with ⟨hv1, _⟩ | ⟨g2, cap2, cur2, hv1, hg2, _⟩
          · cases hv1
          · cases hv1
            have := hle' _ _ hg2
            rw [show hp w g = some (.cells cur e (0, 0)) from hgw] at this
            cases this; exact hg2
        refine ⟨fun x => if x = g then some (.cells (cur.toList.take (len * i.size) ++ news ++ cur.toList.drop (len * i.size + news.length)).toArray e (0, 0)) else none, ?_, ?_, ?_, ?_⟩
        · refine ⟨hnl, .inr ⟨g, cap, (cur.toList.take (len * i.size) ++ news ++ cur.toList.drop (len * i.size + news.length)).toArray, rfl, if_pos rfl, hroom, hcm, ?_, ?_⟩⟩
          · simp only [List.size_toArray, List.length_append, List.length_take, List.length_drop, Array.length_toList]
            omega
          · rw [htk, ← hnl]; exact List.take_left
        · intro k o hk
          by_cases e' : k = g
          · subst e'; simp only [if_true] at hk; cases hk; exact setRow_heap w k cur _ e _ hgw
          · simp [e'] at hk
        · intro k o hk
          by_cases e' : k = g
          · subst e'; exact .inl ⟨_, hgw2⟩
          · simp [e'] at hk
        · intro k hk hn'
          have : k ≠ g := fun e' => by subst e'; rw [hgw2] at hn'; cases hn'
          exact setRow_other w g k _ this
    · have holds : ∀ j u, cs[j]? = some u → w.cell? ((⟨g, 0, none⟩ : Addr).add j) = some u := by
        intro j u hu
        rw [Addr.add_none]
        refine cell_of_heap hgw ?_
        rw [← htk, List.getElem?_take] at hu
        split at hu
        · rw [Nat.zero_add, ← Array.getElem?_toList]; exact hu
        · cases hu
      have hold1 : (Builtin.firstCells i.size len (.slice (some ⟨g, 0, none⟩) len cap)).run P w.drew = .ok cs.toArray w.drew :=
        run_firstCells_some (P := P) w.drew i.size len ⟨g, 0, none⟩ len cap cs hcs holds
      have hn1 : ¬ (len + m ≤ cap) := hroom
      have h63 : ¬ (9223372036854775807 < ((len : Int) + (m : Int))) := by omega
      have h48 : ¬ (281474976710656 < Builtin.nextslicecap (len + m) cap * i.bytes) := by
        have := growslice_fits (need := len + m) (old := cap) (by omega) hby; omega
      have hx1' : (Builtin.firstCells i.size m x).run P w.drew = .ok news.toArray w.drew := hx1
      refine ⟨.slice (some ⟨w.heap.size, 0, none⟩) (len + m) (grownCap w (len + m) cap e), w.drew.alloc (.cells (cs.toArray ++ news.toArray ++ Builtin.zeroCells z.cells (grownCap w (len + m) cap e - (len + m))) e), ?_, ?_⟩
      · have hl2 : (Builtin.lenOf (.slice (some ⟨g, 0, none⟩) len cap)).run P w = .ok len w := rfl
        simp [Builtin.append_, Sem.run_bind, run_underlying ht, run_underlying hu, sizeOf, typeInfo, zeroValue, hi0, hz, hmi, hxl, hn1, h63, h48, Question.forced, hold1, hx1', newRow, grownCap]
        congr 2
        apply Array.ext'
        simp
      · have s1 : St (w.drew.alloc (.cells (cs.toArray ++ news.toArray ++ Builtin.zeroCells z.cells (grownCap w (len + m) cap e - (len + m))) e)) R (blk w.heap.size (.cells (cs.toArray ++ news.toArray ++ Builtin.zeroCells z.cells (grownCap w (len + m) cap e - (len + m))) e (0, 0)) :: L) :=
          (s.drop.drawn (w.drawn + 1)).new _
        refine s1.head ?_
        intro h' hb
        have hge := grownCap_ge w (len + m) cap e
        have hcm' := grownCap_le_maxLen w (len + m) cap e hmax
        refine ⟨hnl, .inr ⟨w.heap.size, grownCap w (len + m) cap e, _, rfl, hb, hge, hcm', ?_, ?_⟩⟩
        · simp only [Array.size_append, List.size_toArray, zs, hcs, hs.size, ← Nat.add_mul]
          congr 1; omega
        · simp only [Array.toList_append, List.append_assoc]
          rw [← List.append_assoc, ← hnl]; exact List.take_left

section
variable {ops : Array Oper} {Q : Exit → Regs → World → Prop} {r : Regs} {os : List Oper} {d : Nat} {ty : TypeId} {pos : String} {aft : Array Edge} {g : Option (Nat × Bool)}
/-- 'append' to a row of one's own. -/
theorem S.append {t u e : TypeId} {ud : TypeDesc} {z : Value} {n b i : Nat} {x y : Operand} {v v2 : Value} {len m : Nat} {cs news : List Value} (s : St w R L) (hi : L[i]? = some (Os e n v len cs))
    (ht : P.underlying t = some (.slice e)) (hu : P.underlying u = some ud) (hud : intB ud = false) (hI : TI P e z n b) (hzs : z.cells.size = n) (hn : Nat.blt 0 n = true)
    (hx : ev r x = v) (hy : ev r y = v2) (hs : Src P n w v2 m news) (h1 : ∀ u ∈ news, u.oneCell' = true) (hb : (len + m) * b ≤ 140737488355328 ∧ len + m ≤ 140737488355328)
    (hw : wantR ⟨some d, .call { callee := .builtin .append, args := #[x, y], argTypes := #[t, u] }, ty, pos, aft, g⟩ ops r = true)
    (h : ∀ v' w', St w' R (L.set i (Os e n v' (len + m) (cs ++ news))) → WS P ops Q os (upd r d v') w') :
    WS P ops Q (⟨some d, .call { callee := .builtin .append, args := #[x, y], argTypes := #[t, u] }, ty, pos, aft, g⟩ :: os) r w := by
  subst hx; subst hy
  obtain ⟨v', w', hr, s'⟩ := append_own (ty := ty) ht hu hud hI hzs (by simpa using hn) (s.at_ hi) hs h1 (by simp only [maxLen]; omega) hb.1
  refine WS.op hw ?_
  have hr' : (execOp (ev r) ⟨some d, .call { callee := .builtin .append, args := #[x, y], argTypes := #[t, u] }, ty, pos, aft, g⟩).run P w = .ok (.value v') w' := by
    simp only [execOp, resolve, invoke, builtin, List.map_toArray, List.map_cons, List.map_nil, pure_bind, Sem.run_bind, hr, Result.andThen_ok, Sem.run_pure]
  unfold ROp; rw [hr']
  exact h _ _ (s'.put_ (List.getElem?_eq_some_iff.1 hi).1)

/-- A row made of parts: a block of one's own. -/
theorem S.buildSlice {t e : TypeId} {z : Value} {n b len : Nat} {parts : Array (Nat × Operand)} {pl : List (Nat × Value)} {zs cs : Array Value} (s : St w R L) (ht : P.underlying t = some (.slice e)) (hI : TI P e z n b)
    (hsm : Nat.ble (len * n) 16777216 = true) (hpl : (parts.toList.map fun q => (q.1, ev r q.2)) = pl)
    (hz : (if len * n = 0 then #[] else z.cells) = zs) (hf : Instr.fill (fun i => some (i * n, n)) ((Array.range (len * n)).map (zs[· % zs.size]!)) pl = some cs)
    (hw : wantR ⟨some d, .buildSlice t len parts, ty, pos, aft, g⟩ ops r = true)
    (h : ∀ b w', St w' R (blk b (.cells cs e (0, 0)) :: L) → WS P ops Q os (upd r d (.slice (some ⟨b, 0, none⟩) len len)) w') :
    WS P ops Q (⟨some d, .buildSlice t len parts, ty, pos, aft, g⟩ :: os) r w := by
  subst hpl
  have hsm' : ¬ (len * n > 2 ^ 24) := by have : len * n ≤ 16777216 := by simpa using hsm
                                         omega
  refine WS.op hw ?_
  have hr : (execOp (ev r) ⟨some d, .buildSlice t len parts, ty, pos, aft, g⟩).run P w = .ok (.value (.slice (some ⟨w.heap.size, 0, none⟩) len len)) { w with heap := w.heap.push (.cells cs e) } := by
    simp only [execOp, Instr.buildSlice, Sem.run_bind, run_underlying ht, run_size hI, Result.andThen_ok, if_neg hsm', Array.toList_map]
    by_cases h0 : len * n = 0
    · rw [if_pos h0] at hz ⊢
      subst hz
      simp only [Sem.run_pure, Result.andThen_ok, hf, Sem.run_bind]
      rfl
    · rw [if_neg h0] at hz ⊢
      subst hz
      simp only [Sem.run_bind, run_zero hI, Sem.run_pure, Result.andThen_ok, hf]
      rfl
  unfold ROp; rw [hr]
  exact h _ _ (s.new _)

/-- The address of an element of a row that never changes. -/
theorem S.indexRo {α : Type} {enc : α → List Value} {t e : TypeId} {x y : Operand} {v : Value} {xs : List α} {i : Int} {k : IntKind} {z : Value} {n b : Nat} (hro : Ro R enc n v xs) (ht : P.underlying t = some (.slice e)) (hz : TI P e z n b)
    (hx : ev r x = v) (hy : ev r y = .int k i) (hb : 0 ≤ i ∧ i < xs.length) (hw : wantR ⟨some d, .indexAddr t x y, ty, pos, aft, g⟩ ops r = true)
    (h : ∀ ad u, xs[i.toNat]? = some u → (enc u).length = n → (∀ j c, (enc u)[j]? = some c → roCell R (ad.add j) c) → WS P ops Q os (upd r d (.pointer (some ad))) w) :
    WS P ops Q (⟨some d, .indexAddr t x y, ty, pos, aft, g⟩ :: os) r w := by
  subst hx
  rcases hro with ⟨h1, rfl⟩ | ⟨a, c, h1, h2, h3⟩
  · simp at hb; omega
  · have hlt : i.toNat < xs.length := by omega
    refine S.indexAddr ht hz h1 hy hb hw ?_
    have hu : xs[i.toNat]? = some xs[i.toNat] := by simp [hlt]
    refine h _ _ hu (h3 _ _ hu).1 ?_
    intro j c hc
    have := (h3 _ _ hu).2 j c hc
    rw [Addr.add_add]
    exact this
/-- An element's only cell is read. -/
theorem S.loadRo {t : TypeId} {td : TypeDesc} {x : Operand} {ad : Addr} {cs : List Value} {v : Value} (s : St w R L) (hc : ∀ j c, cs[j]? = some c → roCell R (ad.add j) c) (hv : cs[0]? = some v)
    (ht : P.underlying t = some td) (hta : agB (some td) = false) (hx : ev r x = .pointer (some ad))
    (hw : wantR ⟨some d, .load t x, ty, pos, aft, g⟩ ops r = true) (h : WS P ops Q os (upd r d v) w) : WS P ops Q (⟨some d, .load t x, ty, pos, aft, g⟩ :: os) r w :=
  S.load1 ht hta hx (by have := s.roCell (hc 0 v hv); rwa [show ad.add 0 = ad from rfl] at this) hw h
/-- An element of several cells is read. -/
theorem S.loadRoA {t : TypeId} {td : TypeDesc} {z : Value} {n b : Nat} {x : Operand} {ad : Addr} {cs : List Value} (s : St w R L) (hc : ∀ j c, cs[j]? = some c → roCell R (ad.add j) c) (hl : cs.length = n)
    (ht : P.underlying t = some td) (hta : agB (some td) = true) (hI : TI P t z n b) (hx : ev r x = .pointer (some ad))
    (hw : wantR ⟨some d, .load t x, ty, pos, aft, g⟩ ops r = true) (h : WS P ops Q os (upd r d (.agg cs.toArray)) w) : WS P ops Q (⟨some d, .load t x, ty, pos, aft, g⟩ :: os) r w :=
  S.loadA ht hta hI hx hl (fun j u hu => s.roCell (hc j u hu)) hw h
end

/-- A row of one's own never changes any more. -/
theorem St.freeze {e : TypeId} {n : Nat} {α : Type} {enc : α → List Value} {v : Value} {xs : List α} (s : St w R (Ow e enc n v xs :: L)) (he : ∀ x ∈ xs, (enc x).length = n) :
    ∃ R', R.le R' ∧ Ro R' enc n v xs ∧ St w R' L := by
  obtain ⟨R', h, hle, ⟨hl, hv⟩, hm, s'⟩ := s.keep
  refine ⟨R', hle, ?_, s'⟩
  exact ro_of hm he hv
/-- A row of one's own is lent to whoever reads it. -/
theorem St.lendRow {e : TypeId} {n : Nat} {α : Type} {enc : α → List Value} {v : Value} {xs : List α} (s : St w R (Ow e enc n v xs :: L)) (he : ∀ x ∈ xs, (enc x).length = n) :
    ∃ R1, R.le R1 ∧ Ro R1 enc n v xs ∧ St w R1 L ∧ ∀ w' R2 L', R1.le R2 → St w' R2 L' → ∃ R3, R.le R3 ∧ St w' R3 (Ow e enc n v xs :: L') := by
  obtain ⟨R1, h, hle, ⟨hl, hv⟩, hm, s', back⟩ := s.lend
  exact ⟨R1, hle, ro_of hm he hv, s', back⟩
end
end Go.Proofs.Ytiffedgmageiaaa.B

/- Memory as pieces that are owned, beside what never changes any more. -/
import Derived.Test.YtiffedgmageiaaaBase
namespace Go.Proofs.Ytiffedgmageiaaa.B
set_option linter.unusedVariables false
open Go.RowKit

abbrev Hp := Nat → Option Obj
def Hp.le (h k : Hp) : Prop := ∀ b o, h b = some o → k b = some o
def Hp.dj (h k : Hp) : Prop := ∀ b, h b = none ∨ k b = none
theorem Hp.le.refl (h : Hp) : h.le h := fun _ _ e => e
theorem Hp.le.trans {a b c : Hp} (h : a.le b) (k : b.le c) : a.le c := fun _ _ e => k _ _ (h _ _ e)
theorem Hp.dj.symm {h k : Hp} (d : h.dj k) : k.dj h := fun b => (d b).symm
theorem Hp.dj.mono {h k h' k' : Hp} (d : h.dj k) (a : h'.le h) (b : k'.le k) : h'.dj k' := fun x => by
  rcases d x with e | e
  · left; cases he : h' x with
    | none => rfl
    | some o => rw [a _ _ he] at e; cases e
  · right; cases he : k' x with
    | none => rfl
    | some o => rw [b _ _ he] at e; cases e

/-- A claim on a part of memory. -/
abbrev HP := Hp → Prop
def Sep : List HP → Hp → Prop
  | [], _ => True
  | H :: L, h => ∃ h1 h2, Hp.dj h1 h2 ∧ Hp.le h1 h ∧ Hp.le h2 h ∧ H h1 ∧ Sep L h2

theorem Sep.mono {L : List HP} {h k : Hp} (s : Sep L h) (hk : h.le k) : Sep L k := by
  cases L with
  | nil => trivial
  | cons H L => obtain ⟨h1, h2, d, a, b, c, e⟩ := s; exact ⟨h1, h2, d, a.trans hk, b.trans hk, c, e⟩

def Hp.join (h k : Hp) : Hp := fun b => match h b with | some o => some o | none => k b
theorem Hp.le_join_left (h k : Hp) : h.le (h.join k) := fun b o e => by simp [Hp.join, e]
theorem Hp.le_join_right {h k : Hp} (d : h.dj k) : k.le (h.join k) := fun b o e => by
  rcases d b with x | x
  · simp [Hp.join, x, e]
  · rw [x] at e; cases e
theorem Hp.join_le {h k m : Hp} (a : h.le m) (b : k.le m) : (h.join k).le m := fun x o e => by
  simp only [Hp.join] at e
  split at e
  · rename_i o' he; cases e; exact a _ _ he
  · exact b _ _ e
theorem Hp.join_dj {h k m : Hp} (a : h.dj m) (b : k.dj m) : (h.join k).dj m := fun x => by
  rcases a x with e | e
  · rcases b x with f | f
    · left; simp [Hp.join, e, f]
    · right; exact f
  · right; exact e

theorem Sep.swap {A B : HP} {L : List HP} {h : Hp} (s : Sep (A :: B :: L) h) : Sep (B :: A :: L) h := by
  obtain ⟨h1, h2, d, a, b, c, k1, k2, d', a', b', c', e⟩ := s
  refine ⟨k1, h1.join k2, ?_, a'.trans b, Hp.join_le a (b'.trans b), c', h1, k2, d.mono (Hp.le.refl _) b', Hp.le_join_left _ _, Hp.le_join_right (d.mono (Hp.le.refl _) b'), c, e⟩
  exact (Hp.join_dj (d.mono (Hp.le.refl _) a') d'.symm).symm
theorem Sep.tailMap {A : HP} {L M : List HP} (f : ∀ h, Sep L h → Sep M h) {h : Hp} (s : Sep (A :: L) h) : Sep (A :: M) h := by
  obtain ⟨h1, h2, d, a, b, c, e⟩ := s; exact ⟨h1, h2, d, a, b, c, f _ e⟩
theorem Sep.perm {L M : List HP} (p : L.Perm M) : ∀ h, Sep L h → Sep M h := by
  induction p with
  | nil => intro h s; trivial
  | cons x _ ih => intro h s; exact Sep.tailMap ih s
  | swap x y l => intro h s; exact Sep.swap s
  | trans _ _ ih1 ih2 => intro h s; exact ih2 _ (ih1 _ s)
theorem Sep.drop {A : HP} {L : List HP} {h : Hp} (s : Sep (A :: L) h) : Sep L h := by
  obtain ⟨h1, h2, d, a, b, c, e⟩ := s; exact e.mono b
theorem Sep.head {A B : HP} {L : List HP} {h : Hp} (f : ∀ h, A h → B h) (s : Sep (A :: L) h) : Sep (B :: L) h := by
  obtain ⟨h1, h2, d, a, b, c, e⟩ := s; exact ⟨h1, h2, d, a, b, f _ c, e⟩

/-- What never changes any more, and the world's streams. -/
structure Kn where
  mem : Hp
  os : Os
  tape : Nat → Question → Nat
  output : Array (Nat × ByteArray)
structure Kn.le (R S : Kn) : Prop where
  mem : R.mem.le S.mem
  os : S.os = R.os
  tape : S.tape = R.tape
  output : S.output = R.output
theorem Kn.le.refl (R : Kn) : R.le R := ⟨Hp.le.refl _, rfl, rfl, rfl⟩
theorem Kn.le.trans {R S T : Kn} (a : R.le S) (b : S.le T) : R.le T := ⟨a.mem.trans b.mem, b.os.trans a.os, b.tape.trans a.tape, b.output.trans a.output⟩

def hp (w : World) : Hp := fun b => w.heap[b]?
theorem hp_lt {w : World} {b : Nat} {o : Obj} (h : hp w b = some o) : b < w.heap.size := (Array.getElem?_eq_some_iff.1 h).1

structure St (w : World) (R : Kn) (L : List HP) : Prop where
  know : R.mem.le (hp w)
  os : w.os = R.os
  tape : w.tape = R.tape
  output : w.output = R.output
  own : ∃ h, Hp.le h (hp w) ∧ Hp.dj R.mem h ∧ Sep L h

section
variable {w w' : World} {R : Kn} {L M : List HP} {H : HP}
theorem St.perm (s : St w R L) (p : L.Perm M) : St w R M :=
  let ⟨h, a, b, c⟩ := s.own; ⟨s.know, s.os, s.tape, s.output, h, a, b, Sep.perm p _ c⟩
theorem St.drop (s : St w R (H :: L)) : St w R L :=
  let ⟨h, a, b, c⟩ := s.own; ⟨s.know, s.os, s.tape, s.output, h, a, b, c.drop⟩
theorem St.head {B : HP} (f : ∀ h, H h → B h) (s : St w R (H :: L)) : St w R (B :: L) :=
  let ⟨h, a, b, c⟩ := s.own; ⟨s.know, s.os, s.tape, s.output, h, a, b, c.head f⟩
theorem St.swap {A B : HP} (s : St w R (A :: B :: L)) : St w R (B :: A :: L) :=
  let ⟨h, a, b, c⟩ := s.own; ⟨s.know, s.os, s.tape, s.output, h, a, b, c.swap⟩
/-- What the first piece says of the world. -/
theorem St.see (s : St w R (H :: L)) : ∃ h, H h ∧ Hp.le h (hp w) ∧ Hp.dj R.mem h := by
  obtain ⟨h, a, b, h1, h2, d, c, e, f, g⟩ := s.own
  exact ⟨h1, f, c.trans a, b.mono (Hp.le.refl _) c⟩
/-- The first piece turned, the world beside it as it was. -/
theorem St.turn {H' : HP} (s : St w R (H :: L)) (hos : w'.os = w.os) (htape : w'.tape = w.tape) (hout : w'.output = w.output)
    (f : ∀ h, H h → Hp.le h (hp w) → ∃ h', H' h' ∧ Hp.le h' (hp w') ∧ (∀ b o, h' b = some o → (∃ o', h b = some o') ∨ w.heap.size ≤ b) ∧
      (∀ b, b < w.heap.size → h b = none → hp w' b = hp w b)) : St w' R (H' :: L) := by
  obtain ⟨h, a, b, h1, h2, d, c, e, g, k⟩ := s.own
  obtain ⟨h', f1, f2, f3, f4⟩ := f h1 g (c.trans a)
  have hk : R.mem.le (hp w') := fun x o hx => by
    rw [f4 x (hp_lt (s.know _ _ hx)) ?_]
    · exact s.know _ _ hx
    · rcases b x with y | y
      · rw [y] at hx; cases hx
      · cases hy : h1 x with
        | none => rfl
        | some o' => rw [c _ _ hy] at y; cases y
  have h2w : Hp.le h2 (hp w') := fun x o hx => by
    have h2x := a _ _ (e _ _ hx)
    rw [f4 x (hp_lt h2x) ?_]
    · exact h2x
    · rcases d x with y | y
      · exact y
      · rw [y] at hx; cases hx
  have dj' : Hp.dj h' h2 := fun x => by
    cases hx : h' x with
    | none => exact .inl rfl
    | some o =>
      right
      rcases f3 x o hx with ⟨o', ho⟩ | hge
      · rcases d x with y | y
        · rw [y] at ho; cases ho
        · exact y
      · cases hy : h2 x with
        | none => rfl
        | some o2 => have := hp_lt (a _ _ (e _ _ hy)); omega
  have djR : Hp.dj R.mem h' := fun x => by
    cases hx : h' x with
    | none => exact .inr rfl
    | some o =>
      left
      rcases f3 x o hx with ⟨o', ho⟩ | hge
      · rcases b x with y | y
        · exact y
        · rw [c _ _ ho] at y; cases y
      · cases hy : R.mem x with
        | none => rfl
        | some o2 => have := hp_lt (s.know _ _ hy); omega
  refine ⟨hk, hos.trans s.os, htape.trans s.tape, hout.trans s.output, h'.join h2, Hp.join_le f2 h2w, ?_, h', h2, dj', Hp.le_join_left _ _, Hp.le_join_right dj', f1, k⟩
  exact (Hp.join_dj djR.symm (b.mono (Hp.le.refl _) e).symm).symm
/-- Something to own from nothing. -/
theorem St.emp (s : St w R L) : St w R ((fun _ => True) :: L) := by
  obtain ⟨h, a, b, c⟩ := s.own
  exact ⟨s.know, s.os, s.tape, s.output, h, a, b, (fun _ => none), h, fun _ => .inl rfl, (fun _ _ e => by cases e), Hp.le.refl _, trivial, c⟩
theorem St.make {H' : HP} (s : St w R L) (hos : w'.os = w.os) (htape : w'.tape = w.tape) (hout : w'.output = w.output)
    (f : ∃ h', H' h' ∧ Hp.le h' (hp w') ∧ (∀ b o, h' b = some o → w.heap.size ≤ b)) (hold : ∀ b, b < w.heap.size → hp w' b = hp w b) : St w' R (H' :: L) := by
  obtain ⟨h, a, b, c⟩ := s.own
  have s1 : St w R ((fun h => h = fun _ => none) :: L) :=
    ⟨s.know, s.os, s.tape, s.output, h, a, b, (fun _ => none), h, fun _ => .inl rfl, (fun _ _ e => by cases e), Hp.le.refl _, rfl, c⟩
  refine s1.turn hos htape hout ?_
  intro h0 e _
  obtain ⟨h', f1, f2, f3⟩ := f
  exact ⟨h', f1, f2, fun b o e => .inr (f3 b o e), fun b hb _ => hold b hb⟩
/-- Only new things, and draws. -/
theorem St.ext (s : St w R L) (hos : w'.os = w.os) (htape : w'.tape = w.tape) (hout : w'.output = w.output) (hold : ∀ b, b < w.heap.size → hp w' b = hp w b) : St w' R L :=
  (s.make (H' := fun _ => True) hos htape hout ⟨fun _ => none, trivial, fun _ _ e => by (cases e), fun _ _ e => by (cases e)⟩ hold).drop
theorem St.below (s : St w R L) (h : Below w.heap.size w w') : St w' R L :=
  s.ext h.os h.tape h.output fun b hb => h.block b hb
/-- What is owned first never changes any more. -/
theorem St.keep (s : St w R (H :: L)) : ∃ R' h, R.le R' ∧ H h ∧ Hp.le h R'.mem ∧ St w R' L := by
  obtain ⟨h, a, b, h1, h2, d, c, e, g, k⟩ := s.own
  have d1 : Hp.dj R.mem h1 := b.mono (Hp.le.refl _) c
  refine ⟨{ R with mem := R.mem.join h1 }, h1, ⟨Hp.le_join_left _ _, rfl, rfl, rfl⟩, g, Hp.le_join_right d1, ?_⟩
  exact ⟨Hp.join_le s.know (c.trans a), s.os, s.tape, s.output, h2, e.trans a, Hp.join_dj (b.mono (Hp.le.refl _) e) d, k⟩
/-- What is owned first is lent: it doesn't change till it is taken back. -/
theorem St.lend (s : St w R (H :: L)) : ∃ R1 h, R.le R1 ∧ H h ∧ Hp.le h R1.mem ∧ St w R1 L ∧
    ∀ w' R2 L', R1.le R2 → St w' R2 L' → ∃ R3, R.le R3 ∧ St w' R3 (H :: L') := by
  obtain ⟨h, a, b, h1, h2, d, c, e, g, k⟩ := s.own
  have d1 : Hp.dj R.mem h1 := b.mono (Hp.le.refl _) c
  refine ⟨{ R with mem := R.mem.join h1 }, h1, ⟨Hp.le_join_left _ _, rfl, rfl, rfl⟩, g, Hp.le_join_right d1, ?_, ?_⟩
  · exact ⟨Hp.join_le s.know (c.trans a), s.os, s.tape, s.output, h2, e.trans a, Hp.join_dj (b.mono (Hp.le.refl _) e) d, k⟩
  · intro w' R2 L' hle s'
    obtain ⟨k0, ka, kb, kc⟩ := s'.own
    have hR : R.mem.le R2.mem := (Hp.le_join_left _ _).trans hle.mem
    have h1R : h1.le R2.mem := (Hp.le_join_right d1).trans hle.mem
    let m : Hp := fun b => match h1 b with | some _ => none | none => R2.mem b
    have mle : m.le R2.mem := fun x o hx => by
      simp only [m] at hx; split at hx
      · cases hx
      · exact hx
    have mdj : Hp.dj m h1 := fun x => by
      cases hx : h1 x with
      | none => exact .inr rfl
      | some o => left; simp [m, hx]
    refine ⟨{ R2 with mem := m }, ⟨fun x o hx => ?_, hle.os, hle.tape, hle.output⟩, mle.trans s'.know, s'.os, s'.tape, s'.output, h1.join k0, Hp.join_le (h1R.trans s'.know) ka, ?_, h1, k0, ?_, Hp.le_join_left _ _, Hp.le_join_right ?_, g, kc⟩
    · have : h1 x = none := by rcases d1 x with y | y
                               · rw [y] at hx; cases hx
                               · exact y
      simp only [m, this]; exact hR _ _ hx
    · exact (Hp.join_dj mdj.symm (kb.mono mle (Hp.le.refl _)).symm).symm
    · exact kb.mono h1R (Hp.le.refl _)
    · exact kb.mono h1R (Hp.le.refl _)
end

/-- A block that is known whole. -/
def blk (b : Nat) (o : Obj) : HP := fun h => h b = some o
/-- Two claims on two parts. -/
def star (A B : HP) : HP := fun h => ∃ h1 h2, Hp.dj h1 h2 ∧ Hp.le h1 h ∧ Hp.le h2 h ∧ A h1 ∧ B h2
def exs {α : Type} (A : α → HP) : HP := fun h => ∃ x, A x h
def pure_ (p : Prop) (A : HP) : HP := fun h => p ∧ A h

section
variable {w w' : World} {R : Kn} {L M : List HP} {A B H : HP}
theorem St.unstar (s : St w R (star A B :: L)) : St w R (A :: B :: L) := by
  obtain ⟨h, a, b, h1, h2, d, c, e, ⟨k1, k2, kd, ka, kb, hA, hB⟩, k⟩ := s.own
  refine ⟨s.know, s.os, s.tape, s.output, h, a, b, k1, k2.join h2, ?_, ka.trans c, Hp.join_le (kb.trans c) e, hA, k2, h2, d.mono kb (Hp.le.refl _), Hp.le_join_left _ _, Hp.le_join_right (d.mono kb (Hp.le.refl _)), hB, k⟩
  exact (Hp.join_dj kd.symm (d.mono ka (Hp.le.refl _)).symm).symm
theorem St.mkStar (s : St w R (A :: B :: L)) : St w R (star A B :: L) := by
  obtain ⟨h, a, b, h1, h2, d, c, e, hA, k1, k2, kd, ka, kb, hB, k⟩ := s.own
  have d1 : Hp.dj h1 k1 := d.mono (Hp.le.refl _) ka
  exact ⟨s.know, s.os, s.tape, s.output, h, a, b, h1.join k1, k2, Hp.join_dj (d.mono (Hp.le.refl _) kb) kd, Hp.join_le c (ka.trans e), kb.trans e,
    ⟨h1, k1, d1, Hp.le_join_left _ _, Hp.le_join_right d1, hA, hB⟩, k⟩
theorem St.unexs {α : Type} {A : α → HP} (s : St w R (exs A :: L)) : ∃ x, St w R (A x :: L) := by
  obtain ⟨h, a, b, h1, h2, d, c, e, ⟨x, hx⟩, k⟩ := s.own
  exact ⟨x, s.know, s.os, s.tape, s.output, h, a, b, h1, h2, d, c, e, hx, k⟩
theorem St.mkExs {α : Type} {A : α → HP} (x : α) (s : St w R (A x :: L)) : St w R (exs A :: L) := s.head fun _ h => ⟨x, h⟩
theorem St.unpure {p : Prop} (s : St w R (pure_ p A :: L)) : p ∧ St w R (A :: L) := by
  obtain ⟨h, ⟨hp, hA⟩, _⟩ := s.see
  exact ⟨hp, s.head fun _ h => h.2⟩
theorem St.mkPure {p : Prop} (hp : p) (s : St w R (A :: L)) : St w R (pure_ p A :: L) := s.head fun _ h => ⟨hp, h⟩
theorem St.blkAt {b : Nat} {o : Obj} (s : St w R (blk b o :: L)) : w.heap[b]? = some o := by
  obtain ⟨h, a, c, d⟩ := s.see
  exact c _ _ a
theorem St.blkNone {b : Nat} {o : Obj} (s : St w R (blk b o :: L)) : R.mem b = none := by
  obtain ⟨h, a, c, d⟩ := s.see
  rcases d b with e | e
  · exact e
  · rw [show h b = some o from a] at e; cases e
/-- A block of one's own is changed. -/
theorem St.set {b : Nat} {o o' : Obj} (s : St w R (blk b o :: L)) : St { w with heap := w.heap.setIfInBounds b o' } R (blk b o' :: L) := by
  have hb := hp_lt s.blkAt
  refine s.turn rfl rfl rfl ?_
  intro h a c
  refine ⟨fun x => if x = b then some o' else none, by simp [blk], ?_, ?_, ?_⟩
  · intro x u hx
    by_cases e : x = b
    · subst e; simp only [if_true] at hx; cases hx; simp [hp, hb]
    · simp [e] at hx
  · intro x u hx
    by_cases e : x = b
    · subst e; exact .inl ⟨o, a⟩
    · simp [e] at hx
  · intro x hx hn
    have : x ≠ b := fun e => by subst e; rw [show h x = some o from a] at hn; cases hn
    simp only [hp]
    rw [Array.getElem?_setIfInBounds_ne (fun e => this e.symm)]
/-- A new block. -/
theorem St.new (s : St w R L) (o : Obj) : St { w with heap := w.heap.push o } R (blk w.heap.size o :: L) := by
  refine s.make rfl rfl rfl ⟨fun x => if x = w.heap.size then some o else none, by simp [blk], ?_, ?_⟩ ?_
  · intro x u hx
    by_cases e : x = w.heap.size
    · subst e; simp only [if_true] at hx; cases hx; simp [hp]
    · simp [e] at hx
  · intro x u hx
    by_cases e : x = w.heap.size
    · omega
    · simp [e] at hx
  · intro x hx
    simp [hp, Array.getElem?_push, Nat.ne_of_lt hx]
theorem St.drawn (s : St w R L) (n : Nat) : St { w with drawn := n } R L := s.ext rfl rfl rfl fun _ _ => rfl
end

/-- The beginning: all that lies there never changes. -/
def knAll (w : World) : Kn := ⟨hp w, w.os, w.tape, w.output⟩
theorem St.start (w : World) : St w (knAll w) [] := ⟨Hp.le.refl _, rfl, rfl, rfl, fun _ => none, fun _ _ e => by (cases e), fun _ => .inr rfl, trivial⟩
theorem St.finish {w w' : World} {R : Kn} {L : List HP} (s : St w' R L) (h : (knAll w).le R) : Below w.heap.size w w' := by
  refine ⟨s.os.trans h.os, s.tape.trans h.tape, s.output.trans h.output, ?_, fun k hk => ?_⟩
  · rcases Nat.lt_or_ge w'.heap.size w.heap.size with hlt | hge
    · exfalso
      have h1 : hp w w'.heap.size = some (w.heap[w'.heap.size]'hlt) := by simp [hp, hlt]
      have := hp_lt (s.know _ _ (h.mem _ _ h1)); omega
    · exact hge
  · have h1 : hp w k = some (w.heap[k]'hk) := by simp [hp, hk]
    exact (s.know _ _ (h.mem _ _ h1)).trans h1.symm
end Go.Proofs.Ytiffedgmageiaaa.B

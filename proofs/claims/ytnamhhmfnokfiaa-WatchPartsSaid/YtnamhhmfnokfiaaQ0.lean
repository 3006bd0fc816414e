/- A small separation logic over the machine: assertions, the judgements, the rules of control. -/
import Derived.Calls
namespace Go.SL
open Go

/-- 0: nothing; 1: may be read; from 2 on: is one's own. -/
abbrev Perm := Nat → Nat

structure A where
  h : World → Perm → Prop
  mono : ∀ {w : World} {O O' : Perm}, h w O → (∀ b, O b ≤ O' b) → h w O'
  loc : ∀ {w w' : World} {O : Perm}, h w O → (∀ b, O b ≠ 0 → w'.heap[b]? = w.heap[b]?) → h w' O

structure Split (O O1 O2 : Perm) : Prop where
  l : ∀ b, O1 b ≤ O b
  r : ∀ b, O2 b ≤ O b
  lr : ∀ b, 2 ≤ O1 b → O2 b = 0
  rl : ∀ b, 2 ≤ O2 b → O1 b = 0

def Stars : List A → World → Perm → Prop
  | [], _, _ => True
  | a :: l, w, O => ∃ O1 O2, Split O O1 O2 ∧ a.h w O1 ∧ Stars l w O2

theorem Split.mono {O O' O1 O2 : Perm} (h : Split O O1 O2) (hO : ∀ b, O b ≤ O' b) : Split O' O1 O2 :=
  ⟨fun b => Nat.le_trans (h.l b) (hO b), fun b => Nat.le_trans (h.r b) (hO b), h.lr, h.rl⟩

theorem Stars.mono {l : List A} {w : World} {O O' : Perm} (h : Stars l w O) (hO : ∀ b, O b ≤ O' b) : Stars l w O' := by
  cases l with
  | nil => trivial
  | cons a l => obtain ⟨O1, O2, hs, h1, h2⟩ := h; exact ⟨O1, O2, hs.mono hO, h1, h2⟩

theorem Stars.loc {l : List A} {w w' : World} {O : Perm} (h : Stars l w O) (hw : ∀ b, O b ≠ 0 → w'.heap[b]? = w.heap[b]?) : Stars l w' O := by
  induction l generalizing O with
  | nil => trivial
  | cons a l ih =>
    obtain ⟨O1, O2, hs, h1, h2⟩ := h
    exact ⟨O1, O2, hs, a.loc h1 fun b hb => hw b (by have := hs.l b; omega), ih h2 fun b hb => hw b (by have := hs.r b; omega)⟩

/-- An assertion of a list, taken out. -/
def Pick (a : A) (l l' : List A) : Prop := ∀ w O, Stars l w O → ∃ O1 O2, Split O O1 O2 ∧ a.h w O1 ∧ Stars l' w O2

/-- Reading is enough. -/
def A.Dup (a : A) : Prop := ∀ w O, a.h w O → a.h w fun b => min (O b) 1

theorem Pick.here {a : A} {l : List A} : Pick a (a :: l) l := fun _ _ h => h

theorem Pick.there {a b : A} {l l' : List A} (h : Pick a l l') : Pick a (b :: l) (b :: l') := by
  intro w O hs
  obtain ⟨O1, O2, s, h1, h2⟩ := hs
  obtain ⟨P1, P2, t, g1, g2⟩ := h w O2 h2
  refine ⟨P1, fun b => max (O1 b) (P2 b), ⟨fun b => ?_, fun b => ?_, fun b => ?_, fun b => ?_⟩, g1, O1, P2, ⟨fun b => ?_, fun b => ?_, fun b => ?_, fun b => ?_⟩, h1, g2⟩ <;>
    (have := s.l b; have := s.r b; have := s.lr b; have := s.rl b; have := t.l b; have := t.r b; have := t.lr b; have := t.rl b; omega)

/-- What is only read may be taken and left. -/
theorem Pick.keep {a : A} {l : List A} (hd : a.Dup) : Pick a (a :: l) (a :: l) := by
  intro w O hs
  obtain ⟨O1, O2, s, h1, h2⟩ := hs
  refine ⟨fun b => min (O1 b) 1, fun b => max (min (O1 b) 1) (O2 b), ⟨fun b => ?_, fun b => ?_, fun b => ?_, fun b => ?_⟩, hd _ _ h1, fun b => min (O1 b) 1, O2, ⟨fun b => ?_, fun b => ?_, fun b => ?_, fun b => ?_⟩, hd _ _ h1, h2⟩ <;>
    (have := s.l b; have := s.r b; have := s.lr b; have := s.rl b; omega)

theorem Pick.of {a a' : A} {l l' : List A} (h : Pick a l l') (hi : ∀ w O, a.h w O → a'.h w O) : Pick a' l l' := by
  intro w O hs
  obtain ⟨O1, O2, s, h1, h2⟩ := h w O hs
  exact ⟨O1, O2, s, hi _ _ h1, h2⟩

inductive Picks : List A → List A → List A → Prop
  | nil {l : List A} : Picks [] l l
  | cons {a : A} {as l l1 l2 : List A} (h : Pick a l l1) (t : Picks as l1 l2) : Picks (a :: as) l l2

theorem Picks.split {as l l' : List A} (h : Picks as l l') : ∀ w O, Stars l w O → ∃ O1 O2, Split O O1 O2 ∧ Stars as w O1 ∧ Stars l' w O2 := by
  induction h with
  | nil => exact fun w O h => ⟨fun _ => 0, O, ⟨fun b => Nat.zero_le _, fun b => Nat.le_refl _, fun b h => by omega, fun b h => rfl⟩, trivial, h⟩
  | cons p t ih =>
    intro w O hs
    obtain ⟨O1, O2, s, h1, h2⟩ := p w O hs
    obtain ⟨P1, P2, t, g1, g2⟩ := ih w O2 h2
    refine ⟨fun b => max (O1 b) (P1 b), P2, ⟨fun b => ?_, fun b => ?_, fun b => ?_, fun b => ?_⟩, ⟨O1, P1, ⟨fun b => ?_, fun b => ?_, fun b => ?_, fun b => ?_⟩, h1, g1⟩, g2⟩ <;>
      (have := s.l b; have := s.r b; have := s.lr b; have := s.rl b; have := t.l b; have := t.r b; have := t.lr b; have := t.rl b; omega)

/-- A list gives another. -/
def Ent (l l' : List A) : Prop := ∀ w O, Stars l w O → Stars l' w O
theorem Ent.refl (l : List A) : Ent l l := fun _ _ h => h
theorem Ent.trans {a b c : List A} (h : Ent a b) (k : Ent b c) : Ent a c := fun w O s => k w O (h w O s)
theorem Picks.ent {as l l' : List A} (h : Picks as l l') : Ent l as := fun w O hs => by
  obtain ⟨O1, O2, s, h1, _⟩ := h.split w O hs
  exact h1.mono s.l
theorem Pick.ent {a : A} {l l' : List A} (h : Pick a l l') : Ent l (a :: l') := fun w O hs => h w O hs
/-- What a list says of one assertion, nothing being given away. -/
def Has (l : List A) (a : A) : Prop := ∀ w O, Stars l w O → a.h w O
theorem Has.of {l l' : List A} {a : A} (h : Pick a l l') : Has l a := fun w O hs => by
  obtain ⟨O1, O2, s, h1, _⟩ := h w O hs
  exact a.mono h1 s.l
theorem Has.here {a : A} {l : List A} : Has (a :: l) a := Has.of Pick.here
theorem Has.there {a b : A} {l : List A} (h : Has l a) : Has (b :: l) a := fun w O hs => by
  obtain ⟨O1, O2, s, _, h2⟩ := hs
  exact a.mono (h w O2 h2) s.r
theorem Has.imp {a a' : A} {l : List A} (h : Has l a) (hi : ∀ w O, a.h w O → a'.h w O) : Has l a' := fun w O hs => hi w O (h w O hs)

/-! ### what a step may do -/
structure Rel (w0 : World) (O0 : Perm) (w : World) (O : Perm) : Prop where
  os : w.os = w0.os
  tape : w.tape = w0.tape
  output : w.output = w0.output
  size : w0.heap.size ≤ w.heap.size
  old : ∀ b, b < w0.heap.size → O0 b < 2 → w.heap[b]? = w0.heap[b]?
  perm : ∀ b, b < w0.heap.size → O b ≤ O0 b
  dom : ∀ b, O b ≠ 0 → b < w.heap.size

theorem Rel.refl {w : World} {O : Perm} (h : ∀ b, O b ≠ 0 → b < w.heap.size) : Rel w O w O := ⟨rfl, rfl, rfl, Nat.le_refl _, fun _ _ _ => rfl, fun _ _ => Nat.le_refl _, h⟩
theorem Rel.trans {w0 w1 w2 : World} {O0 O1 O2 : Perm} (h : Rel w0 O0 w1 O1) (k : Rel w1 O1 w2 O2) : Rel w0 O0 w2 O2 :=
  ⟨k.os.trans h.os, k.tape.trans h.tape, k.output.trans h.output, Nat.le_trans h.size k.size,
   fun b hb h2 => (k.old b (by have := h.size; omega) (by have := h.perm b hb; omega)).trans (h.old b hb h2),
   fun b hb => Nat.le_trans (k.perm b (by have := h.size; omega)) (h.perm b hb), k.dom⟩
end Go.SL

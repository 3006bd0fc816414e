/- The texts Q0, Q1, Q2, Q3, Q4, Tb, Q5, one behind the other. -/
import Derived.Calls
import Derived.Tactics
import Derived.OwnWalk
import Derived.AtR
import Derived.IntWalk
import Derived.Orders
import Derived.Laws.Strings
import Derived.Laws.Slices
import Derived.Laws.AppendOwn
import Derived.Laws.OwnMore
import Derived.Laws.MakeOwn
import Derived.Laws.Cells
import Derived.Laws.CopyRow
import Derived.Test.YtnamhhmfnokfiaaProg
import Derived.KernelRfl
import Derived.Lib.AppendStr
import Derived.ArgAppend
set_option linter.unusedVariables false
set_option linter.unusedSimpArgs false
/- A small separation logic over the machine: assertions, the judgements, the rules of control. -/
namespace Go.SL
open Go

/-- 0: nothing; 1: may be read; from 2 on: is one's own. -/
abbrev Perm := Nat → Nat

structure A where
  h : World → Perm → Prop
  mono : ∀ {w : World} {O O' : Perm}, h w O → (∀ b, O b ≤ O' b) → h w O'
  loc : ∀ {w w' : World} {O : Perm}, h w O → (∀ b, O b ≠ 0 → w'.heap[b]? = w.heap[b]?) → h w' O

structure Split (O O1 O2 : Perm) : Prop where
  l : ∀ b, O1 b ≤ O b
  r : ∀ b, O2 b ≤ O b
  lr : ∀ b, 2 ≤ O1 b → O2 b = 0
  rl : ∀ b, 2 ≤ O2 b → O1 b = 0

def Stars : List A → World → Perm → Prop
  | [], _, _ => True
  | a :: l, w, O => ∃ O1 O2, Split O O1 O2 ∧ a.h w O1 ∧ Stars l w O2

theorem Split.mono {O O' O1 O2 : Perm} (h : Split O O1 O2) (hO : ∀ b, O b ≤ O' b) : Split O' O1 O2 :=
  ⟨fun b => Nat.le_trans (h.l b) (hO b), fun b => Nat.le_trans (h.r b) (hO b), h.lr, h.rl⟩

theorem Stars.mono {l : List A} {w : World} {O O' : Perm} (h : Stars l w O) (hO : ∀ b, O b ≤ O' b) : Stars l w O' := by
  cases l with
  | nil => trivial
  | cons a l => obtain ⟨O1, O2, hs, h1, h2⟩ := h; exact ⟨O1, O2, hs.mono hO, h1, h2⟩

theorem Stars.loc {l : List A} {w w' : World} {O : Perm} (h : Stars l w O) (hw : ∀ b, O b ≠ 0 → w'.heap[b]? = w.heap[b]?) : Stars l w' O := by
  induction l generalizing O with
  | nil => trivial
  | cons a l ih =>
    obtain ⟨O1, O2, hs, h1, h2⟩ := h
    exact ⟨O1, O2, hs, a.loc h1 fun b hb => hw b (by have := hs.l b; omega), ih h2 fun b hb => hw b (by have := hs.r b; omega)⟩

/-- An assertion of a list, taken out. -/
def Pick (a : A) (l l' : List A) : Prop := ∀ w O, Stars l w O → ∃ O1 O2, Split O O1 O2 ∧ a.h w O1 ∧ Stars l' w O2

/-- Reading is enough. -/
def A.Dup (a : A) : Prop := ∀ w O, a.h w O → a.h w fun b => min (O b) 1

theorem Pick.here {a : A} {l : List A} : Pick a (a :: l) l := fun _ _ h => h

theorem Pick.there {a b : A} {l l' : List A} (h : Pick a l l') : Pick a (b :: l) (b :: l') := by
  intro w O hs
  obtain ⟨O1, O2, s, h1, h2⟩ := hs
  obtain ⟨P1, P2, t, g1, g2⟩ := h w O2 h2
  refine ⟨P1, fun b => max (O1 b) (P2 b), ⟨fun b => ?_, fun b => ?_, fun b => ?_, fun b => ?_⟩, g1, O1, P2, ⟨fun b => ?_, fun b => ?_, fun b => ?_, fun b => ?_⟩, h1, g2⟩ <;>
    (have := s.l b; have := s.r b; have := s.lr b; have := s.rl b; have := t.l b; have := t.r b; have := t.lr b; have := t.rl b; omega)

/-- What is only read may be taken and left. -/
theorem Pick.keep {a : A} {l : List A} (hd : a.Dup) : Pick a (a :: l) (a :: l) := by
  intro w O hs
  obtain ⟨O1, O2, s, h1, h2⟩ := hs
  refine ⟨fun b => min (O1 b) 1, fun b => max (min (O1 b) 1) (O2 b), ⟨fun b => ?_, fun b => ?_, fun b => ?_, fun b => ?_⟩, hd _ _ h1, fun b => min (O1 b) 1, O2, ⟨fun b => ?_, fun b => ?_, fun b => ?_, fun b => ?_⟩, hd _ _ h1, h2⟩ <;>
    (have := s.l b; have := s.r b; have := s.lr b; have := s.rl b; omega)

theorem Pick.of {a a' : A} {l l' : List A} (h : Pick a l l') (hi : ∀ w O, a.h w O → a'.h w O) : Pick a' l l' := by
  intro w O hs
  obtain ⟨O1, O2, s, h1, h2⟩ := h w O hs
  exact ⟨O1, O2, s, hi _ _ h1, h2⟩

inductive Picks : List A → List A → List A → Prop
  | nil {l : List A} : Picks [] l l
  | cons {a : A} {az l l1 l2 : List A} (h : Pick a l l1) (t : Picks az l1 l2) : Picks (a :: az) l l2

theorem Picks.split {az l l' : List A} (h : Picks az l l') : ∀ w O, Stars l w O → ∃ O1 O2, Split O O1 O2 ∧ Stars az w O1 ∧ Stars l' w O2 := by
  induction h with
  | nil => exact fun w O h => ⟨fun _ => 0, O, ⟨fun b => Nat.zero_le _, fun b => Nat.le_refl _, fun b h => by omega, fun b h => rfl⟩, trivial, h⟩
  | cons p t ih =>
    intro w O hs
    obtain ⟨O1, O2, s, h1, h2⟩ := p w O hs
    obtain ⟨P1, P2, t, g1, g2⟩ := ih w O2 h2
    refine ⟨fun b => max (O1 b) (P1 b), P2, ⟨fun b => ?_, fun b => ?_, fun b => ?_, fun b => ?_⟩, ⟨O1, P1, ⟨fun b => ?_, fun b => ?_, fun b => ?_, fun b => ?_⟩, h1, g1⟩, g2⟩ <;>
      (have := s.l b; have := s.r b; have := s.lr b; have := s.rl b; have := t.l b; have := t.r b; have := t.lr b; have := t.rl b; omega)

/-- A list gives another. -/
def Ent (l l' : List A) : Prop := ∀ w O, Stars l w O → Stars l' w O
theorem Ent.refl (l : List A) : Ent l l := fun _ _ h => h
theorem Ent.trans {a b c : List A} (h : Ent a b) (k : Ent b c) : Ent a c := fun w O s => k w O (h w O s)
theorem Picks.ent {az l l' : List A} (h : Picks az l l') : Ent l az := fun w O hs => by
  obtain ⟨O1, O2, s, h1, _⟩ := h.split w O hs
  exact h1.mono s.l
theorem Pick.ent {a : A} {l l' : List A} (h : Pick a l l') : Ent l (a :: l') := fun w O hs => h w O hs
/-- What a list says of one assertion, nothing being given away. -/
def Has (l : List A) (a : A) : Prop := ∀ w O, Stars l w O → a.h w O
theorem Has.of {l l' : List A} {a : A} (h : Pick a l l') : Has l a := fun w O hs => by
  obtain ⟨O1, O2, s, h1, _⟩ := h w O hs
  exact a.mono h1 s.l
theorem Has.here {a : A} {l : List A} : Has (a :: l) a := Has.of Pick.here
theorem Has.there {a b : A} {l : List A} (h : Has l a) : Has (b :: l) a := fun w O hs => by
  obtain ⟨O1, O2, s, _, h2⟩ := hs
  exact a.mono (h w O2 h2) s.r
theorem Has.imp {a a' : A} {l : List A} (h : Has l a) (hi : ∀ w O, a.h w O → a'.h w O) : Has l a' := fun w O hs => hi w O (h w O hs)

/-! ### what a step may do -/
structure Rel (w0 : World) (O0 : Perm) (w : World) (O : Perm) : Prop where
  os : w.os = w0.os
  tape : w.tape = w0.tape
  output : w.output = w0.output
  size : w0.heap.size ≤ w.heap.size
  old : ∀ b, b < w0.heap.size → O0 b < 2 → w.heap[b]? = w0.heap[b]?
  perm : ∀ b, b < w0.heap.size → O b ≤ O0 b
  dom : ∀ b, O b ≠ 0 → b < w.heap.size

theorem Rel.refl {w : World} {O : Perm} (h : ∀ b, O b ≠ 0 → b < w.heap.size) : Rel w O w O := ⟨rfl, rfl, rfl, Nat.le_refl _, fun _ _ _ => rfl, fun _ _ => Nat.le_refl _, h⟩
theorem Rel.trans {w0 w1 w2 : World} {O0 O1 O2 : Perm} (h : Rel w0 O0 w1 O1) (k : Rel w1 O1 w2 O2) : Rel w0 O0 w2 O2 :=
  ⟨k.os.trans h.os, k.tape.trans h.tape, k.output.trans h.output, Nat.le_trans h.size k.size,
   fun b hb h2 => (k.old b (by have := h.size; omega) (by have := h.perm b hb; omega)).trans (h.old b hb h2),
   fun b hb => Nat.le_trans (k.perm b (by have := h.size; omega)) (h.perm b hb), k.dom⟩
end Go.SL
/- The judgements over the machine's configurations, and the rules of control. -/
namespace Go.SL
open Go

/-- Known slots, the newest first. -/
abbrev Env := List (Nat × Value)
def Env.look : Env → Nat → Option Value
  | [], _ => none
  | (k, v) :: e, t => bif Nat.beq k t then some v else Env.look e t
def Env.eval (e : Env) : Operand → Option Value
  | .tmp t => e.look t
  | .const v => some v
  | .global g => some (.pointer (some ⟨g, 0, none⟩))
  | .func f => some (.func (.func f) #[] #[])

theorem Env.look_cons {k t : Nat} {v u : Value} {e : Env} (h : Env.look ((k, v) :: e) t = some u) : (k = t ∧ v = u) ∨ (k ≠ t ∧ e.look t = some u) := by
  unfold Env.look at h
  cases hb : Nat.beq k t with
  | true => rw [hb] at h; exact .inl ⟨Nat.eq_of_beq_eq_true hb, by simpa using h⟩
  | false => rw [hb] at h; exact .inr ⟨Nat.ne_of_beq_eq_false hb, by simpa using h⟩
theorem Env.look_same {t : Nat} {v : Value} {e : Env} : Env.look ((t, v) :: e) t = some v := by simp [Env.look]
theorem Env.look_ne {k t : Nat} {v : Value} {e : Env} (h : k ≠ t) : Env.look ((k, v) :: e) t = e.look t := by
  have : Nat.beq k t = false := by
    cases hb : Nat.beq k t with
    | true => exact absurd (Nat.eq_of_beq_eq_true hb) h
    | false => rfl
  simp [Env.look, this]

def Env.Le : Env → Env → Prop
  | [], _ => True
  | (t, v) :: e, e' => e'.look t = some v ∧ Env.Le e e'
theorem Env.Le.look {e e' : Env} (h : Env.Le e e') {t : Nat} {v : Value} (hl : e.look t = some v) : e'.look t = some v := by
  induction e with
  | nil => simp [Env.look] at hl
  | cons p e ih =>
    obtain ⟨k, u⟩ := p
    rcases Env.look_cons hl with ⟨rfl, rfl⟩ | ⟨_, hl⟩
    · exact h.1
    · exact ih h.2 hl

structure Cx where
  P : Program
  f : FuncId
  fn : Func
  R : Value → World → Perm → Prop
  w0 : World
  O0 : Perm
  /-- A round of a loop over a function: the loop's record. -/
  rd : Option Nat := none
  /-- The marks of the loops over functions that have been begun. -/
  defs : List Deferred := []

structure Holds (X : Cx) (env : Env) (a : Act) : Prop where
  size : a.tmps.size = X.fn.ntmps
  defers : a.defers = X.defs
  look : ∀ t v, env.look t = some v → a.tmps[t]? = some v

theorem Holds.le {X : Cx} {e e' : Env} {a : Act} (h : Holds X e' a) (hl : Env.Le e e') : Holds X e a := ⟨h.size, h.defers, fun t v ht => h.look t v (hl.look ht)⟩
theorem Holds.eval {X : Cx} {e : Env} {a : Act} (h : Holds X e a) {x : Operand} {v : Value} (hv : e.eval x = some v) : a.eval x = v := by
  cases x with
  | tmp t => have := h.look t v hv; simp [Act.eval, Array.getD_eq_getD_getElem?, this]
  | const c => exact Option.some.inj hv
  | global g => exact Option.some.inj hv
  | func f => exact Option.some.inj hv
theorem Holds.put {X : Cx} {e : Env} {a : Act} (h : Holds X e a) {d : Nat} (hd : d < X.fn.ntmps) (v : Value) : Holds X ((d, v) :: e) (a.put (some d) v) := by
  refine ⟨by simp [Act.put, h.size], h.defers, fun t u ht => ?_⟩
  simp only [Act.put]
  rcases Env.look_cons ht with ⟨rfl, rfl⟩ | ⟨hne, ht⟩
  · rw [Array.getElem?_setIfInBounds_self]; simp [h.size, hd]
  · rw [Array.getElem?_setIfInBounds_ne hne]; exact h.look t u ht
theorem Holds.put_none {X : Cx} {e : Env} {a : Act} (h : Holds X e a) (v : Value) : Holds X e (a.put none v) := h

/-- The end: a function leaves with its results; a round comes to its end (true), or leaves by a return (false) or by the exit of a block outside (that block's number). -/
def Fin (X : Cx) (fr : Frame) (w : World) (v : Value) : Prop :=
  match X.rd with
  | none => fr.fn = X.f ∧ fr.leaving X.P w (.returned v)
  | some l => ∃ (b : Frame) (a : Act), b.fn = X.f ∧ b.roundOf = some l ∧ b.kind = .normal ∧ ((v = .bool true ∧ fr = b.atR a []) ∨ (∃ k, v = .bool false ∧ fr = b.atR a (.code .ret :: k)) ∨ ∃ id k, v = .int .i64 (id : Nat) ∧ exitTo id k = none ∧ fr = b.atR a (.code (.exit id) :: k))
def Ok (X : Cx) (k : List Item) (a : Act) (w : World) : Prop :=
  ∀ (b : Frame), b.fn = X.f → b.kind = .normal → b.roundOf = X.rd → ∀ cs, ∃ v w' fr O', X.R v w' O' ∧ Rel X.w0 X.O0 w' O' ∧
    Steps X.P (lone (b.atR a k) cs w) (lone fr cs w') ∧ Fin X fr w' v

theorem Ok.step {X : Cx} {k k' : List Item} {a a' : Act} {w w' : World}
    (hs : ∀ (b : Frame) cs, b.roundOf = X.rd → Steps X.P (lone (b.atR a k) cs w) (lone (b.atR a' k') cs w')) (h : Ok X k' a' w') : Ok X k a w := by
  intro b hb hk hr cs
  obtain ⟨v, w1, fr, O', hR, hrel, hst, r⟩ := h b hb hk hr cs
  exact ⟨v, w1, fr, O', hR, hrel, (hs b cs hr).trans hst, r⟩

def Cfg (X : Cx) (k : List Item) (env : Env) (L : List A) : Prop :=
  ∀ a w O, Holds X env a → Stars L w O → Rel X.w0 X.O0 w O → Ok X k a w

section
variable {X : Cx} {k k' : List Item} {env env' : Env} {L L' : List A}

theorem c_use (h : Cfg X k env' L') (he : Env.Le env' env) (hl : Ent L L') : Cfg X k env L :=
  fun a w O ha hs hr => h a w O (ha.le he) (hl w O hs) hr
theorem c_ent (hl : Ent L L') (h : Cfg X k env L') : Cfg X k env L := fun a w O ha hs hr => h a w O ha (hl w O hs) hr
theorem c_env (he : Env.Le env' env) (h : Cfg X k env' L) : Cfg X k env L := fun a w O ha hs hr => h a w O (ha.le he) hs hr

theorem c_seq {x y : Code} (h : Cfg X (.code x :: .code y :: k) env L) : Cfg X (.code (.seq x y) :: k) env L :=
  fun a w O ha hs hr => (h a w O ha hs hr).step fun _ _ _ => .one stepR_seq
theorem c_skip (h : Cfg X k env L) : Cfg X (.code .skip :: k) env L := fun a w O ha hs hr => (h a w O ha hs hr).step fun _ _ _ => .one stepR_skip
theorem c_label {l : Nat} (h : Cfg X k env L) : Cfg X (.code (.label l) :: k) env L := fun a w O ha hs hr => (h a w O ha hs hr).step fun _ _ _ => .one stepR_label
theorem c_inBlock {id : Nat} (h : Cfg X k env L) : Cfg X (.inBlock id :: k) env L := fun a w O ha hs hr => (h a w O ha hs hr).step fun _ _ _ => .one stepR_inBlock
theorem c_block {id : Nat} {c : Code} (h : Cfg X (.code c :: .inBlock id :: k) env L) : Cfg X (.code (.block id c) :: k) env L :=
  fun a w O ha hs hr => (h a w O ha hs hr).step fun _ _ _ => .one stepR_block
theorem c_exit {id : Nat} (he : exitTo id k = some k') (h : Cfg X k' env L) : Cfg X (.code (.exit id) :: k) env L :=
  fun a w O ha hs hr => (h a w O ha hs hr).step fun _ _ _ => .one (stepR_exit he)
theorem c_goto {l : Nat} (he : gotoIn l k = some k') (h : Cfg X k' env L) : Cfg X (.code (.goto l) :: k) env L :=
  fun a w O ha hs hr => (h a w O ha hs hr).step fun _ _ _ => .one (stepR_goto he)
theorem c_cond {c : Operand} {x y : Code} {t : Bool} (hc : env.eval c = some (.bool t)) (ht : t = true → Cfg X (.code x :: k) env L) (hf : t = false → Cfg X (.code y :: k) env L) :
    Cfg X (.code (.cond c x y) :: k) env L := by
  intro a w O ha hs hr
  cases t with
  | true => exact (ht rfl a w O ha hs hr).step fun b cs _ => .one (by have := stepR_cond (P := X.P) (b := b) (k := k) (cs := cs) (w := w) (x := x) (y := y) (ha.eval hc); simpa using this)
  | false => exact (hf rfl a w O ha hs hr).step fun b cs _ => .one (by have := stepR_cond (P := X.P) (b := b) (k := k) (cs := cs) (w := w) (x := x) (y := y) (ha.eval hc); simpa using this)
theorem c_cond_t {c : Operand} {x y : Code} (hc : env.eval c = some (.bool true)) (h : Cfg X (.code x :: k) env L) : Cfg X (.code (.cond c x y) :: k) env L :=
  c_cond hc (fun _ => h) (fun e => by cases e)
theorem c_cond_f {c : Operand} {x y : Code} (hc : env.eval c = some (.bool false)) (h : Cfg X (.code y :: k) env L) : Cfg X (.code (.cond c x y) :: k) env L :=
  c_cond hc (fun e => by cases e) (fun _ => h)
/-- A test of a proposition. -/
theorem c_cond_p {c : Operand} {x y : Code} {p : Prop} [Decidable p] (hc : env.eval c = some (.bool (decide p))) (ht : p → Cfg X (.code x :: k) env L) (hf : ¬ p → Cfg X (.code y :: k) env L) :
    Cfg X (.code (.cond c x y) :: k) env L :=
  c_cond hc (fun e => ht (of_decide_eq_true e)) (fun e => hf (of_decide_eq_false e))

/-- A loop: g is what is known at each round's head; the rounds lower μ. -/
theorem c_loop {c : Code} {γ : Type} (μ : γ → Nat) (J : γ → Prop) (E : γ → Env) (LL : γ → List A) (g : γ) (hJ : J g) (hE : Env.Le (E g) env) (hL : Ent L (LL g))
    (round : ∀ g, J g → (∀ g', μ g' < μ g → J g' → Cfg X (.inLoop c :: k) (E g') (LL g')) → Cfg X (.code c :: .inLoop c :: k) (E g) (LL g)) :
    Cfg X (.code (.loop c) :: k) env L := by
  have key : ∀ n g, μ g = n → J g → Cfg X (.inLoop c :: k) (E g) (LL g) := by
    intro n
    induction n using Nat.strongRecOn with
    | _ n ih =>
      intro g hn hg a w O ha hs hr
      refine (round g hg (fun g' hlt hg' => ih (μ g') (hn ▸ hlt) g' rfl hg') a w O ha hs hr).step fun _ _ _ => .one stepR_inLoop
  intro a w O ha hs hr
  refine (round g hJ (fun g' _ hg' => key _ g' rfl hg') a w O (ha.le hE) (hL w O hs) hr).step fun _ _ _ => .one stepR_loop

/-- Where ways meet again. -/
theorem c_join {γ : Type} (J : γ → Prop) (E : γ → Env) (LL : γ → List A) {i : Item} (hj : ∀ g, J g → Cfg X k (E g) (LL g)) (h : (∀ g, J g → Cfg X k (E g) (LL g)) → Cfg X (i :: k) env L) : Cfg X (i :: k) env L := h hj

theorem c_ret_any (hr : ∀ a w O, Holds X env a → Stars L w O → (∀ b, O b ≠ 0 → b < w.heap.size) → ∃ v, (results X.fn a.tmps).run X.P w = .ok v w ∧ X.R v w O)
    (hf : X.P.funcs[X.f]? = some X.fn) (hrd : X.rd = none) (hdf : X.defs = []) (hk : ∀ (a : Act) (w : World) (b : Frame) (cs : List Frame), b.kind = .normal → b.roundOf = none → Steps X.P (lone (b.atR a k) cs w) (lone { b.atR a k with mode := .returning } cs w)) : Cfg X k env L := by
  intro a w O ha hs hrel b hb hkd hro cs
  obtain ⟨v, hv, hR⟩ := hr a w O ha hs hrel.dom
  refine ⟨v, w, { b.atR a k with mode := .returning }, O, hR, hrel, hk a w b cs hkd (hro.trans hrd), ?_⟩
  unfold Fin
  rw [hrd]
  exact ⟨hb, rfl, ha.defers.trans hdf, hkd, X.fn, by simpa [Frame.atR, hb] using hf, by simpa [Frame.atR] using hv⟩

theorem steps_ret {b : Frame} {P : Program} {a : Act} {w : World} {cs : List Frame} (hb : b.roundOf = none) : Steps P (lone (b.atR a (.code .ret :: k)) cs w) (lone { b.atR a (.code .ret :: k) with mode := .returning } cs w) := .one (stepR_ret hb)

theorem getD_of {tmps : Array Value} {t : Nat} {v : Value} (h : tmps[t]? = some v) : tmps.getD t undef = v := by simp [Array.getD_eq_getD_getElem?, h]
theorem results_one {fn : Func} {t : Nat} {tmps : Array Value} {P : Program} {w : World} {v : Value} (h : fn.results = #[.tmp t]) (hv : tmps[t]? = some v) : (results fn tmps).run P w = .ok v w := by
  rw [results_tmp h, getD_of hv]
theorem results_two {fn : Func} {s t : Nat} {tmps : Array Value} {P : Program} {w : World} {u v : Value} (h : fn.results = #[.tmp s, .tmp t]) (hu : tmps[s]? = some u) (hv : tmps[t]? = some v) :
    (results fn tmps).run P w = .ok (.tuple #[u, v]) w := by
  rw [results_tmp2 h, getD_of hu, getD_of hv]
theorem results_three {fn : Func} {s t r : Nat} {tmps : Array Value} {P : Program} {w : World} {u v x : Value} (h : fn.results = #[.tmp s, .tmp t, .tmp r]) (hu : tmps[s]? = some u) (hv : tmps[t]? = some v) (hx : tmps[r]? = some x) :
    (results fn tmps).run P w = .ok (.tuple #[u, v, x]) w := by
  rw [results_tmp3 h, getD_of hu, getD_of hv, getD_of hx]
theorem results_no {fn : Func} {tmps : Array Value} {P : Program} {w : World} (h : fn.results = #[]) : (results fn tmps).run P w = .ok (.tuple #[]) w := results_none h _ _ _

theorem c_ret0 (hf : X.P.funcs[X.f]? = some X.fn) (h : X.fn.results = #[]) (fin : ∀ w O, Stars L w O → X.R (.tuple #[]) w O) (hrd : X.rd = none := by rfl) (hdf : X.defs = [] := by rfl) : Cfg X (.code .ret :: k) env L :=
  c_ret_any (fun _ w O _ hs _ => ⟨_, results_no h, fin w O hs⟩) hf hrd hdf fun _ _ _ _ _ hb => steps_ret hb
theorem c_end0 (hf : X.P.funcs[X.f]? = some X.fn) (h : X.fn.results = #[]) (fin : ∀ w O, Stars L w O → X.R (.tuple #[]) w O) (hrd : X.rd = none := by rfl) (hdf : X.defs = [] := by rfl) : Cfg X [] env L :=
  c_ret_any (fun _ w O _ hs _ => ⟨_, results_no h, fin w O hs⟩) hf hrd hdf fun _ _ _ _ _ hb => .one (stepR_end hb)
theorem c_ret1 {t : Nat} {v : Value} (hf : X.P.funcs[X.f]? = some X.fn) (h : X.fn.results = #[.tmp t]) (hv : env.look t = some v) (fin : ∀ w O, Stars L w O → X.R v w O) (hrd : X.rd = none := by rfl) (hdf : X.defs = [] := by rfl) : Cfg X (.code .ret :: k) env L :=
  c_ret_any (fun _ w O ha hs _ => ⟨_, results_one h (ha.look t v hv), fin w O hs⟩) hf hrd hdf fun _ _ _ _ _ hb => steps_ret hb
theorem c_ret2 {s t : Nat} {u v : Value} (hf : X.P.funcs[X.f]? = some X.fn) (h : X.fn.results = #[.tmp s, .tmp t]) (hu : env.look s = some u) (hv : env.look t = some v) (fin : ∀ w O, Stars L w O → X.R (.tuple #[u, v]) w O) (hrd : X.rd = none := by rfl) (hdf : X.defs = [] := by rfl) :
    Cfg X (.code .ret :: k) env L :=
  c_ret_any (fun _ w O ha hs _ => ⟨_, results_two h (ha.look s u hu) (ha.look t v hv), fin w O hs⟩) hf hrd hdf fun _ _ _ _ _ hb => steps_ret hb
theorem c_ret3 {s t r : Nat} {u v x : Value} (hf : X.P.funcs[X.f]? = some X.fn) (h : X.fn.results = #[.tmp s, .tmp t, .tmp r]) (hu : env.look s = some u) (hv : env.look t = some v) (hx : env.look r = some x)
    (fin : ∀ w O, Stars L w O → X.R (.tuple #[u, v, x]) w O) (hrd : X.rd = none := by rfl) (hdf : X.defs = [] := by rfl) : Cfg X (.code .ret :: k) env L :=
  c_ret_any (fun _ w O ha hs _ => ⟨_, results_three h (ha.look s u hu) (ha.look t v hv) (ha.look r x hx), fin w O hs⟩) hf hrd hdf fun _ _ _ _ _ hb => steps_ret hb
end

/-! ### contracts -/
/-- A function's contract: in any world in which L holds, whatever is left aside, it returns one of 'ret g'; then pu g, and L' g holds. -/
def Con (P : Program) (f : FuncId) (args : List Value) (L : List A) {γ : Type} (ret : γ → Value) (pu : γ → Prop) (L' : γ → List A) : Prop :=
  ∀ w O, Stars L w O → (∀ b, O b ≠ 0 → b < w.heap.size) →
    Calls P f args.toArray w fun e w' => ∃ g O', e = .returned (ret g) ∧ pu g ∧ Stars (L' g) w' O' ∧ Rel w O w' O'

def initEnv : Nat → List Value → Env
  | _, [] => []
  | i, v :: vs => (i, v) :: initEnv (i + 1) vs
theorem initEnv_look {vs : List Value} {i t : Nat} {v : Value} (h : (initEnv i vs).look t = some v) : i ≤ t ∧ vs[t - i]? = some v := by
  induction vs generalizing i with
  | nil => simp [initEnv, Env.look] at h
  | cons u vs ih =>
    rcases Env.look_cons h with ⟨rfl, rfl⟩ | ⟨_, h⟩
    · simp
    · obtain ⟨h1, h2⟩ := ih h
      refine ⟨by omega, ?_⟩
      rw [show t - i = (t - (i + 1)) + 1 by omega]
      simpa using h2

theorem con_of {P : Program} {f : FuncId} {fn : Func} {c : Code} {args : List Value} {L : List A} {γ : Type} {ret : γ → Value} {pu : γ → Prop} {L' : γ → List A}
    (hf : P.funcs[f]? = some fn) (hb : fn.body = some c) (hn : args.length ≤ fn.ntmps)
    (h : ∀ w0 O0, Cfg { P := P, f := f, fn := fn, R := fun v w O => ∃ g, v = ret g ∧ pu g ∧ Stars (L' g) w O, w0 := w0, O0 := O0 } [.code c] (initEnv 0 args) L) : Con P f args L ret pu L' := by
  intro w O hs hdom cs
  have henter : Frame.enter P f args.toArray .normal =
      ({ (default : Frame) with fn := f, kind := .normal, roundOf := none } : Frame).atR { tmps := args.toArray ++ Array.replicate (fn.ntmps - args.toArray.size) undef, defers := [] } [.code c] := by
    simp [Frame.enter, Frame.atR, hf, hb]
  obtain ⟨v, w', fr, O', ⟨g, rfl, hpu, hL⟩, hrel, hst, hfn, hlv⟩ := h w O { tmps := args.toArray ++ Array.replicate (fn.ntmps - args.toArray.size) undef, defers := [] } w O
    ⟨by simp; omega, rfl, fun t v ht => by
      obtain ⟨_, h2⟩ := initEnv_look ht
      have h3 : t < args.length := by
        rcases Nat.lt_or_ge t args.length with h | h
        · exact h
        · rw [Nat.sub_zero, List.getElem?_eq_none (by omega)] at h2; cases h2
      rw [Array.getElem?_append_left (by simpa using h3)]
      simpa using h2⟩ hs (Rel.refl hdom) { (default : Frame) with fn := f, kind := .normal, roundOf := none } rfl rfl rfl cs
  rw [← henter] at hst
  exact ⟨.returned (ret g), w', fr, ⟨g, O', rfl, hpu, hL, hrel⟩, hst, hfn, hlv⟩

theorem Con.pre {P : Program} {f : FuncId} {args : List Value} {L L1 : List A} {γ : Type} {ret : γ → Value} {pu : γ → Prop} {L' : γ → List A} (h : Con P f args L ret pu L') (he : Ent L1 L) : Con P f args L1 ret pu L' :=
  fun w O hs hd => h w O (he w O hs) hd
end Go.SL
/- Regions, and the rules of the operations that touch no memory; calls. -/
namespace Go.SL
open Go

def Qn (X : Cx) (k : List Item) : Exit → Act → World → Prop := fun e a w => e = .normal ∧ Ok X k a w

/-- A round of a loop over a function, called: it comes back to the frame that called. -/
def Round (P : Program) (l : Nat) (f : FuncId) (tmps : Array Value) (assign body : Code) (w : World) (R : Value → World → Prop) : Prop :=
  ∀ (c : Frame) (cs : List Frame), ∃ v w', R v w' ∧ Steps P (lone (Frame.round l f tmps assign body .normal) (c :: cs) w) (lone (c.finish v) cs w')
theorem Round.mono {P : Program} {l : Nat} {f : FuncId} {tmps : Array Value} {assign body : Code} {w : World} {R R' : Value → World → Prop} (h : Round P l f tmps assign body w R) (hR : ∀ v w, R v w → R' v w) : Round P l f tmps assign body w R' := fun c cs => by
  obtain ⟨v, w', h1, h2⟩ := h c cs
  exact ⟨v, w', hR _ _ h1, h2⟩
/-- An operation that calls a round. -/
def yields (P : Program) (o : Oper) (a : Act) (w : World) (next : Act → World → Prop) : Prop :=
  ∃ l f tmps assign body w', (execOp a.eval o).run P w = .ok (.round l f tmps assign body) w' ∧ Round P l f tmps assign body w' fun v w'' => next (a.put o.dst v) w''
/-- The operations of a region, in the order of the text. -/
def wpl (P : Program) (ops : Array Oper) (Q : Exit → Act → World → Prop) : List Oper → Act → World → Prop
  | [], a, w => Q .normal a w
  | o :: rest, a, w => if Region.wanted o (yielded ops a.tmps) then o.wp P a w (wpl P ops Q rest) Q ∨ yields P o a w (wpl P ops Q rest) else wpl P ops Q rest (a.put o.dst undef) w

def noDefer (l : List Oper) : Bool := l.all fun o => match o.op with | .defer _ => false | _ => true
theorem noDefer_get {l : List Oper} {i : Nat} {o : Oper} (h : noDefer l = true) (ho : l[i]? = some o) : ∀ c, o.op ≠ .defer c := by
  intro c hc
  have := List.all_eq_true.1 h o (List.mem_of_getElem? ho)
  rw [hc] at this
  cases this

section
variable {X : Cx} {k : List Item} {ops : Array Oper}
/-- One operation, carried out. -/
theorem ok_oper {i : Nat} {rest : List Nat} {o : Oper} {a : Act} {w : World} (ho : ops[i]? = some o) (hnd : ∀ c, o.op ≠ .defer c) (hw : Region.wanted o (yielded ops a.tmps) = true)
    {next : Act → World → Prop} (hn : ∀ a w, next a w → Ok X (.inRegion ops rest :: k) a w) (h : o.wp X.P a w next (Qn X k) ∨ yields X.P o a w next) : Ok X (.inRegion ops (i :: rest) :: k) a w := by
  intro b hb hk hro cs
  have hg := stepGR_op (P := X.P) (b := b) (k := k) (cs := cs) (w := w) (rest := rest) ho hw
  rw [Oper.semAt_eq _ _ _ hnd] at hg
  have hfin : ∀ v, (b.atR a (.inRegion ops (i :: rest) :: k)).finish v = b.atR (a.put o.dst v) (.inRegion ops rest :: k) := by
    intro v; rw [Frame.finish_atR, ho]; rfl
  have go : ∀ {a' : Act} {w' : World}, next a' w' → Steps X.P (lone (b.atR a (.inRegion ops (i :: rest) :: k)) cs w) (lone (b.atR a' (.inRegion ops rest :: k)) cs w') →
      ∃ v w' fr O', X.R v w' O' ∧ Rel X.w0 X.O0 w' O' ∧ Steps X.P (lone (b.atR a (.inRegion ops (i :: rest) :: k)) cs w) (lone fr cs w') ∧ Fin X fr w' v := by
    intro a' w' hnx hst
    obtain ⟨v, w1, fr, O', hR, hrel, hst', hf⟩ := hn a' w' hnx b hb hk hro cs
    exact ⟨v, w1, fr, O', hR, hrel, hst.trans hst', hf⟩
  rcases h with h | ⟨l, f, tmps, assign, body, w', hrun, hround⟩
  · unfold Oper.wp at h
    generalize hrun : (execOp a.eval o).run X.P w = r at h
    unfold Oper.upon at h
    split at h
    · refine go h (.one (step_lone_go ?_))
      rw [hg, ← hfin]; simp [stepG.apply, hrun]
    · refine go h (.one (step_lone_go ?_))
      rw [hg, ← hfin]; simp [stepG.apply, hrun]
    · rename_i d w'
      refine go h (.one (step_lone_go ?_))
      have : ({ b.atR a (.inRegion ops (i :: rest) :: k) with defers := d :: a.defers } : Frame).finish undef = b.atR ({ a with defers := d :: a.defers }.put o.dst undef) (.inRegion ops rest :: k) := by
        have := Frame.finish_atR b { a with defers := d :: a.defers } ops i rest k undef
        rw [ho] at this; exact this
      rw [hg]; simp only [stepG.apply, Sem.runT_eq, hrun, GStep.bare_after]
      exact congrArg (fun fr => GStep.go { frame := fr, callers := cs, status := .running, dying := none } w') this
    · rename_i f args w'
      have henter : step X.P (lone (b.atR a (.inRegion ops (i :: rest) :: k)) cs w) = .next (lone (Frame.enter X.P f args .normal) (b.atR a (.inRegion ops (i :: rest) :: k) :: cs) w') :=
        step_lone_go (by rw [hg]; simp [stepG.apply, hrun, Frame.atR])
      obtain ⟨e, w'', fr, hR, hcomes, hfn, hleave⟩ := h (b.atR a (.inRegion ops (i :: rest) :: k) :: cs)
      cases e with
      | returned v =>
        refine go hR ((Steps.one henter).trans (Steps.trans hcomes (.one ?_)))
        rw [← hfin]; exact step_leave_returned hleave
      | panicked chain => exact absurd hR.1 (by simp)
      | outgrown => obtain ⟨_, _, hq⟩ := hR; exact absurd hq.1 (by simp)
    · rename_i row args w'
      have henter : step X.P (lone (b.atR a (.inRegion ops (i :: rest) :: k)) cs w) = .next (lone (Frame.ofRow X.P row args .normal) (b.atR a (.inRegion ops (i :: rest) :: k) :: cs) w') :=
        step_lone_go (by rw [hg]; simp [stepG.apply, hrun, Frame.atR])
      obtain ⟨v, w'', hR, hst⟩ := h (b.atR a (.inRegion ops (i :: rest) :: k)) cs
      rw [hfin] at hst
      exact go hR ((Steps.one henter).trans hst)
    · exact absurd h.1 (by simp)
    · exact h.elim
  · have henter : step X.P (lone (b.atR a (.inRegion ops (i :: rest) :: k)) cs w) = .next (lone (Frame.round l f tmps assign body .normal) (b.atR a (.inRegion ops (i :: rest) :: k) :: cs) w') :=
      step_lone_go (by rw [hg]; simp [stepG.apply, hrun, Frame.atR])
    obtain ⟨v, w'', hR, hst⟩ := hround (b.atR a (.inRegion ops (i :: rest) :: k)) cs
    rw [hfin] at hst
    exact go hR ((Steps.one henter).trans hst)
theorem ok_skip {i : Nat} {rest : List Nat} {o : Oper} {a : Act} {w : World} (ho : ops[i]? = some o) (hw : ¬ Region.wanted o (yielded ops a.tmps) = true) (h : Ok X (.inRegion ops rest :: k) (a.put o.dst undef) w) : Ok X (.inRegion ops (i :: rest) :: k) a w :=
  h.step fun b cs _ => .one (by
    have hs := stepR_op_skip (P := X.P) (b := b) (a := a) (k := k) (cs := cs) (w := w) (ops := ops) (i := i) (rest := rest) (by simp [ho]; simpa using hw)
    simp only [ho, Option.bind_some] at hs
    exact hs)
theorem ok_nil {a : Act} {w : World} (h : Ok X k a w) : Ok X (.inRegion ops [] :: k) a w := h.step fun _ _ _ => .one stepR_region_end
/-- The operations in the order of the text. -/
theorem ok_wpl (hnd : noDefer ops.toList = true) : ∀ (n i : Nat) (a : Act) (w : World), i + n = ops.size → wpl X.P ops (Qn X k) (ops.toList.drop i) a w → Ok X (.inRegion ops (List.range' i n) :: k) a w := by
  intro n
  induction n with
  | zero =>
    intro i a w hi h
    rw [List.drop_eq_nil_of_le (by simp; omega)] at h
    exact ok_nil h.2
  | succ n ih =>
    intro i a w hi h
    have hlt : i < ops.size := by omega
    have hd : ops.toList.drop i = ops[i] :: ops.toList.drop (i + 1) := by
      rw [List.drop_eq_getElem_cons (by simpa using hlt)]; rfl
    have ho : ops[i]? = some ops[i] := Array.getElem?_eq_getElem hlt
    rw [hd] at h
    rw [List.range'_succ]
    simp only [wpl] at h
    split at h
    · rename_i hw
      exact ok_oper ho (noDefer_get hnd (by rw [Array.getElem?_toList]; exact ho)) hw (fun a w h => ih (i + 1) a w (by omega) h) h
    · rename_i hw
      exact ok_skip ho hw (ih (i + 1) _ _ (by omega) h)
/-- The operations in a drawn order. -/
theorem ok_ops (hnd : noDefer ops.toList = true) : ∀ (l : List Nat) (a : Act) (w : World), wpOps X.P ops (Qn X k) l a w → Ok X (.inRegion ops l :: k) a w := by
  intro l
  induction l with
  | nil => intro a w h; exact ok_nil h.2
  | cons i rest ih =>
    intro a w h
    simp only [wpOps] at h
    cases ho : ops[i]? with
    | none =>
      simp only [ho] at h
      refine (ih a w h).step fun b cs _ => .one ?_
      have hs := stepR_op_skip (P := X.P) (b := b) (a := a) (k := k) (cs := cs) (w := w) (ops := ops) (i := i) (rest := rest) (by simp [ho])
      simp only [ho, Option.bind_none, Act.put] at hs
      exact hs
    | some o =>
      simp only [ho] at h
      split at h
      · rename_i hw
        rcases h with h | ⟨_, _, _, hq⟩
        · exact ok_oper ho (noDefer_get hnd (by rw [Array.getElem?_toList]; exact ho)) hw (fun a w h => ih a w h) (.inl h)
        · exact absurd hq.1 (by simp)
      · rename_i hw
        exact ok_skip ho hw (ih _ _ h)
end

/-- What is left is K. -/
def Kont (X : Cx) (env : Env) (L : List A) (K : Act → World → Prop) : Prop := ∀ a w O, Holds X env a → Stars L w O → Rel X.w0 X.O0 w O → K a w
abbrev Ops (X : Cx) (ops : Array Oper) (l : List Oper) (k : List Item) (env : Env) (L : List A) : Prop := Kont X env L (wpl X.P ops (Qn X k) l)
/-- One operation, and then K. -/
def StepK (X : Cx) (k : List Item) (o : Oper) (env : Env) (L : List A) (K : Act → World → Prop) : Prop := Kont X env L fun a w => o.wp X.P a w K (Qn X k)

section
variable {X : Cx} {ops : Array Oper} {rest : List Oper} {kk : List Item} {env env' : Env} {L L1 : List A}

theorem c_region {id : Nat} {l : List Oper} (h : Ops X l.toArray l kk env L) (hnd : noDefer l = true := by rfl) : Cfg X (.code (.region id l.toArray false) :: kk) env L := by
  intro a w O ha hs hr
  have := ok_wpl (X := X) (k := kk) (ops := l.toArray) (by simpa using hnd) l.length 0 a w (by simp) (by simpa using h a w O ha hs hr)
  refine Ok.step (fun b cs _ => .one stepR_region) ?_
  simpa [List.range_eq_range'] using this
theorem o_nil (h : Cfg X kk env L) : Ops X ops [] kk env L := fun a w O ha hs hr => ⟨rfl, h a w O ha hs hr⟩
theorem o_ent (hl : Ent L L1) (h : Ops X ops rest kk env L1) : Ops X ops rest kk env L := fun a w O ha hs hr => h a w O ha (hl w O hs) hr
theorem o_use (h : Ops X ops rest kk env' L1) (he : Env.Le env' env) (hl : Ent L L1) : Ops X ops rest kk env L := fun a w O ha hs hr => h a w O (ha.le he) (hl w O hs) hr

theorem o_step {d : Option Tmp} {op : Op} {T : TypeId} {pos : String} {af : Array Edge} (h : StepK X kk ⟨d, op, T, pos, af, none⟩ env L (wpl X.P ops (Qn X kk) rest)) : Ops X ops (⟨d, op, T, pos, af, none⟩ :: rest) kk env L := by
  intro a w O ha hs hr
  simp only [wpl, Region.wanted, if_true]
  exact .inl (h a w O ha hs hr)
/-- What every operation that tells a value comes to. -/
theorem s_main {K : Act → World → Prop} {γ : Type} {V : γ → Value} {pu : γ → Prop} {L' : γ → List A} {d : Nat} {op : Op} {T : TypeId} {pos : String} {af : Array Edge}
    (h : ∀ a w O, Holds X env a → Stars L w O → (∀ b, O b ≠ 0 → b < w.heap.size) →
      ∃ g w' O', (execOp a.eval ⟨some d, op, T, pos, af, none⟩).run X.P w = .ok (.value (V g)) w' ∧ pu g ∧ Stars (L' g) w' O' ∧ Rel w O w' O')
    (hd : d < X.fn.ntmps) (k : ∀ g, pu g → Kont X ((d, V g) :: env) (L' g) K) : StepK X kk ⟨some d, op, T, pos, af, none⟩ env L K := by
  intro a w O ha hs hr
  obtain ⟨g, w', O', hrun, hpu, hs', hrel⟩ := h a w O ha hs hr.dom
  simp only [Oper.wp, hrun, Oper.upon]
  exact k g hpu _ w' O' (ha.put hd _) hs' (hr.trans hrel)
/-- The same where nobody takes the value. -/
theorem s_main0 {K : Act → World → Prop} {γ : Type} {V : γ → Value} {pu : γ → Prop} {L' : γ → List A} {op : Op} {T : TypeId} {pos : String} {af : Array Edge}
    (h : ∀ a w O, Holds X env a → Stars L w O → (∀ b, O b ≠ 0 → b < w.heap.size) →
      ∃ g w' O', (execOp a.eval ⟨none, op, T, pos, af, none⟩).run X.P w = .ok (.value (V g)) w' ∧ pu g ∧ Stars (L' g) w' O' ∧ Rel w O w' O')
    (k : ∀ g, pu g → Kont X env (L' g) K) : StepK X kk ⟨none, op, T, pos, af, none⟩ env L K := by
  intro a w O ha hs hr
  obtain ⟨g, w', O', hrun, hpu, hs', hrel⟩ := h a w O ha hs hr.dom
  simp only [Oper.wp, hrun, Oper.upon]
  exact k g hpu _ w' O' (ha.put_none _) hs' (hr.trans hrel)
/-- The same at one that tells nothing. -/
theorem s_skip {K : Act → World → Prop} {γ : Type} {pu : γ → Prop} {L' : γ → List A} {op : Op} {T : TypeId} {pos : String} {af : Array Edge}
    (h : ∀ a w O, Holds X env a → Stars L w O → (∀ b, O b ≠ 0 → b < w.heap.size) →
      ∃ g w' O', (execOp a.eval ⟨none, op, T, pos, af, none⟩).run X.P w = .ok .skip w' ∧ pu g ∧ Stars (L' g) w' O' ∧ Rel w O w' O')
    (k : ∀ g, pu g → Kont X env (L' g) K) : StepK X kk ⟨none, op, T, pos, af, none⟩ env L K := by
  intro a w O ha hs hr
  obtain ⟨g, w', O', hrun, hpu, hs', hrel⟩ := h a w O ha hs hr.dom
  simp only [Oper.wp, hrun, Oper.upon]
  exact k g hpu _ w' O' (ha.put_none _) hs' (hr.trans hrel)
/-- An operation that turns no memory, and what it tells. -/
def Val (X : Cx) (env : Env) (L : List A) (op : Op) (T : TypeId) (v : Value) : Prop :=
  ∀ (dst : Option Tmp) (pos : String) (af : Array Edge) (g : Option (Nat × Bool)) (a : Act) (w : World) (O : Perm), Holds X env a → Stars L w O → (execOp a.eval ⟨dst, op, T, pos, af, g⟩).run X.P w = .ok (.value v) w
theorem o_val {v : Value} {d : Nat} {op : Op} {T : TypeId} {pos : String} {af : Array Edge} (h : Val X env L op T v)
    (hd : d < X.fn.ntmps) (k : Ops X ops rest kk ((d, v) :: env) L) : Ops X ops (⟨some d, op, T, pos, af, none⟩ :: rest) kk env L :=
  o_step <| s_main (γ := Unit) (V := fun _ => v) (pu := fun _ => True) (L' := fun _ => L) (fun a w O ha hs hdom => ⟨(), w, O, h _ _ _ _ a w O ha hs, trivial, hs, Rel.refl hdom⟩) hd (fun _ _ => k)
theorem o_val_none {v : Value} {op : Op} {T : TypeId} {pos : String} {af : Array Edge} (h : Val X env L op T v)
    (k : Ops X ops rest kk env L) : Ops X ops (⟨none, op, T, pos, af, none⟩ :: rest) kk env L := by
  intro a w O ha hs hr
  have := k a w O ha hs hr
  simp only [wpl, Region.wanted, if_true, Oper.wp, h none pos af none a w O ha hs, Oper.upon]
  exact .inl this
theorem Val.ent {v : Value} {op : Op} {T : TypeId} (h : Val X env L1 op T v) (he : Ent L L1) : Val X env L op T v := fun d p af g a w O ha hs => h d p af g a w O ha (he w O hs)

/-! ### guards -/
theorem o_guard {j s : Nat} {t want : Bool} {d : Option Nat} {op : Op} {T : TypeId} {pos : String} {af : Array Edge}
    (hj : (ops[j]?).bind (·.dst) = some s) (ht : env.look s = some (.bool t))
    (hy : t = want → Ops X ops (⟨d, op, T, pos, af, none⟩ :: rest) kk ((s, .bool want) :: env) L)
    (hn : t = !want → Ops X ops (⟨d, op, T, pos, af, some (j, want)⟩ :: rest) kk ((s, .bool (!want)) :: env) L) :
    Ops X ops (⟨d, op, T, pos, af, some (j, want)⟩ :: rest) kk env L := by
  intro a w O ha hs hr
  have hy1 : yielded ops a.tmps j = some t := by simp [yielded, hj, ha.look s _ ht]
  by_cases e : t = want
  · subst e
    have ha' : Holds X ((s, .bool t) :: env) a := ⟨ha.size, ha.defers, fun u v hu => by
      rcases Env.look_cons hu with ⟨rfl, rfl⟩ | ⟨_, hu⟩
      · exact ha.look _ _ ht
      · exact ha.look _ _ hu⟩
    have := hy rfl a w O ha' hs hr
    simp only [wpl, Region.wanted, hy1, beq_self_eq_true, if_true] at this ⊢
    exact this
  · have e' : t = !want := by cases t <;> cases want <;> simp_all
    refine hn e' a w O ⟨ha.size, ha.defers, fun u v hu => ?_⟩ hs hr
    rcases Env.look_cons hu with ⟨rfl, rfl⟩ | ⟨_, hu⟩
    · rw [← e']; exact ha.look _ _ ht
    · exact ha.look _ _ hu
theorem o_on {j s : Nat} {want : Bool} {d : Option Nat} {op : Op} {T : TypeId} {pos : String} {af : Array Edge}
    (hj : (ops[j]?).bind (·.dst) = some s) (ht : env.look s = some (.bool want))
    (h : Ops X ops (⟨d, op, T, pos, af, none⟩ :: rest) kk env L) : Ops X ops (⟨d, op, T, pos, af, some (j, want)⟩ :: rest) kk env L := by
  intro a w O ha hs hr
  have hy1 : yielded ops a.tmps j = some want := by simp [yielded, hj, ha.look s _ ht]
  have := h a w O ha hs hr
  simp only [wpl, Region.wanted, hy1, beq_self_eq_true, if_true] at this ⊢
  exact this
theorem o_off {j s : Nat} {t want : Bool} {d : Nat} {op : Op} {T : TypeId} {pos : String} {af : Array Edge}
    (hj : (ops[j]?).bind (·.dst) = some s) (ht : env.look s = some (.bool t)) (hne : t = !want) (hd : d < X.fn.ntmps)
    (h : Ops X ops rest kk ((d, undef) :: env) L) : Ops X ops (⟨some d, op, T, pos, af, some (j, want)⟩ :: rest) kk env L := by
  intro a w O ha hs hr
  have hy1 : yielded ops a.tmps j = some t := by simp [yielded, hj, ha.look s _ ht]
  have hw : (some t == some want) = false := by subst hne; cases want <;> rfl
  simp only [wpl, Region.wanted, hy1, hw, Bool.false_eq_true, if_false]
  exact h _ w O (ha.put hd _) hs hr
theorem o_off_none {j s : Nat} {t want : Bool} {op : Op} {T : TypeId} {pos : String} {af : Array Edge}
    (hj : (ops[j]?).bind (·.dst) = some s) (ht : env.look s = some (.bool t)) (hne : t = !want)
    (h : Ops X ops rest kk env L) : Ops X ops (⟨none, op, T, pos, af, some (j, want)⟩ :: rest) kk env L := by
  intro a w O ha hs hr
  have hy1 : yielded ops a.tmps j = some t := by simp [yielded, hj, ha.look s _ ht]
  have hw : (some t == some want) = false := by subst hne; cases want <;> rfl
  simp only [wpl, Region.wanted, hy1, hw, Bool.false_eq_true, if_false]
  exact h _ w O (ha.put_none _) hs hr

/-! ### values -/
section
variable {T : TypeId}
theorem v_move {x : Operand} {v : Value} (hx : env.eval x = some v) : Val X env L (.move x) T (v) :=
  fun _ _ _ _ a w O ha _ => by simp [execOp, ha.eval hx]
theorem v_assign {x : Operand} {v : Value} (hx : env.eval x = some v) : Val X env L (.assign x) T (v) :=
  fun _ _ _ _ a w O ha _ => by simp [execOp, ha.eval hx]
theorem v_pick_t {c x y : Operand} {v : Value} (hc : env.eval c = some (.bool true)) (hx : env.eval x = some v) : Val X env L (.pick c x y) T (v) :=
  fun _ _ _ _ a w O ha _ => by simp [execOp, ha.eval hc, ha.eval hx, asBool]
theorem v_pick_f {c x y : Operand} {v : Value} (hc : env.eval c = some (.bool false)) (hy : env.eval y = some v) : Val X env L (.pick c x y) T (v) :=
  fun _ _ _ _ a w O ha _ => by simp [execOp, ha.eval hc, ha.eval hy, asBool]
theorem v_pick {c x y : Operand} {t : Bool} {u v : Value} (hc : env.eval c = some (.bool t)) (hx : env.eval x = some u) (hy : env.eval y = some v) : Val X env L (.pick c x y) T (if t then u else v) :=
  fun _ _ _ _ a w O ha _ => by cases t <;> simp [execOp, ha.eval hc, ha.eval hx, ha.eval hy, asBool]
theorem v_extract {x : Operand} {vs : Array Value} {i : Nat} {v : Value} (hx : env.eval x = some (.tuple vs)) (hv : vs[i]? = some v) : Val X env L (.extract x i) T (v) :=
  fun _ _ _ _ a w O ha _ => by simp [execOp, ha.eval hx, Instr.extract, hv]
theorem v_not {t : Bool} {xT : TypeId} {x : Operand} (hx : env.eval x = some (.bool t)) : Val X env L (.unOp .not xT x) T (.bool (!t)) :=
  fun _ _ _ _ a w O ha _ => by simp [execOp, ha.eval hx, Op.unary]

/-! ### whole numbers -/
variable {x y : Operand} {xT yT : TypeId} {m n : Int}
theorem v_add {K : IntKind} (hx : env.eval x = some (.int K m)) (hy : env.eval y = some (.int K n)) : Val X env L (.binOp .add xT x y yT) T (.int K (K.wrap (m + n))) :=
  fun _ _ _ _ a w O ha _ => by simp [execOp, ha.eval hx, ha.eval hy, eqGuard, binOp, Op.intArith]
theorem v_sub {K : IntKind} (hx : env.eval x = some (.int K m)) (hy : env.eval y = some (.int K n)) : Val X env L (.binOp .sub xT x y yT) T (.int K (K.wrap (m - n))) :=
  fun _ _ _ _ a w O ha _ => by simp [execOp, ha.eval hx, ha.eval hy, eqGuard, binOp, Op.intArith]
theorem v_mul {K : IntKind} (hx : env.eval x = some (.int K m)) (hy : env.eval y = some (.int K n)) : Val X env L (.binOp .mul xT x y yT) T (.int K (K.wrap (m * n))) :=
  fun _ _ _ _ a w O ha _ => by simp [execOp, ha.eval hx, ha.eval hy, eqGuard, binOp, Op.intArith]
/-- Sums that fit. -/
theorem v_add64 (hx : env.eval x = some (.int .i64 m)) (hy : env.eval y = some (.int .i64 n)) (hb : -9223372036854775808 ≤ m + n ∧ m + n ≤ 9223372036854775807) : Val X env L (.binOp .add xT x y yT) T (.int .i64 (m + n)) := by
  have := v_add (X := X) (L := L) (T := T) (xT := xT) (yT := yT) hx hy; rwa [IntWalk.i64_in _ hb] at this
theorem v_sub64 (hx : env.eval x = some (.int .i64 m)) (hy : env.eval y = some (.int .i64 n)) (hb : -9223372036854775808 ≤ m - n ∧ m - n ≤ 9223372036854775807) : Val X env L (.binOp .sub xT x y yT) T (.int .i64 (m - n)) := by
  have := v_sub (X := X) (L := L) (T := T) (xT := xT) (yT := yT) hx hy; rwa [IntWalk.i64_in _ hb] at this
theorem v_mul64 (hx : env.eval x = some (.int .i64 m)) (hy : env.eval y = some (.int .i64 n)) (hb : -9223372036854775808 ≤ m * n ∧ m * n ≤ 9223372036854775807) : Val X env L (.binOp .mul xT x y yT) T (.int .i64 (m * n)) := by
  have := v_mul (X := X) (L := L) (T := T) (xT := xT) (yT := yT) hx hy; rwa [IntWalk.i64_in _ hb] at this
theorem v_lt {K : IntKind} (hx : env.eval x = some (.int K m)) (hy : env.eval y = some (.int K n)) : Val X env L (.binOp .lss xT x y yT) T (.bool (decide (m < n))) :=
  fun _ _ _ _ a w O ha _ => by simp [execOp, ha.eval hx, ha.eval hy, eqGuard, binOp, Op.intCmp]
theorem v_le {K : IntKind} (hx : env.eval x = some (.int K m)) (hy : env.eval y = some (.int K n)) : Val X env L (.binOp .leq xT x y yT) T (.bool (decide (m ≤ n))) :=
  fun _ _ _ _ a w O ha _ => by simp [execOp, ha.eval hx, ha.eval hy, eqGuard, binOp, Op.intCmp]
theorem v_gt {K : IntKind} (hx : env.eval x = some (.int K m)) (hy : env.eval y = some (.int K n)) : Val X env L (.binOp .gtr xT x y yT) T (.bool (decide (n < m))) :=
  fun _ _ _ _ a w O ha _ => by simp [execOp, ha.eval hx, ha.eval hy, eqGuard, binOp, Op.intCmp]
theorem v_ge {K : IntKind} (hx : env.eval x = some (.int K m)) (hy : env.eval y = some (.int K n)) : Val X env L (.binOp .geq xT x y yT) T (.bool (decide (n ≤ m))) :=
  fun _ _ _ _ a w O ha _ => by simp [execOp, ha.eval hx, ha.eval hy, eqGuard, binOp, Op.intCmp]
theorem beq_dec {α : Type} [BEq α] [LawfulBEq α] [DecidableEq α] (a b : α) : (a == b) = decide (a = b) := by
  by_cases h : a = b <;> simp [h]
theorem v_eq {K : IntKind} (hx : env.eval x = some (.int K m)) (hy : env.eval y = some (.int K n)) : Val X env L (.binOp .eql xT x y yT) T (.bool (decide (m = n))) :=
  fun _ _ _ _ a w O ha _ => by simp [execOp, ha.eval hx, ha.eval hy, eqGuard, binOp, Op.intCmp, beq_dec]
theorem v_ne {K : IntKind} (hx : env.eval x = some (.int K m)) (hy : env.eval y = some (.int K n)) : Val X env L (.binOp .neq xT x y yT) T (.bool (decide (m ≠ n))) :=
  fun _ _ _ _ a w O ha _ => by simp [execOp, ha.eval hx, ha.eval hy, eqGuard, binOp, Op.intCmp, bne, beq_dec]
theorem v_quo {K : IntKind} (hx : env.eval x = some (.int K m)) (hy : env.eval y = some (.int K n)) (h0 : n ≠ 0) : Val X env L (.binOp .quo xT x y yT) T (.int K (K.wrap (m.tdiv n))) :=
  fun _ _ _ _ a w O ha _ => by simp [execOp, ha.eval hx, ha.eval hy, eqGuard, binOp, Op.intDiv, h0]
theorem v_rem {K : IntKind} (hx : env.eval x = some (.int K m)) (hy : env.eval y = some (.int K n)) (h0 : n ≠ 0) : Val X env L (.binOp .rem xT x y yT) T (.int K (m.tmod n)) :=
  fun _ _ _ _ a w O ha _ => by simp [execOp, ha.eval hx, ha.eval hy, eqGuard, binOp, Op.intDiv, h0]

/-! ### bools, strings -/
theorem run_equal_bool {P : Program} {t : TypeId} {s u : Bool} {w : World} (hu : P.underlying t = some .bool) : (Op.equal t (.bool s) (.bool u)).run P w = .ok (s == u) w := by
  show (Op.equalIn (9999 + 1) t (.bool s) (.bool u)).run P w = _
  rw [Op.equalIn]
  simp only [Sem.run_bind, run_underlying hu, Result.andThen_ok]
  rfl
theorem run_eqb {P : Program} {op : BinOp} {a : Act} {s u : Bool} {w : World} {d : Option Tmp} {pos : String} {af : Array Edge} {g : Option (Nat × Bool)} (hx : a.eval x = .bool s) (hy : a.eval y = .bool u) (_ : True = True) (hu : P.underlying xT = some .bool)
    (hop : op = .eql ∨ op = .neq := by first | exact .inl rfl | exact .inr rfl) :
    (execOp a.eval ⟨d, .binOp op xT x y yT, T, pos, af, g⟩).run P w = .ok (.value (.bool (if op = .eql then decide (s = u) else decide (s ≠ u)))) w := by
  have he := run_equal_bool (s := s) (u := u) (w := w) hu
  rcases hop with rfl | rfl
  · simp only [execOp, hx, hy]
    simp only [show binOp .eql xT (.bool s) (.bool u) = (do pure (.bool (← Op.equal xT (.bool s) (.bool u)))) from rfl, show eqGuard .eql xT x y (.bool s) (.bool u) = pure () from rfl]
    simp [he, beq_dec]
  · simp only [execOp, hx, hy]
    simp only [show binOp .neq xT (.bool s) (.bool u) = (do pure (.bool (!(← Op.equal xT (.bool s) (.bool u))))) from rfl, show eqGuard .neq xT x y (.bool s) (.bool u) = pure () from rfl]
    simp [he, beq_dec]
theorem v_beq {s t : Bool} (hu : X.P.underlying xT = some .bool) (hx : env.eval x = some (.bool s)) (hy : env.eval y = some (.bool t)) : Val X env L (.binOp .eql xT x y yT) T (.bool (decide (s = t))) :=
  fun _ _ _ _ a w O ha _ => by rw [run_eqb (op := .eql) (ha.eval hx) (ha.eval hy) rfl hu]; simp
theorem v_bne {s t : Bool} (hu : X.P.underlying xT = some .bool) (hx : env.eval x = some (.bool s)) (hy : env.eval y = some (.bool t)) : Val X env L (.binOp .neq xT x y yT) T (.bool (decide (s ≠ t))) :=
  fun _ _ _ _ a w O ha _ => by rw [run_eqb (op := .neq) (ha.eval hx) (ha.eval hy) rfl hu]; simp
theorem str_beq (a b : ByteArray) : (a.toList == b.toList) = decide (a = b) := by
  rw [beq_dec, ByteArray.toList_eq, ByteArray.toList_eq]
  congr 1
  refine propext ⟨fun h => ?_, fun h => by rw [h]⟩
  cases a; cases b; simp only at h; congr 1; exact Array.ext' h
theorem v_seq {s t : ByteArray} (hx : env.eval x = some (.string s)) (hy : env.eval y = some (.string t)) : Val X env L (.binOp .eql xT x y yT) T (.bool (decide (s = t))) :=
  fun _ _ _ _ a w O ha _ => by simp only [execOp, ha.eval hx, ha.eval hy, binOp, Op.stringOp, str_beq]; simp [eqGuard]
theorem v_sne {s t : ByteArray} (hx : env.eval x = some (.string s)) (hy : env.eval y = some (.string t)) : Val X env L (.binOp .neq xT x y yT) T (.bool (decide (s ≠ t))) :=
  fun _ _ _ _ a w O ha _ => by simp only [execOp, ha.eval hx, ha.eval hy, binOp, Op.stringOp, str_beq]; simp [eqGuard]
theorem v_slt {s t : ByteArray} (hx : env.eval x = some (.string s)) (hy : env.eval y = some (.string t)) : Val X env L (.binOp .lss xT x y yT) T (.bool (Op.bytesLess s.data.toList t.data.toList)) :=
  fun _ _ _ _ a w O ha _ => by simp only [execOp, ha.eval hx, ha.eval hy, binOp, Op.stringOp, ByteArray.toList_eq]; simp [eqGuard]
theorem v_sgt {s t : ByteArray} (hx : env.eval x = some (.string s)) (hy : env.eval y = some (.string t)) : Val X env L (.binOp .gtr xT x y yT) T (.bool (!(Op.bytesLess s.data.toList t.data.toList || decide (s = t)))) :=
  fun _ _ _ _ a w O ha _ => by simp only [execOp, ha.eval hx, ha.eval hy, binOp, Op.stringOp, str_beq]; simp [eqGuard, ByteArray.toList_eq]
theorem v_sle {s t : ByteArray} (hx : env.eval x = some (.string s)) (hy : env.eval y = some (.string t)) : Val X env L (.binOp .leq xT x y yT) T (.bool (Op.bytesLess s.data.toList t.data.toList || decide (s = t))) :=
  fun _ _ _ _ a w O ha _ => by simp only [execOp, ha.eval hx, ha.eval hy, binOp, Op.stringOp, str_beq]; simp [eqGuard, ByteArray.toList_eq]
theorem v_cat {s t : ByteArray} (hx : env.eval x = some (.string s)) (hy : env.eval y = some (.string t)) (hb : s.size + t.size ≤ 9223372036854775807) : Val X env L (.binOp .add xT x y yT) T (.string (s ++ t)) :=
  fun _ _ _ _ a w O ha _ => by
    have hm : ¬ (IntKind.i64.max < ((s.size + t.size : Nat) : Int)) := by simp [IntKind.max, IntKind.bits, IntKind.signed]; omega
    simp only [execOp, ha.eval hx, ha.eval hy, binOp, Op.stringOp, gt_iff_lt, if_neg hm]; simp [eqGuard]
theorem v_len_str {s : ByteArray} {t : TypeId} (hu : X.P.underlying t = some .string) (hx : env.eval x = some (.string s)) : Val X env L (.call ⟨.builtin .len, #[x], #[t]⟩) T (.int .i64 s.size) :=
  fun _ _ _ _ a w O ha _ => by simp [execOp, resolve, invoke, builtin, Builtin.len_, ha.eval hx, run_underlying hu, goInt]
/-- A byte of a string. -/
def sAt (s : ByteArray) (i : Int) : Int := (s.data.toList.getD i.toNat 0).toNat
theorem v_index_str {s : ByteArray} {K : IntKind} (hu : X.P.underlying xT = some .string) (hx : env.eval x = some (.string s)) (hy : env.eval y = some (.int K n)) (hb : 0 ≤ n ∧ n < s.size) : Val X env L (.index xT x y) T (.int .u8 (sAt s n)) :=
  fun _ _ _ _ a w O ha _ => by
    have h1 : n.toNat < s.size := by omega
    have h2 : s[n.toNat]? = some s[n.toNat] := by simp [h1]
    have h3 : sAt s n = s[n.toNat].toNat := by
      simp only [sAt, List.getD_eq_getElem?_getD]
      rw [List.getElem?_eq_getElem (by simpa using h1)]; rfl
    simp [execOp, ha.eval hx, ha.eval hy, Instr.index, asIntOf, run_underlying hu, hb.1, h2, h3]
theorem v_sge {s t : ByteArray} (hx : env.eval x = some (.string s)) (hy : env.eval y = some (.string t)) : Val X env L (.binOp .geq xT x y yT) T (.bool (!Op.bytesLess s.data.toList t.data.toList)) :=
  fun _ _ _ _ a w O ha _ => by simp only [execOp, ha.eval hx, ha.eval hy, binOp, Op.stringOp, ByteArray.toList_eq]; simp [eqGuard]
theorem v_neg64 (hx : env.eval x = some (.int .i64 m)) (hb : -9223372036854775808 ≤ -m ∧ -m ≤ 9223372036854775807) : Val X env L (.unOp .neg xT x) T (.int .i64 (-m)) :=
  fun _ _ _ _ a w O ha _ => by simp [execOp, ha.eval hx, Op.unary, Op.intArith, IntWalk.i64_in _ hb]
theorem v_min (hx : env.eval x = some (.int .i64 m)) (hy : env.eval y = some (.int .i64 n)) {ts : Array TypeId} : Val X env L (.call ⟨.builtin .min, #[x, y], ts⟩) T (.int .i64 (min m n)) :=
  fun _ _ _ _ a w O ha _ => by
    have h : (if n < m then n else m) = min m n := by rw [Int.min_def]; split <;> split <;> omega
    simp [execOp, resolve, invoke, builtin, Builtin.min_, ha.eval hx, ha.eval hy, Builtin.min2, h]
theorem v_max (hx : env.eval x = some (.int .i64 m)) (hy : env.eval y = some (.int .i64 n)) {ts : Array TypeId} : Val X env L (.call ⟨.builtin .max, #[x, y], ts⟩) T (.int .i64 (max m n)) :=
  fun _ _ _ _ a w O ha _ => by
    have h : (if m < n then n else m) = max m n := by rw [Int.max_def]; split <;> split <;> omega
    simp [execOp, resolve, invoke, builtin, Builtin.max_, ha.eval hx, ha.eval hy, Builtin.max2, h]
/-! cuts of strings -/
theorem v_cut {s : ByteArray} {K K' : IntKind} {lo hi : Operand} (hu : X.P.underlying xT = some .string) (hx : env.eval x = some (.string s)) (hl : env.eval lo = some (.int K m)) (hh : env.eval hi = some (.int K' n)) (hb : 0 ≤ m ∧ m ≤ n ∧ n ≤ s.size) :
    Val X env L (.slice xT x (some lo) (some hi) none) T (.string (s.extract m.toNat n.toNat)) :=
  fun _ _ _ _ a w O ha _ => by
    have h1 := run_sliceBound (P := X.P) (w := w) K' n s.size .sliceAlen (by omega) hb.2.2
    have h2 := run_sliceBound (P := X.P) (w := w) K m n.toNat .sliceB hb.1 (by omega)
    simp [execOp, ha.eval hx, ha.eval hl, ha.eval hh, Instr.sliceAt, run_underlying hu, Instr.slice, Instr.sliceBounds, h1, h2]
theorem v_cut_to {s : ByteArray} {K' : IntKind} {hi : Operand} (hu : X.P.underlying xT = some .string) (hx : env.eval x = some (.string s)) (hh : env.eval hi = some (.int K' n)) (hb : 0 ≤ n ∧ n ≤ s.size) :
    Val X env L (.slice xT x none (some hi) none) T (.string (s.extract 0 n.toNat)) :=
  fun _ _ _ _ a w O ha _ => by
    have h1 := run_sliceBound (P := X.P) (w := w) K' n s.size .sliceAlen hb.1 hb.2
    simp [execOp, ha.eval hx, ha.eval hh, Instr.sliceAt, run_underlying hu, Instr.slice, Instr.sliceBounds, h1]
theorem v_cut_from {s : ByteArray} {K : IntKind} {lo : Operand} (hu : X.P.underlying xT = some .string) (hx : env.eval x = some (.string s)) (hl : env.eval lo = some (.int K m)) (hb : 0 ≤ m ∧ m ≤ s.size) :
    Val X env L (.slice xT x (some lo) none none) T (.string (s.extract m.toNat s.size)) :=
  fun _ _ _ _ a w O ha _ => by
    have h2 := run_sliceBound (P := X.P) (w := w) K m s.size .sliceB hb.1 hb.2
    simp [execOp, ha.eval hx, ha.eval hl, Instr.sliceAt, run_underlying hu, Instr.slice, Instr.sliceBounds, h2]
theorem v_conv_int {sT dT : TypeId} {dsc : TypeDesc} {K K' : IntKind} (hs : X.P.underlying sT = some dsc) (hu : X.P.underlying dT = some (.int K')) (hx : env.eval x = some (.int K m)) : Val X env L (.convert sT dT x) T (.int K' (K'.wrap m)) :=
  fun _ _ _ _ a w O ha _ => by simp [execOp, ha.eval hx, convert, run_underlying hs, run_underlying hu, Conv.intToInt]
theorem v_conv_str {sT dT : TypeId} {s : ByteArray} (hs : X.P.underlying sT = some .string) (hu : X.P.underlying dT = some .string) (hx : env.eval x = some (.string s)) : Val X env L (.convert sT dT x) T (.string s) :=
  fun _ _ _ _ a w O ha _ => by simp [execOp, ha.eval hx, convert, run_underlying hs, run_underlying hu]
end
end
end Go.SL
/- Readings of memory: encodings, slices, rows of one's own, blocks. -/
namespace Go.SL
open Go

/-- How a value of α lies in cells. -/
structure Enc (α : Type) where
  n : Nat
  rd : World → Perm → List Value → α → Prop
  len : ∀ {w O cs x}, rd w O cs x → cs.length = n
  one : ∀ {w O cs x}, rd w O cs x → ∀ u ∈ cs, u.oneCell' = true
  mono : ∀ {w O O' cs x}, rd w O cs x → (∀ b, O b ≤ O' b) → rd w O' cs x
  loc : ∀ {w w' : World} {O : Perm} {cs x}, rd w O cs x → (∀ b, O b ≠ 0 → w'.heap[b]? = w.heap[b]?) → rd w' O cs x
  dup : ∀ {w O cs x}, rd w O cs x → rd w (fun b => min (O b) 1) cs x

def Rows {α : Type} (e : Enc α) (w : World) (O : Perm) : List Value → List α → Prop
  | cs, [] => cs = []
  | cs, x :: xs => ∃ c1 c2, cs = c1 ++ c2 ∧ e.rd w O c1 x ∧ Rows e w O c2 xs

section
variable {α : Type} {e : Enc α} {w w' : World} {O O' : Perm} {cs : List Value} {xs : List α}
theorem Rows.mono (h : Rows e w O cs xs) (hO : ∀ b, O b ≤ O' b) : Rows e w O' cs xs := by
  induction xs generalizing cs with
  | nil => exact h
  | cons x xs ih => obtain ⟨c1, c2, rfl, h1, h2⟩ := h; exact ⟨c1, c2, rfl, e.mono h1 hO, ih h2⟩
theorem Rows.loc (h : Rows e w O cs xs) (hw : ∀ b, O b ≠ 0 → w'.heap[b]? = w.heap[b]?) : Rows e w' O cs xs := by
  induction xs generalizing cs with
  | nil => exact h
  | cons x xs ih => obtain ⟨c1, c2, rfl, h1, h2⟩ := h; exact ⟨c1, c2, rfl, e.loc h1 hw, ih h2⟩
theorem Rows.dup (h : Rows e w O cs xs) : Rows e w (fun b => min (O b) 1) cs xs := by
  induction xs generalizing cs with
  | nil => exact h
  | cons x xs ih => obtain ⟨c1, c2, rfl, h1, h2⟩ := h; exact ⟨c1, c2, rfl, e.dup h1, ih h2⟩
theorem Rows.length (h : Rows e w O cs xs) : cs.length = xs.length * e.n := by
  induction xs generalizing cs with
  | nil => cases h; simp
  | cons x xs ih => obtain ⟨c1, c2, rfl, h1, h2⟩ := h; rw [List.length_append, e.len h1, ih h2, List.length_cons, Nat.add_mul]; omega
theorem Rows.one (h : Rows e w O cs xs) : ∀ u ∈ cs, u.oneCell' = true := by
  induction xs generalizing cs with
  | nil => cases h; simp
  | cons x xs ih =>
    obtain ⟨c1, c2, rfl, h1, h2⟩ := h
    intro u hu
    rcases List.mem_append.1 hu with hu | hu
    · exact e.one h1 u hu
    · exact ih h2 u hu
theorem Rows.append {ds : List Value} {ys : List α} (h : Rows e w O cs xs) (k : Rows e w O ds ys) : Rows e w O (cs ++ ds) (xs ++ ys) := by
  induction xs generalizing cs with
  | nil => cases h; exact k
  | cons x xs ih => obtain ⟨c1, c2, rfl, h1, h2⟩ := h; exact ⟨c1, c2 ++ ds, by simp, h1, ih h2⟩
theorem Rows.take (h : Rows e w O cs xs) (k : Nat) : Rows e w O (cs.take (k * e.n)) (xs.take k) := by
  induction xs generalizing cs k with
  | nil => cases h; simp [Rows]
  | cons x xs ih =>
    obtain ⟨c1, c2, rfl, h1, h2⟩ := h
    cases k with
    | zero => simp [Rows]
    | succ k =>
      have hl := e.len h1
      refine ⟨c1, c2.take (k * e.n), ?_, h1, ih h2 k⟩
      rw [List.take_append, hl, show (k + 1) * e.n - e.n = k * e.n by rw [Nat.add_mul]; omega, List.take_of_length_le (by rw [hl, Nat.add_mul]; omega)]
theorem Rows.drop (h : Rows e w O cs xs) (k : Nat) : Rows e w O (cs.drop (k * e.n)) (xs.drop k) := by
  induction xs generalizing cs k with
  | nil => cases h; simp [Rows]
  | cons x xs ih =>
    cases k with
    | zero => simpa using h
    | succ k =>
      obtain ⟨c1, c2, rfl, h1, h2⟩ := h
      have hl := e.len h1
      rw [List.drop_append, hl, show (k + 1) * e.n - e.n = k * e.n by rw [Nat.add_mul]; omega, List.drop_of_length_le (by rw [hl, Nat.add_mul]; omega)]
      exact ih h2 k
theorem Rows.get (h : Rows e w O cs xs) {i : Nat} {x : α} (hx : xs[i]? = some x) : ∃ c, e.rd w O c x ∧ ∀ j u, c[j]? = some u → cs[i * e.n + j]? = some u := by
  induction xs generalizing cs i with
  | nil => simp at hx
  | cons y xs ih =>
    obtain ⟨c1, c2, rfl, h1, h2⟩ := h
    cases i with
    | zero =>
      simp only [List.getElem?_cons_zero, Option.some.injEq] at hx
      subst hx
      refine ⟨c1, h1, fun j u hj => ?_⟩
      have : j < c1.length := by
        rcases Nat.lt_or_ge j c1.length with h | h
        · exact h
        · rw [List.getElem?_eq_none h] at hj; cases hj
      rw [Nat.zero_mul, Nat.zero_add, List.getElem?_append_left this]; exact hj
    | succ i =>
      obtain ⟨c, hc, hj⟩ := ih h2 (i := i) (by simpa using hx)
      refine ⟨c, hc, fun j u hu => ?_⟩
      have hl := e.len h1
      rw [List.getElem?_append_right (by rw [hl, Nat.add_mul]; omega), hl, show (i + 1) * e.n + j - e.n = i * e.n + j by rw [Nat.add_mul]; omega]
      exact hj j u hu
theorem Rows.set (h : Rows e w O cs xs) {i : Nat} {x : α} {c : List Value} (hc : e.rd w O c x) (hi : i < xs.length) : Rows e w O (cs.take (i * e.n) ++ c ++ cs.drop ((i + 1) * e.n)) (xs.set i x) := by
  have h1 := h.take i
  have h2 := h.drop (i + 1)
  rw [List.set_eq_take_append_cons_drop, if_pos hi, List.append_assoc]
  exact h1.append ⟨c, cs.drop ((i + 1) * e.n), rfl, hc, h2⟩
theorem Rows.nil_iff : Rows e w O cs [] ↔ cs = [] := Iff.rfl
end

/-! ### slices that are read -/
def SlP {α : Type} (e : Enc α) (w : World) (O : Perm) (v : Value) (xs : List α) : Prop :=
  ∃ a cap, v = .slice a xs.length cap ∧ xs.length ≤ cap ∧ cap ≤ maxLen ∧
    (((a = none ∨ cap = 0) ∧ xs = []) ∨ ∃ b off cs, a = some ⟨b, off, none⟩ ∧ 1 ≤ O b ∧ Rows e w O cs xs ∧ ∀ j u, cs[j]? = some u → w.cell? ⟨b, off + j, none⟩ = some u)

theorem SlP.mono {α : Type} {e : Enc α} {w : World} {O O' : Perm} {v : Value} {xs : List α} (h : SlP e w O v xs) (hO : ∀ b, O b ≤ O' b) : SlP e w O' v xs := by
  obtain ⟨a, cap, rfl, h1, h2, h3⟩ := h
  refine ⟨a, cap, rfl, h1, h2, h3.imp id ?_⟩
  rintro ⟨b, off, cs, rfl, hb, hr, hc⟩
  exact ⟨b, off, cs, rfl, Nat.le_trans hb (hO b), hr.mono hO, hc⟩
theorem SlP.loc {α : Type} {e : Enc α} {w w' : World} {O : Perm} {v : Value} {xs : List α} (h : SlP e w O v xs) (hw : ∀ b, O b ≠ 0 → w'.heap[b]? = w.heap[b]?) : SlP e w' O v xs := by
  obtain ⟨a, cap, rfl, h1, h2, h3⟩ := h
  refine ⟨a, cap, rfl, h1, h2, h3.imp id ?_⟩
  rintro ⟨b, off, cs, rfl, hb, hr, hc⟩
  refine ⟨b, off, cs, rfl, hb, hr.loc hw, fun j u hj => ?_⟩
  rw [World.cell?_of_block (w := w) (hw b (by omega))]
  exact hc j u hj
theorem SlP.dup {α : Type} {e : Enc α} {w : World} {O : Perm} {v : Value} {xs : List α} (h : SlP e w O v xs) : SlP e w (fun b => min (O b) 1) v xs := by
  obtain ⟨a, cap, rfl, h1, h2, h3⟩ := h
  refine ⟨a, cap, rfl, h1, h2, h3.imp id ?_⟩
  rintro ⟨b, off, cs, rfl, hb, hr, hc⟩
  exact ⟨b, off, cs, rfl, by show 1 ≤ min (O b) 1; omega, hr.dup, hc⟩

/-- v reads as xs. -/
def Sl {α : Type} (e : Enc α) (v : Value) (xs : List α) : A := ⟨fun w O => SlP e w O v xs, SlP.mono, SlP.loc⟩
theorem Sl.isDup {α : Type} (e : Enc α) (v : Value) (xs : List α) : (Sl e v xs).Dup := fun _ _ h => SlP.dup h

/-! ### rows of one's own -/
/-- v is a row of one's own (elements of type T): it may be appended to; what its elements lead to is read. -/
def Own {α : Type} (e : Enc α) (T : TypeId) (v : Value) (xs : List α) : A where
  h := fun w O => ∃ O1 O2 cs, Split O O1 O2 ∧ w.ownsRow 0 T e.n v xs.length cs ∧ (∀ k, v.ownBlock = some k → 2 ≤ O1 k) ∧ Rows e w O2 cs xs
  mono := fun ⟨O1, O2, cs, s, h1, h2, h3⟩ hO => ⟨O1, O2, cs, s.mono hO, h1, h2, h3⟩
  loc := fun {w w' O} ⟨O1, O2, cs, s, h1, h2, h3⟩ hw => by
    refine ⟨O1, O2, cs, s, ⟨h1.1, h1.2.imp id ?_⟩, h2, h3.loc fun b hb => hw b (by have := s.r b; omega)⟩
    rintro ⟨g, cap, cur, rfl, hg, hh, r⟩
    have := h2 g (by simp [Value.ownBlock])
    exact ⟨g, cap, cur, rfl, hg, (hw g (by have := s.l g; omega)).trans hh, r⟩

theorem Own.sl {α : Type} {e : Enc α} {T : TypeId} {v : Value} {xs : List α} {w : World} {O : Perm} (h : (Own e T v xs).h w O) : (Sl e v xs).h w O := by
  obtain ⟨O1, O2, cs, s, h1, h2, h3⟩ := h
  rcases h1.2 with ⟨rfl, h0⟩ | ⟨g, cap, cur, rfl, _, hg, hle, hmx, hcs, htk⟩
  · have : xs = [] := List.eq_nil_of_length_eq_zero h0
    subst this
    exact ⟨none, 0, rfl, Nat.le_refl _, Nat.zero_le _, .inl ⟨.inl rfl, rfl⟩⟩
  · refine ⟨some ⟨g, 0, none⟩, cap, rfl, hle, hmx, .inr ⟨g, 0, cs, rfl, by have := h2 g (by simp [Value.ownBlock]); have := s.l g; omega, h3.mono s.r, fun j u hj => ?_⟩⟩
    have hjl : j < xs.length * e.n := by
      rcases Nat.lt_or_ge j cs.length with h | h
      · rw [h3.length] at h; exact h
      · rw [List.getElem?_eq_none h] at hj; cases hj
    simp only [World.cell?, hg, Nat.zero_add]
    rw [← htk, List.getElem?_take, if_pos hjl] at hj
    simpa using hj
theorem Own.nil {α : Type} (e : Enc α) (T : TypeId) (w : World) (O : Perm) : (Own e T (.slice none 0 0) ([] : List α)).h w O :=
  ⟨fun _ => 0, fun _ => 0, [], ⟨fun _ => Nat.zero_le _, fun _ => Nat.zero_le _, fun _ _ => rfl, fun _ _ => rfl⟩, ⟨by simp, .inl ⟨rfl, rfl⟩⟩, fun k hk => by simp [Value.ownBlock] at hk, rfl⟩
theorem Sl.nil {α : Type} (e : Enc α) (w : World) (O : Perm) : (Sl e (.slice none 0 0) ([] : List α)).h w O := Own.sl (T := 0) (Own.nil e 0 w O)

/-! ### blocks -/
/-- Block b is one's own, of type T, and holds just cs. -/
def Blk (b : Nat) (T : TypeId) (cs : List Value) : A where
  h := fun w O => 2 ≤ O b ∧ w.heap[b]? = some (.cells cs.toArray T (0, 0))
  mono := fun ⟨h1, h2⟩ hO => ⟨Nat.le_trans h1 (hO b), h2⟩
  loc := fun ⟨h1, h2⟩ hw => ⟨h1, (hw b (by omega)).trans h2⟩
/-- Block b may be read, and holds just cs. -/
def BlkR (b : Nat) (T : TypeId) (cs : List Value) : A where
  h := fun w O => 1 ≤ O b ∧ ∃ fz, w.heap[b]? = some (.cells cs.toArray T fz)
  mono := fun ⟨h1, h2⟩ hO => ⟨Nat.le_trans h1 (hO b), h2⟩
  loc := fun ⟨h1, fz, h2⟩ hw => ⟨h1, fz, (hw b (by omega)).trans h2⟩
theorem BlkR.isDup (b : Nat) (T : TypeId) (cs : List Value) : (BlkR b T cs).Dup := fun _ _ ⟨h1, h2⟩ => ⟨by show 1 ≤ min _ 1; omega, h2⟩
theorem Blk.r {b : Nat} {T : TypeId} {cs : List Value} {w : World} {O : Perm} (h : (Blk b T cs).h w O) : (BlkR b T cs).h w O := ⟨by have := h.1; omega, _, h.2⟩
/-- Cells that read as x. -/
def Rd {α : Type} (e : Enc α) (cs : List Value) (x : α) : A := ⟨fun w O => e.rd w O cs x, e.mono, e.loc⟩
theorem Rd.isDup {α : Type} (e : Enc α) (cs : List Value) (x : α) : (Rd e cs x).Dup := fun _ _ h => e.dup h
def Pu (p : Prop) : A := ⟨fun _ _ => p, fun h _ => h, fun h _ => h⟩
def ExA {γ : Type} (f : γ → A) : A := ⟨fun w O => ∃ g, (f g).h w O, fun ⟨g, h⟩ hO => ⟨g, (f g).mono h hO⟩, fun ⟨g, h⟩ hw => ⟨g, (f g).loc h hw⟩⟩
/-- Several in one. -/
def AllA (l : List A) : A := ⟨fun w O => Stars l w O, Stars.mono, Stars.loc⟩

/-! ### encodings -/
def eInt (K : IntKind) : Enc Int where
  n := 1
  rd := fun _ _ cs x => cs = [.int K x]
  len := fun h => by rw [h]; rfl
  one := fun h u hu => by rw [h] at hu; simp at hu; rw [hu]; rfl
  mono := fun h _ => h
  loc := fun h _ => h
  dup := fun h => h
def eBool : Enc Bool where
  n := 1
  rd := fun _ _ cs x => cs = [.bool x]
  len := fun h => by rw [h]; rfl
  one := fun h u hu => by rw [h] at hu; simp at hu; rw [hu]; rfl
  mono := fun h _ => h
  loc := fun h _ => h
  dup := fun h => h
def eStr : Enc ByteArray where
  n := 1
  rd := fun _ _ cs x => cs = [.string x]
  len := fun h => by rw [h]; rfl
  one := fun h u hu => by rw [h] at hu; simp at hu; rw [hu]; rfl
  mono := fun h _ => h
  loc := fun h _ => h
  dup := fun h => h
def ePair {α β : Type} (e : Enc α) (f : Enc β) : Enc (α × β) where
  n := e.n + f.n
  rd := fun w O cs x => ∃ c1 c2, cs = c1 ++ c2 ∧ e.rd w O c1 x.1 ∧ f.rd w O c2 x.2
  len := fun ⟨c1, c2, h, h1, h2⟩ => by rw [h, List.length_append, e.len h1, f.len h2]
  one := fun ⟨c1, c2, h, h1, h2⟩ u hu => by
    rw [h] at hu
    rcases List.mem_append.1 hu with hu | hu
    · exact e.one h1 u hu
    · exact f.one h2 u hu
  mono := fun ⟨c1, c2, h, h1, h2⟩ hO => ⟨c1, c2, h, e.mono h1 hO, f.mono h2 hO⟩
  loc := fun ⟨c1, c2, h, h1, h2⟩ hw => ⟨c1, c2, h, e.loc h1 hw, f.loc h2 hw⟩
  dup := fun ⟨c1, c2, h, h1, h2⟩ => ⟨c1, c2, h, e.dup h1, f.dup h2⟩
def eMap {α β : Type} (g : α → β) (e : Enc β) : Enc α where
  n := e.n
  rd := fun w O cs x => e.rd w O cs (g x)
  len := fun h => e.len h
  one := fun h => e.one h
  mono := fun h hO => e.mono h hO
  loc := fun h hw => e.loc h hw
  dup := fun h => e.dup h
def eSl {α : Type} (e : Enc α) : Enc (List α) where
  n := 1
  rd := fun w O cs xs => ∃ v, cs = [v] ∧ SlP e w O v xs
  len := fun ⟨_, h, _⟩ => by rw [h]; rfl
  one := fun ⟨v, h, a, cap, hv, _⟩ u hu => by rw [h] at hu; simp at hu; rw [hu, hv]; rfl
  mono := fun ⟨v, h, h1⟩ hO => ⟨v, h, h1.mono hO⟩
  loc := fun ⟨v, h, h1⟩ hw => ⟨v, h, h1.loc hw⟩
  dup := fun ⟨v, h, h1⟩ => ⟨v, h, h1.dup⟩

/-! ### elements -/
/-- Where element i of a slice lies. -/
def elemAddr : Value → Nat → Nat → Addr
  | .slice (some a) _ _, i, n => ⟨a.block, a.off + i * n, none⟩
  | _, _, _ => ⟨0, 0, none⟩
/-- Element i of v reads as z: its cells, with what they lead to beside. -/
def Elem {α : Type} (L : List A) (e : Enc α) (v : Value) (i : Nat) (z : α) : Prop :=
  ∀ w O, Stars L w O → ∃ c, Stars (Rd e c z :: L) w O ∧ (∃ b, 1 ≤ O b ∧ (elemAddr v i e.n).block = b) ∧ ∀ j u, c[j]? = some u → w.cell? ⟨(elemAddr v i e.n).block, (elemAddr v i e.n).off + j, none⟩ = some u
/-- What may be lent. -/
def Lend (a b : A) : Prop := ∀ w O, a.h w O → ∃ O1 O2, Split O O1 O2 ∧ a.h w O1 ∧ b.h w O2 ∧ ∀ q, O2 q ≤ 1
theorem Lend.dup {a b : A} (hd : a.Dup) (h : ∀ w O, a.h w O → b.h w O) : Lend a b := fun w O ha =>
  ⟨fun b => min (O b) 1, fun b => min (O b) 1, ⟨fun _ => by show min _ _ ≤ _; omega, fun _ => by show min _ _ ≤ _; omega, fun _ h => by have h' : 2 ≤ min _ 1 := h; omega, fun _ h => by have h' : 2 ≤ min _ 1 := h; omega⟩, hd w O ha, h _ _ (hd w O ha), fun _ => by show min _ 1 ≤ 1; omega⟩
theorem Lend.pick {a b : A} {L L' : List A} (hp : Pick a L L') (hl : Lend a b) : ∀ w O, Stars L w O → Stars (b :: a :: L') w O := by
  intro w O hs
  obtain ⟨O1, O2, s, h1, h2⟩ := hp w O hs
  obtain ⟨P1, P2, t, g1, g2, _⟩ := hl w O1 h1
  refine ⟨P2, fun b => max (P1 b) (O2 b), ⟨fun b => ?_, fun b => ?_, fun b => ?_, fun b => ?_⟩, g2, P1, O2, ⟨fun b => ?_, fun b => ?_, fun b => ?_, fun b => ?_⟩, g1, h2⟩ <;>
    (have := s.l b; have := s.r b; have := s.lr b; have := s.rl b; have := t.l b; have := t.r b; have := t.lr b; have := t.rl b; omega)
/-- Something lent lies beside the list itself. -/
def Beside (b : A) (L : List A) : Prop := ∀ w O, Stars L w O → Stars (b :: L) w O
theorem Beside.here {a b : A} {L : List A} (hl : Lend a b) : Beside b (a :: L) := Lend.pick Pick.here hl
theorem Beside.there {a b : A} {L : List A} (h : Beside b L) : Beside b (a :: L) := by
  intro w O hs
  obtain ⟨O1, O2, s, h1, h2⟩ := hs
  obtain ⟨P1, P2, t, g1, g2⟩ := h w O2 h2
  refine ⟨P1, fun b => max (O1 b) (P2 b), ⟨fun b => ?_, fun b => ?_, fun b => ?_, fun b => ?_⟩, g1, O1, P2, ⟨fun b => ?_, fun b => ?_, fun b => ?_, fun b => ?_⟩, h1, g2⟩ <;>
    (have := s.l b; have := s.r b; have := s.lr b; have := s.rl b; have := t.l b; have := t.r b; have := t.lr b; have := t.rl b; omega)

theorem cell_in {cs : List Value} {j : Nat} {u : Value} (h : cs[j]? = some u) : j < cs.length := by
  rcases Nat.lt_or_ge j cs.length with h' | h'
  · exact h'
  · rw [List.getElem?_eq_none h'] at h; cases h

theorem SlP.elem {α : Type} {e : Enc α} {w : World} {O : Perm} {v : Value} {zs : List α} (h : SlP e w O v zs) {i : Nat} {z : α} (hz : zs[i]? = some z) :
    ∃ c, e.rd w O c z ∧ 1 ≤ O (elemAddr v i e.n).block ∧ ∀ j u, c[j]? = some u → w.cell? ⟨(elemAddr v i e.n).block, (elemAddr v i e.n).off + j, none⟩ = some u := by
  obtain ⟨a, cap, rfl, h1, h2, h3⟩ := h
  rcases h3 with ⟨_, rfl⟩ | ⟨b, off, cs, rfl, hb, hr, hc⟩
  · simp at hz
  · obtain ⟨c, hc1, hc2⟩ := hr.get hz
    refine ⟨c, hc1, hb, fun j u hj => ?_⟩
    have := hc _ u (hc2 j u hj)
    simpa [elemAddr, Nat.add_assoc] using this

theorem Elem.sl {α : Type} {e : Enc α} {v : Value} {zs : List α} {L : List A} {i : Nat} {z : α} (hz : zs[i]? = some z) : Elem (Sl e v zs :: L) e v i z := by
  intro w O hs
  obtain ⟨O1, O2, s, h1, h2⟩ := hs
  have hd := SlP.dup h1
  obtain ⟨c, hc, hb, hcell⟩ := SlP.elem hd hz
  refine ⟨c, ⟨fun b => min (O1 b) 1, fun b => max (min (O1 b) 1) (O2 b), ⟨fun b => ?_, fun b => ?_, fun b => ?_, fun b => ?_⟩, hc, fun b => min (O1 b) 1, O2, ⟨fun b => ?_, fun b => ?_, fun b => ?_, fun b => ?_⟩, hd, h2⟩,
    ⟨_, Nat.le_trans (Nat.le_trans hb (by show min _ _ ≤ _; omega)) (s.l _), rfl⟩, hcell⟩ <;>
    (have := s.l b; have := s.r b; have := s.lr b; have := s.rl b; omega)
theorem Elem.own {α : Type} {e : Enc α} {T : TypeId} {v : Value} {zs : List α} {L : List A} {i : Nat} {z : α} (hz : zs[i]? = some z) : Elem (Own e T v zs :: L) e v i z := by
  intro w O hs
  obtain ⟨O1, O2, s, h1, h2⟩ := hs
  obtain ⟨c0, _, hb, hcell0⟩ := SlP.elem (Own.sl h1) hz
  obtain ⟨P1, P2, cs, t, g1, g2, g3⟩ := h1
  have hd := g3.dup
  obtain ⟨c, hc, hcj⟩ := hd.get hz
  have hcell : ∀ j u, c[j]? = some u → w.cell? ⟨(elemAddr v i e.n).block, (elemAddr v i e.n).off + j, none⟩ = some u := by
    intro j u hj
    have hcs := hcj j u hj
    rcases g1.2 with ⟨rfl, h0⟩ | ⟨g, cap, cur, rfl, _, hg, hle, hmx, hcs', htk⟩
    · have : zs = [] := List.eq_nil_of_length_eq_zero h0
      subst this; simp at hz
    · have hl := cell_in hcs
      rw [g3.length] at hl
      simp only [elemAddr, World.cell?, hg, Nat.zero_add]
      rw [← htk, List.getElem?_take, if_pos hl] at hcs
      simpa using hcs
  refine ⟨c, ⟨fun b => min (P2 b) 1, fun b => max (max (P1 b) (min (P2 b) 1)) (O2 b), ⟨fun b => ?_, fun b => ?_, fun b => ?_, fun b => ?_⟩, hc, fun b => max (P1 b) (min (P2 b) 1), O2, ⟨fun b => ?_, fun b => ?_, fun b => ?_, fun b => ?_⟩,
    ⟨P1, fun b => min (P2 b) 1, cs, ⟨fun b => ?_, fun b => ?_, fun b => ?_, fun b => ?_⟩, g1, g2, hd⟩, h2⟩, ⟨_, Nat.le_trans hb (s.l _), rfl⟩, hcell⟩ <;>
    (have := s.l b; have := s.r b; have := s.lr b; have := s.rl b; have := t.l b; have := t.r b; have := t.lr b; have := t.rl b; omega)
theorem Elem.there {α : Type} {e : Enc α} {v : Value} {a : A} {L : List A} {i : Nat} {z : α} (h : Elem L e v i z) : Elem (a :: L) e v i z := by
  intro w O hs
  obtain ⟨O1, O2, s, h1, h2⟩ := hs
  obtain ⟨c, hs2, ⟨b, hb, hbe⟩, hcell⟩ := h w O2 h2
  obtain ⟨P1, P2, t, g1, g2⟩ := hs2
  refine ⟨c, ⟨P1, fun b => max (O1 b) (P2 b), ⟨fun b => ?_, fun b => ?_, fun b => ?_, fun b => ?_⟩, g1, O1, P2, ⟨fun b => ?_, fun b => ?_, fun b => ?_, fun b => ?_⟩, h1, g2⟩, ⟨b, Nat.le_trans hb (s.r b), hbe⟩, hcell⟩ <;>
    (have := s.l b; have := s.r b; have := s.lr b; have := s.rl b; have := t.l b; have := t.r b; have := t.lr b; have := t.rl b; omega)

/-! ### getting at what a list says -/
theorem Has.sl_own {α : Type} {e : Enc α} {T : TypeId} {v : Value} {xs : List α} {L : List A} : Has (Own e T v xs :: L) (Sl e v xs) := Has.here.imp fun _ _ h => Own.sl h
theorem Has.r_blk {b : Nat} {T : TypeId} {cs : List Value} {L : List A} : Has (Blk b T cs :: L) (BlkR b T cs) := Has.here.imp fun _ _ h => Blk.r h

section
variable {X : Cx} {k : List Item} {env : Env} {L : List A} {ops : Array Oper} {l : List Oper}
theorem c_ex {γ : Type} {f : γ → A} (h : ∀ g, Cfg X k env (f g :: L)) : Cfg X k env (ExA f :: L) := by
  intro a w O ha hs hr
  obtain ⟨O1, O2, s, ⟨g, hg⟩, h2⟩ := hs
  exact h g a w O ha ⟨O1, O2, s, hg, h2⟩ hr
theorem o_ex {γ : Type} {f : γ → A} (h : ∀ g, Ops X ops l k env (f g :: L)) : Ops X ops l k env (ExA f :: L) := by
  intro a w O ha hs hr
  obtain ⟨O1, O2, s, ⟨g, hg⟩, h2⟩ := hs
  exact h g a w O ha ⟨O1, O2, s, hg, h2⟩ hr
/-- A fact that the memory shows. -/
theorem c_fact {p : Prop} {a : A} (ha : Has L a) (hp : ∀ w O, a.h w O → p) (h : p → Cfg X k env L) : Cfg X k env L :=
  fun ac w O hac hs hr => h (hp w O (ha w O hs)) ac w O hac hs hr
theorem o_fact {p : Prop} {a : A} (ha : Has L a) (hp : ∀ w O, a.h w O → p) (h : p → Ops X ops l k env L) : Ops X ops l k env L :=
  fun ac w O hac hs hr => h (hp w O (ha w O hs)) ac w O hac hs hr
/-- Something that follows is laid beside. -/
theorem Ent.beside {b : A} {L : List A} (hb : ∀ w O, Stars L w O → b.h w fun _ => 0) : Ent L (b :: L) := fun w O hs =>
  ⟨fun _ => 0, O, ⟨fun b => Nat.zero_le _, fun b => Nat.le_refl _, fun b h => by omega, fun b h => rfl⟩, hb w O hs, hs⟩
theorem Ent.drop {b : A} {L : List A} : Ent (b :: L) L := fun w O hs => by
  obtain ⟨O1, O2, s, _, h2⟩ := hs
  exact h2.mono s.r
theorem Ent.cons {b : A} {L L' : List A} (h : Ent L L') : Ent (b :: L) (b :: L') := fun w O hs => by
  obtain ⟨O1, O2, s, h1, h2⟩ := hs
  exact ⟨O1, O2, s, h1, h w O2 h2⟩
theorem Ent.head {a b : A} {L : List A} (h : ∀ w O, a.h w O → b.h w O) : Ent (a :: L) (b :: L) := fun w O hs => by
  obtain ⟨O1, O2, s, h1, h2⟩ := hs
  exact ⟨O1, O2, s, h _ _ h1, h2⟩
/-- What is read may be laid beside once more, in another form. -/
theorem Ent.share {a b : A} {L L' : List A} (hp : Pick a L L') (hd : a.Dup) (hab : ∀ w O, a.h w O → b.h w O) : Ent L (b :: a :: L') := fun w O hs => by
  obtain ⟨O1, O2, s, h1, h2⟩ := (Pick.keep (l := L') hd) w O (hp w O hs)
  exact ⟨O1, O2, s, hab _ _ h1, h2⟩
end
end Go.SL
/- The rules of the operations on memory, and of calls. -/
namespace Go.SL
open Go

def evalAll (e : Env) : List Operand → Option (List Value)
  | [] => some []
  | x :: xs => match e.eval x, evalAll e xs with
    | some v, some vs => some (v :: vs)
    | _, _ => none
theorem Holds.all {X : Cx} {e : Env} {a : Act} (h : Holds X e a) : ∀ {xs : List Operand} {vs : List Value}, evalAll e xs = some vs → xs.map a.eval = vs
  | [], vs, hv => by simp [evalAll] at hv; simp [hv]
  | x :: xs, vs, hv => by
    unfold evalAll at hv
    split at hv
    · rename_i v vs' h1 h2
      cases hv
      rw [List.map_cons, h.eval h1, h.all h2]
    · cases hv

/-- A function with a body. -/
def Callable (P : Program) (f : FuncId) : Prop := ∀ args w, (callFunc f args).run P w = .ok (.enter f args) w
theorem callable_of {P : Program} {f : FuncId} {fn : Func} (hf : P.funcs[f]? = some fn) (hn : (fn.name == "runtime.NumGoroutine") = false) (hb : fn.body.isNone = false) : Callable P f := by
  intro args w
  have hb' : fn.body ≠ none := by intro h; rw [h] at hb; cases hb
  have hn' : fn.name ≠ "runtime.NumGoroutine" := by intro h; rw [h] at hn; simp at hn
  simp [callFunc, program, Sem.run, hf, hn', hb']

theorem Stars.app {l1 l2 : List A} {w : World} {O O1 O2 : Perm} (hs : Split O O1 O2) (h1 : Stars l1 w O1) (h2 : Stars l2 w O2) : Stars (l1 ++ l2) w O := by
  induction l1 generalizing O O1 with
  | nil => exact h2.mono hs.r
  | cons a l ih =>
    obtain ⟨P1, P2, t, g1, g2⟩ := h1
    refine ⟨P1, fun b => max (P2 b) (O2 b), ⟨fun b => ?_, fun b => ?_, fun b => ?_, fun b => ?_⟩, g1, ih (O := fun b => max (P2 b) (O2 b)) (O1 := P2) ⟨fun b => ?_, fun b => ?_, fun b => ?_, fun b => ?_⟩ g2⟩ <;>
      (have := hs.l b; have := hs.r b; have := hs.lr b; have := hs.rl b; have := t.l b; have := t.r b; have := t.lr b; have := t.rl b; omega)

/-- What is set aside stays, behind a step that touches the rest alone. -/
theorem frame {w w' : World} {O O1 O2 O' : Perm} {L2 : List A} (hdom : ∀ b, O b ≠ 0 → b < w.heap.size) (s : Split O O1 O2) (h2 : Stars L2 w O2) (hr : Rel w O1 w' O') :
    Split (fun b => max (O' b) (O2 b)) O' O2 ∧ Stars L2 w' O2 ∧ Rel w O w' (fun b => max (O' b) (O2 b)) := by
  have h2b : ∀ b, O2 b ≠ 0 → b < w.heap.size := fun b hb => hdom b (by have := s.r b; omega)
  refine ⟨⟨fun b => by omega, fun b => by omega, fun b hb => ?_, fun b hb => ?_⟩, h2.loc fun b hb => hr.old b (h2b b hb) ?_, ⟨hr.os, hr.tape, hr.output, hr.size, fun b hb hlt => hr.old b hb (by have := s.l b; omega), fun b hb => ?_, fun b hb => ?_⟩⟩
  · rcases Nat.lt_or_ge b w.heap.size with h | h
    · exact s.lr b (by have := hr.perm b h; omega)
    · rcases Nat.eq_zero_or_pos (O2 b) with h0 | h0
      · exact h0
      · exact absurd (h2b b (by omega)) (by omega)
  · have hb2 := h2b b (by omega)
    have := hr.perm b hb2
    have := s.rl b hb
    omega
  · have := s.lr b
    rcases Nat.lt_or_ge (O1 b) 2 with h | h
    · exact h
    · exact absurd (this h) hb
  · have := hr.perm b hb; have := s.l b; have := s.r b
    omega
  · by_cases h0 : O' b = 0
    · have : O2 b ≠ 0 := by
        have hb' : max (O' b) (O2 b) ≠ 0 := hb
        omega
      have := h2b b this; have := hr.size; omega
    · exact hr.dom b h0

/-! ### steps of the world -/
def fresh (w : World) (O : Perm) : Perm := fun b => if b = w.heap.size then 2 else O b
theorem rel_alloc {w : World} {O : Perm} (o : Obj) (hdom : ∀ b, O b ≠ 0 → b < w.heap.size) : Rel w O (w.alloc o) (fresh w O) := by
  refine ⟨rfl, rfl, rfl, by simp, fun b hb _ => ?_, fun b hb => ?_, fun b hb => ?_⟩
  · show (w.heap.push o)[b]? = _
    rw [Array.getElem?_push, if_neg (by omega)]
  · simp only [fresh]; rw [if_neg (by omega)]; omega
  · show b < (w.heap.push o).size
    simp only [Array.size_push]
    by_cases h : b = w.heap.size
    · omega
    · simp only [fresh, if_neg h] at hb; have := hdom b hb; omega
theorem stars_alloc {w : World} {O : Perm} {L : List A} {a : A} (o : Obj) (hdom : ∀ b, O b ≠ 0 → b < w.heap.size) (hs : Stars L w O) (ha : a.h (w.alloc o) fun b => if b = w.heap.size then 2 else 0) :
    Stars (a :: L) (w.alloc o) (fresh w O) := by
  have hn : O w.heap.size = 0 := by
    rcases Nat.eq_zero_or_pos (O w.heap.size) with h | h
    · exact h
    · have := hdom w.heap.size (by omega); omega
  refine ⟨_, O, ⟨fun b => ?_, fun b => ?_, fun b hb => ?_, fun b hb => ?_⟩, ha, hs.loc fun b hb => ?_⟩
  · simp only [fresh]; split <;> omega
  · simp only [fresh]; split
    · rename_i h; rw [h, hn]; omega
    · omega
  · by_cases h : b = w.heap.size
    · rw [h, hn]
    · simp [h] at hb
  · by_cases h : b = w.heap.size
    · rw [h, hn] at hb; omega
    · simp [h]
  · show (w.heap.push o)[b]? = _
    have := hdom b hb
    rw [Array.getElem?_push, if_neg (by omega)]
theorem heap_alloc (w : World) (o : Obj) : (w.alloc o).heap[w.heap.size]? = some o := by
  show (w.heap.push o)[w.heap.size]? = _
  simp

section
variable {K : Act → World → Prop} {X : Cx} {ops : Array Oper} {rest : List Oper} {kk : List Item} {env : Env} {L L1 : List A} {d : Nat} {T : TypeId} {pos : String} {af : Array Edge} {x y : Operand}

/-- A call. -/
theorem s_call {γ : Type} {ret : γ → Value} {pu : γ → Prop} {L' : γ → List A} {f : Operand} {g : FuncId} {first cap : List Value} {xs : List Operand} {args vs : List Value} {ts : Array TypeId} {Lp : List A}
    (hc : Callable X.P g) (spec : Con X.P g args Lp ret pu L')
    (hf : env.eval f = some (.func (.func g) first.toArray cap.toArray)) (hx : evalAll env xs = some vs) (hv : args = first ++ vs ++ cap) (hd : d < X.fn.ntmps) (hp : Picks Lp L L1)
    (k : ∀ g, pu g → Kont X ((d, ret g) :: env) (L' g ++ L1) K) :
    StepK X kk ⟨some d, .call ⟨.value f, xs.toArray, ts⟩, T, pos, af, none⟩ env L K := by
  intro a w O ha hs hr
  have hrun : (execOp a.eval ⟨some d, .call ⟨.value f, xs.toArray, ts⟩, T, pos, af, none⟩).run X.P w = .ok (.enter g args.toArray) w := by
    have h1 := ha.all hx
    have hargs : first.toArray ++ (xs.map a.eval).toArray ++ cap.toArray = args.toArray := by rw [h1, hv]; simp
    simp only [execOp, resolve, ha.eval hf, Deferred.ofValue, pure_bind, invoke, List.map_toArray]
    rw [hargs]
    exact hc _ _
  simp only [Oper.wp, hrun, Oper.upon]
  obtain ⟨O1, O2, s, h1, h2⟩ := hp.split w O hs
  refine (spec w O1 h1 (fun b hb => hr.dom b (by have := s.l b; omega))).mono ?_
  rintro e w' ⟨g, O', rfl, hpu, hL, hrel⟩
  obtain ⟨s', h2', hrel'⟩ := frame hr.dom s h2 hrel
  exact k g hpu _ w' _ (ha.put hd _) (Stars.app s' hL h2') (hr.trans hrel')
/-- A call of a function by its name. -/
theorem s_callf {γ : Type} {ret : γ → Value} {pu : γ → Prop} {L' : γ → List A} {g : FuncId} {xs : List Operand} {args : List Value} {ts : Array TypeId} {Lp : List A}
    (hc : Callable X.P g) (spec : Con X.P g args Lp ret pu L') (hx : evalAll env xs = some args) (hd : d < X.fn.ntmps) (hp : Picks Lp L L1)
    (k : ∀ g, pu g → Kont X ((d, ret g) :: env) (L' g ++ L1) K) :
    StepK X kk ⟨some d, .call ⟨.value (.func g), xs.toArray, ts⟩, T, pos, af, none⟩ env L K :=
  s_call hc spec (first := []) (cap := []) rfl hx (by simp) hd hp k

/-! ### slices -/
variable {α : Type} {e : Enc α} {v u : Value} {zs ys : List α} {E : TypeId}
theorem v_len_sl {t : TypeId} (hu : X.P.underlying t = some (.slice E)) (hx : env.eval x = some v) (hs : Has L (Sl e v zs)) : Val X env L (.call ⟨.builtin .len, #[x], #[t]⟩) T (.int .i64 zs.length) :=
  fun _ _ _ _ a w O ha hl => by
    obtain ⟨a0, cap, rfl, _⟩ := hs w O hl
    simp [execOp, resolve, invoke, builtin, Builtin.len_, ha.eval hx, run_underlying hu, goInt]

/-- The cells of an element's type. -/
def TI (P : Program) (t : TypeId) (z : Value) (n b : Nat) : Prop := ∃ i, P.info? t = some i ∧ i.zero = some z ∧ i.size = n ∧ i.bytes = b
theorem ti_of {P : Program} {t : TypeId} {z : Value} {n b : Nat} (h : (P.info? t).map (fun i => (i.zero, i.size, i.bytes)) = some (some z, n, b)) : TI P t z n b := by
  cases hi : P.info? t with
  | none => rw [hi] at h; cases h
  | some i =>
    rw [hi] at h
    simp only [Option.map_some, Option.some.injEq, Prod.mk.injEq] at h
    exact ⟨i, hi, h.1, h.2.1, h.2.2⟩
theorem v_indexAddr {t : TypeId} {K : IntKind} {n : Int} {z0 : Value} {bt : Nat} (hu : X.P.underlying t = some (.slice E)) (hE : TI X.P E z0 e.n bt) (hx : env.eval x = some v) (hy : env.eval y = some (.int K n))
    (hs : Has L (Sl e v zs)) (hb : 0 ≤ n ∧ n < zs.length) :
    Val X env L (.indexAddr t x y) T (.pointer (some (elemAddr v n.toNat e.n))) := by
  intro _ _ _ _ a w O ha hl
  obtain ⟨a0, cap, rfl, h1, h2, h3⟩ := hs w O hl
  obtain ⟨i, hi, _, hsz, _⟩ := hE
  rcases h3 with ⟨_, rfl⟩ | ⟨b, off, cs, rfl, _, _, _⟩
  · simp at hb; omega
  · have hadd : (⟨b, off, none⟩ : Addr).add (n.toNat * i.size) = elemAddr (.slice (some ⟨b, off, none⟩) zs.length cap) n.toNat e.n := by
      rw [hsz]
      show (if n.toNat * e.n = 0 then _ else _) = (⟨b, off + n.toNat * e.n, none⟩ : Addr)
      split
      · rename_i h; rw [h, Nat.add_zero]
      · rfl
    simp [execOp, ha.eval hx, ha.eval hy, Instr.indexAt, asIntOf, run_underlying hu, sizeOf, typeInfo, hi, hb, hadd]

/-- A type whose values have one cell, and are no struct. -/
def Lone (P : Program) (t : TypeId) : Prop := ∃ dsc, P.underlying t = some dsc ∧ (∀ g, dsc ≠ .struct g) ∧ ∀ n e, dsc ≠ .array n e
def loneB : TypeDesc → Bool
  | .struct _ | .array _ _ => false
  | _ => true
theorem lone_of {P : Program} {t : TypeId} {d : TypeDesc} (h : P.underlying t = some d) (hb : loneB d = true) : Lone P t :=
  ⟨d, h, (fun g e => by rw [e] at hb; cases hb), (fun n e h => by rw [h] at hb; cases hb)⟩
theorem Lone.run {P : Program} {t : TypeId} (h : Lone P t) (w : World) : (isAgg t).run P w = .ok false w := by
  obtain ⟨dsc, hu, h1, h2⟩ := h
  simp only [isAgg, Sem.run_bind, run_underlying hu, Result.andThen_ok]
  cases dsc <;> first | rfl | exact absurd rfl (h1 _) | exact absurd rfl (h2 _ _)
theorem run_loadLone {P : Program} {t : TypeId} {a : Addr} {w : World} {u : Value} (h : Lone P t) (hc : w.cell? a = some u) : (loadVar t a).run P w = .ok u w := by
  simp only [loadVar, Sem.run_bind, h.run, Result.andThen_ok]
  simp [hc]
/-- Some cells at an address. -/
def CellsAt (w : World) (a : Addr) (cs : List Value) : Prop := ∀ j u, cs[j]? = some u → w.cell? (a.add j) = some u
theorem run_loadAgg {P : Program} {t : TypeId} {a : Addr} {w : World} {cs : List Value} {i : TypeInfo} (h : ∃ fs, P.underlying t = some (.struct fs)) (hi : P.info? t = some i) (hn : i.size = cs.length) (hc : CellsAt w a cs) :
    (loadVar t a).run P w = .ok (.agg cs.toArray) w := by
  obtain ⟨fs, hu⟩ := h
  have hia : (isAgg t).run P w = .ok true w := by simp [isAgg, run_underlying hu]
  simp only [loadVar, Sem.run_bind, hia, Result.andThen_ok]
  have := run_loadCells_list (P := P) w a cs hc
  simp [sizeOf, typeInfo, hi, hn, this]

theorem v_field {i : Nat} {cs : Array Value} {u : Value} {xT : TypeId} {fs : Array Field} {f : Field} (hu : X.P.underlying xT = some (.struct fs)) (hf : fs[i]? = some f) (hv : Lone X.P f.type)
    (hx : env.eval x = some (.agg cs)) (hc : cs[f.offset]? = some u) : Val X env L (.field xT x i) T u :=
  fun _ _ _ _ a w O ha _ => by simp [execOp, ha.eval hx, Instr.field, run_underlying hu, hf, part, hv.run, hc, asAgg]
theorem v_indexAddrN {t : TypeId} {K : IntKind} {n : Nat} {z0 : Value} {bt : Nat} (hu : X.P.underlying t = some (.slice E)) (hE : TI X.P E z0 e.n bt) (hx : env.eval x = some v) (hy : env.eval y = some (.int K (n : Int)))
    (hs : Has L (Sl e v zs)) (hb : n < zs.length) : Val X env L (.indexAddr t x y) T (.pointer (some (elemAddr v n e.n))) := by
  have := v_indexAddr (X := X) (T := T) hu hE hx hy hs ⟨by omega, by omega⟩
  simpa using this

theorem v_makeFunc {f : Fn} {az bs : List Operand} {us vs : List Value} (h1 : evalAll env az = some us) (h2 : evalAll env bs = some vs) : Val X env L (.makeFunc f az.toArray bs.toArray) T (.func f us.toArray vs.toArray) :=
  fun _ _ _ _ a w O ha _ => by simp [execOp, Instr.makeFunc, ha.all h1, ha.all h2]
/-- An element of one cell is read. -/
theorem s_load_elem {i : Nat} {z : α} {t : TypeId} (ht : Lone X.P t) (h1 : e.n = 1) (hx : env.eval x = some (.pointer (some (elemAddr v i e.n)))) (hd : d < X.fn.ntmps)
    (he : Elem L e v i z) (k : ∀ u, Kont X ((d, u) :: env) (Rd e [u] z :: L) K) : StepK X kk ⟨some d, .load t x, T, pos, af, none⟩ env L K := by
  refine s_main (γ := Value) (V := fun u => u) (pu := fun _ => True) (L' := fun u => Rd e [u] z :: L) ?_ hd (fun u _ => k u)
  intro a w O ha hst hdom
  obtain ⟨c, hs, _, hc⟩ := he w O hst
  have hl : c.length = 1 := by
    obtain ⟨_, _, _, h, _⟩ := hs
    rw [e.len h, h1]
  obtain ⟨u, rfl⟩ := List.length_eq_one_iff.1 hl
  have hcell := hc 0 u rfl
  refine ⟨u, w, O, ?_, trivial, hs, Rel.refl hdom⟩
  have hsp : (elemAddr v i e.n).spot = none := by unfold elemAddr; split <;> rfl
  have : elemAddr v i e.n = ⟨(elemAddr v i e.n).block, (elemAddr v i e.n).off + 0, none⟩ := by
    rw [Nat.add_zero]
    cases hh : elemAddr v i e.n
    rw [hh] at hsp
    simp only at hsp
    rw [hsp]
  rw [← this] at hcell
  simp [execOp, ha.eval hx, Instr.loadAt, Instr.sureAddr, run_loadLone ht hcell]
/-- The same where the value is told by the element alone. -/
theorem v_load_val {i : Nat} {z : α} {t : TypeId} {f : α → Value} (ht : Lone X.P t) (hf : ∀ w O cs x, e.rd w O cs x → cs = [f x]) (hx : env.eval x = some (.pointer (some (elemAddr v i e.n))))
    (he : Elem L e v i z) : Val X env L (.load t x) T (f z) := by
  intro _ _ _ _ a w O ha hst
  obtain ⟨c, hs, _, hc⟩ := he w O hst
  have hl : c = [f z] := by
    obtain ⟨_, _, _, h, _⟩ := hs
    exact hf _ _ _ _ h
  subst hl
  have hcell := hc 0 _ rfl
  have hsp : (elemAddr v i e.n).spot = none := by unfold elemAddr; split <;> rfl
  have : elemAddr v i e.n = ⟨(elemAddr v i e.n).block, (elemAddr v i e.n).off + 0, none⟩ := by
    rw [Nat.add_zero]
    cases hh : elemAddr v i e.n
    rw [hh] at hsp
    simp only at hsp
    rw [hsp]
  rw [← this] at hcell
  simp [execOp, ha.eval hx, Instr.loadAt, Instr.sureAddr, run_loadLone ht hcell]
theorem v_load_str {i : Nat} {z : ByteArray} {t : TypeId} (ht : Lone X.P t) (hx : env.eval x = some (.pointer (some (elemAddr v i 1)))) (he : Elem L eStr v i z) : Val X env L (.load t x) T (.string z) :=
  v_load_val (e := eStr) ht (fun _ _ _ _ h => h) hx he
theorem v_load_int {i : Nat} {K : IntKind} {z : Int} {t : TypeId} (ht : Lone X.P t) (hx : env.eval x = some (.pointer (some (elemAddr v i 1)))) (he : Elem L (eInt K) v i z) : Val X env L (.load t x) T (.int K z) :=
  v_load_val (e := eInt K) ht (fun _ _ _ _ h => h) hx he
theorem v_load_bool {i : Nat} {z : Bool} {t : TypeId} (ht : Lone X.P t) (hx : env.eval x = some (.pointer (some (elemAddr v i 1)))) (he : Elem L eBool v i z) : Val X env L (.load t x) T (.bool z) :=
  v_load_val (e := eBool) ht (fun _ _ _ _ h => h) hx he
/-- An element that is a struct. -/
theorem s_load_agg {i : Nat} {z : α} {t : TypeId} {z0 : Value} {bt : Nat} (ht : ∃ fs, X.P.underlying t = some (.struct fs)) (hE : TI X.P t z0 e.n bt) (hx : env.eval x = some (.pointer (some (elemAddr v i e.n)))) (hd : d < X.fn.ntmps)
    (he : Elem L e v i z) (k : ∀ c : List Value, Kont X ((d, .agg c.toArray) :: env) (Rd e c z :: L) K) : StepK X kk ⟨some d, .load t x, T, pos, af, none⟩ env L K := by
  refine s_main (γ := List Value) (V := fun c => .agg c.toArray) (pu := fun _ => True) (L' := fun c => Rd e c z :: L) ?_ hd (fun u _ => k u)
  intro a w O ha hst hdom
  obtain ⟨c, hs, _, hc⟩ := he w O hst
  have hl : c.length = e.n := by
    obtain ⟨_, _, _, h, _⟩ := hs
    exact e.len h
  obtain ⟨ti, hi, _, hsz, _⟩ := hE
  have hca : CellsAt w (elemAddr v i e.n) c := fun j u hj => by
    have := hc j u hj
    have hsp : (elemAddr v i e.n).spot = none := by unfold elemAddr; split <;> rfl
    unfold Addr.add
    split
    · rename_i h0
      subst h0
      cases hh : elemAddr v i e.n
      rw [hh] at hsp this
      simp only at hsp this
      rw [hsp]; simpa using this
    · exact this
  refine ⟨c, w, O, ?_, trivial, hs, Rel.refl hdom⟩
  have := run_loadAgg ht hi (by rw [hsz, hl]) hca
  simp [execOp, ha.eval hx, Instr.loadAt, Instr.sureAddr, this]

/-! ### cuts -/
theorem SlP.cut {w : World} {O : Perm} {a0 : Option Addr} {cap lo hi c' : Nat} (h : SlP e w O (.slice a0 zs.length cap) zs) (h1 : lo ≤ hi) (h2 : hi ≤ zs.length) (h3 : hi ≤ c') (h4 : c' ≤ cap) :
    SlP e w O (.slice (if c' = lo then a0 else a0.map (·.add (lo * e.n))) (hi - lo) (c' - lo)) ((zs.take hi).drop lo) := by
  obtain ⟨a, cap', hv, g1, g2, g3⟩ := h
  simp only [Value.slice.injEq, true_and] at hv
  obtain ⟨rfl, rfl⟩ := hv
  have hlen : ((zs.take hi).drop lo).length = hi - lo := by simp; omega
  refine ⟨_, _, by rw [hlen], by rw [hlen]; omega, by omega, ?_⟩
  rcases g3 with ⟨ha, rfl⟩ | ⟨b, off, cs, rfl, hb, hr, hc⟩
  · left; constructor
    · rcases ha with rfl | ha
      · left; split <;> rfl
      · right; omega
    · simp
  · right
    by_cases hc' : c' = lo
    · rw [if_pos hc']
      have : (zs.take hi).drop lo = [] := List.eq_nil_of_length_eq_zero (by rw [hlen]; omega)
      rw [this]
      exact ⟨b, off, [], rfl, hb, rfl, fun j u hj => by simp at hj⟩
    · rw [if_neg hc']
      refine ⟨b, off + lo * e.n, (cs.take (hi * e.n)).drop (lo * e.n), ?_, hb, (hr.take hi).drop lo, fun j u hj => ?_⟩
      · simp only [Option.map_some, Option.some.injEq, Addr.add]
        split
        · rename_i h; rw [h, Nat.add_zero]
        · rfl
      · rw [List.getElem?_drop, List.getElem?_take] at hj
        split at hj
        · have := hc _ u hj
          rwa [← Nat.add_assoc] at this
        · cases hj

/-- v[lo:hi], v[lo:], v[:hi], within the length. -/
theorem s_slice {t : TypeId} {z0 : Value} {bt sz : Nat} {lo hi : Option Operand} {l h : Nat} (hu : X.P.underlying t = some (.slice E)) (hE : TI X.P E z0 sz bt) (hx : env.eval x = some v) (hp : Pick (Sl e v zs) L L1) (hsz0 : e.n = sz)
    (hlo : (lo = none ∧ l = 0) ∨ ∃ o K n, lo = some o ∧ env.eval o = some (.int K n) ∧ 0 ≤ n ∧ n.toNat = l)
    (hhi : (hi = none ∧ h = zs.length) ∨ ∃ o K n, hi = some o ∧ env.eval o = some (.int K n) ∧ 0 ≤ n ∧ n.toNat = h)
    (h1 : l ≤ h) (h2 : h ≤ zs.length) (hd : d < X.fn.ntmps)
    (k : ∀ u, Kont X ((d, u) :: env) (Sl e u ((zs.take h).drop l) :: Sl e v zs :: L1) K) :
    StepK X kk ⟨some d, .slice t x lo hi none, T, pos, af, none⟩ env L K := by
  subst hsz0
  refine s_main (γ := Value) (V := fun u => u) (pu := fun _ => True) (L' := fun u => Sl e u ((zs.take h).drop l) :: Sl e v zs :: L1) ?_ hd (fun u _ => k u)
  intro a w O ha hst hdom
  obtain ⟨O1, O2, s, hs1, hs2⟩ := hp w O hst
  have hs1' := hs1
  obtain ⟨a0, cap, rfl, g1, g2, g3⟩ := hs1'
  obtain ⟨ti, hi', _, hsz, _⟩ := hE
  have hcut : ∀ w O, (Sl e (.slice a0 zs.length cap) zs).h w O → (Sl e (.slice (if cap = l then a0 else a0.map (·.add (l * e.n))) (h - l) (cap - l)) ((zs.take h).drop l)).h w O := fun w O hh => SlP.cut hh h1 h2 (by omega) (Nat.le_refl _)
  refine ⟨.slice (if cap = l then a0 else a0.map (·.add (l * e.n))) (h - l) (cap - l), w, O, ?_, trivial, ?_, Rel.refl hdom⟩
  · have hbl : ∀ {o : Operand} {K : IntKind} {n : Int} {m : Nat} {c : BoundsCode}, env.eval o = some (.int K n) → 0 ≤ n → n.toNat ≤ m → (Instr.sliceBound (a.eval o) m c).run X.P w = .ok n.toNat w := by
      intro o K n m c ho h0 hm
      rw [ha.eval ho, run_sliceBound (w := w) K n m c h0 (by omega)]
    have hbd : (Instr.sliceBounds true zs.length cap (lo.map a.eval) (hi.map a.eval) none).run X.P w = .ok (l, h, cap) w := by
      rcases hlo with ⟨rfl, rfl⟩ | ⟨o1, K1, n1, rfl, ho1, hn1, rfl⟩ <;> rcases hhi with ⟨rfl, rfl⟩ | ⟨o2, K2, n2, rfl, ho2, hn2, rfl⟩
      · simp [Instr.sliceBounds]
      · simp [Instr.sliceBounds, hbl (m := cap) (c := .sliceAcap) ho2 hn2 (by omega)]
      · simp [Instr.sliceBounds, hbl (m := zs.length) (c := .sliceB) ho1 hn1 (by omega)]
      · simp [Instr.sliceBounds, hbl (m := cap) (c := .sliceAcap) ho2 hn2 (by omega), hbl (m := n2.toNat) (c := .sliceB) ho1 hn1 (by omega)]
    have hst : (Instr.sliceAt t (.slice a0 zs.length cap) (lo.map a.eval) (hi.map a.eval) none).run X.P w = .ok (.slice (if cap = l then a0 else a0.map (·.add (l * e.n))) (h - l) (cap - l)) w := by
      simp [Instr.sliceAt, Instr.slice, run_underlying hu, hbd, sizeOf, typeInfo, hi', hsz]
    simp [execOp, ha.eval hx, hst]
  · have := Lend.pick (L := Sl e (.slice a0 zs.length cap) zs :: L1) (b := Sl e (.slice (if cap = l then a0 else a0.map (·.add (l * e.n))) (h - l) (cap - l)) ((zs.take h).drop l)) Pick.here (Lend.dup (Sl.isDup e _ zs) hcut) w O ⟨O1, O2, s, hs1, hs2⟩
    exact this
end
end Go.SL
namespace Go.Proofs.Ytnamhhmfnokfiaa
open Go Go.SL
theorem ti0 : TI Try.prog 0 (.tuple #[]) 1 0 := ti_of (by kernel_rfl)
theorem ti1 : TI Try.prog 1 (.nilFunc) 1 8 := ti_of (by kernel_rfl)
theorem ti2 : TI Try.prog 2 (.int .i64 0) 1 8 := ti_of (by kernel_rfl)
theorem ti3 : TI Try.prog 3 (.int .i64 0) 1 8 := ti_of (by kernel_rfl)
theorem ti4 : TI Try.prog 4 (.bool false) 1 1 := ti_of (by kernel_rfl)
theorem ti5 : TI Try.prog 5 (.int .u8 0) 1 1 := ti_of (by kernel_rfl)
theorem ti6 : TI Try.prog 6 (.int .u8 0) 1 1 := ti_of (by kernel_rfl)
theorem ti7 : TI Try.prog 7 (.agg #[.int .i64 0, .int .i64 0, .bool false, .int .u8 0]) 4 24 := ti_of (by kernel_rfl)
theorem ti8 : TI Try.prog 8 (.agg #[.int .i64 0, .int .i64 0, .bool false, .int .u8 0]) 4 24 := ti_of (by kernel_rfl)
theorem ti9 : TI Try.prog 9 (.string ⟨#[]⟩) 1 16 := ti_of (by kernel_rfl)
theorem ti10 : TI Try.prog 10 (.string ⟨#[]⟩) 1 16 := ti_of (by kernel_rfl)
theorem ti11 : TI Try.prog 11 (.string ⟨#[]⟩) 1 16 := ti_of (by kernel_rfl)
theorem ti12 : TI Try.prog 12 (.int .u64 0) 1 8 := ti_of (by kernel_rfl)
theorem ti13 : TI Try.prog 13 (.agg #[.string ⟨#[]⟩, .int .u64 0]) 2 24 := ti_of (by kernel_rfl)
theorem ti14 : TI Try.prog 14 (.agg #[.string ⟨#[]⟩, .int .u64 0]) 2 24 := ti_of (by kernel_rfl)
theorem ti15 : TI Try.prog 15 (.pointer none) 1 8 := ti_of (by kernel_rfl)
theorem ti16 : TI Try.prog 16 (.pointer none) 1 8 := ti_of (by kernel_rfl)
theorem ti17 : TI Try.prog 17 (.pointer none) 1 8 := ti_of (by kernel_rfl)
theorem ti18 : TI Try.prog 18 (.agg #[.pointer none]) 1 8 := ti_of (by kernel_rfl)
theorem ti19 : TI Try.prog 19 (.agg #[.pointer none]) 1 8 := ti_of (by kernel_rfl)
theorem ti20 : TI Try.prog 20 (.nilIface) 1 16 := ti_of (by kernel_rfl)
theorem ti21 : TI Try.prog 21 (.int .i32 0) 1 4 := ti_of (by kernel_rfl)
theorem ti22 : TI Try.prog 22 (.slice none 0 0) 1 24 := ti_of (by kernel_rfl)
theorem ti23 : TI Try.prog 23 (.nilFunc) 1 8 := ti_of (by kernel_rfl)
theorem ti24 : TI Try.prog 24 (.nilFunc) 1 8 := ti_of (by kernel_rfl)
theorem ti25 : TI Try.prog 25 (.pointer none) 1 8 := ti_of (by kernel_rfl)
theorem ti26 : TI Try.prog 26 (.map none) 1 8 := ti_of (by kernel_rfl)
theorem ti27 : TI Try.prog 27 (.agg #[.map none]) 1 8 := ti_of (by kernel_rfl)
theorem ti28 : TI Try.prog 28 (.agg #[.map none]) 1 8 := ti_of (by kernel_rfl)
theorem ti29 : TI Try.prog 29 (.slice none 0 0) 1 24 := ti_of (by kernel_rfl)
theorem ti30 : TI Try.prog 30 (.slice none 0 0) 1 24 := ti_of (by kernel_rfl)
theorem ti31 : TI Try.prog 31 (.agg #[.int .i64 0, .int .i64 0, .int .i64 0, .string ⟨#[]⟩, .slice none 0 0]) 5 64 := ti_of (by kernel_rfl)
theorem ti32 : TI Try.prog 32 (.agg #[.int .i64 0, .int .i64 0, .int .i64 0, .string ⟨#[]⟩, .slice none 0 0]) 5 64 := ti_of (by kernel_rfl)
theorem ti33 : TI Try.prog 33 (.tuple #[.pointer none, .slice none 0 0, .bool false]) 1 0 := ti_of (by kernel_rfl)
theorem ti34 : TI Try.prog 34 (.nilFunc) 1 8 := ti_of (by kernel_rfl)
theorem ti35 : TI Try.prog 35 (.slice none 0 0) 1 24 := ti_of (by kernel_rfl)
theorem ti36 : TI Try.prog 36 (.nilFunc) 1 8 := ti_of (by kernel_rfl)
theorem ti37 : TI Try.prog 37 (.slice none 0 0) 1 24 := ti_of (by kernel_rfl)
theorem ti38 : TI Try.prog 38 (.agg #[.int .i64 0, .string ⟨#[]⟩, .slice none 0 0]) 3 48 := ti_of (by kernel_rfl)
theorem ti39 : TI Try.prog 39 (.agg #[.int .i64 0, .string ⟨#[]⟩, .slice none 0 0]) 3 48 := ti_of (by kernel_rfl)
theorem ti40 : TI Try.prog 40 (.tuple #[.string ⟨#[]⟩, .bool false]) 1 0 := ti_of (by kernel_rfl)
theorem ti41 : TI Try.prog 41 (.nilFunc) 1 8 := ti_of (by kernel_rfl)
theorem ti42 : TI Try.prog 42 (.nilFunc) 1 8 := ti_of (by kernel_rfl)
theorem ti43 : TI Try.prog 43 (.nilFunc) 1 8 := ti_of (by kernel_rfl)
theorem ti44 : TI Try.prog 44 (.slice none 0 0) 1 24 := ti_of (by kernel_rfl)
theorem ti45 : TI Try.prog 45 (.agg #[.int .i64 0, .slice none 0 0]) 2 32 := ti_of (by kernel_rfl)
theorem ti46 : TI Try.prog 46 (.agg #[.int .i64 0, .slice none 0 0]) 2 32 := ti_of (by kernel_rfl)
theorem ti47 : TI Try.prog 47 (.int .i64 0) 1 8 := ti_of (by kernel_rfl)
theorem ti48 : TI Try.prog 48 (.nilFunc) 1 8 := ti_of (by kernel_rfl)
theorem ti49 : TI Try.prog 49 (.slice none 0 0) 1 24 := ti_of (by kernel_rfl)
theorem ti50 : TI Try.prog 50 (.tuple #[.slice none 0 0, .int .i64 0]) 1 0 := ti_of (by kernel_rfl)
theorem ti51 : TI Try.prog 51 (.nilFunc) 1 8 := ti_of (by kernel_rfl)
theorem ti52 : TI Try.prog 52 (.nilFunc) 1 8 := ti_of (by kernel_rfl)
theorem ti53 : TI Try.prog 53 (.nilFunc) 1 8 := ti_of (by kernel_rfl)
theorem ti54 : TI Try.prog 54 (.nilFunc) 1 8 := ti_of (by kernel_rfl)
theorem ti55 : TI Try.prog 55 (.agg #[.int .i64 0, .slice none 0 0, .bool false]) 3 40 := ti_of (by kernel_rfl)
theorem ti56 : TI Try.prog 56 (.agg #[.int .i64 0, .slice none 0 0, .bool false]) 3 40 := ti_of (by kernel_rfl)
theorem ti57 : TI Try.prog 57 (.nilFunc) 1 8 := ti_of (by kernel_rfl)
theorem ti58 : TI Try.prog 58 (.nilFunc) 1 8 := ti_of (by kernel_rfl)
theorem ti59 : TI Try.prog 59 (.nilFunc) 1 8 := ti_of (by kernel_rfl)
theorem ti60 : TI Try.prog 60 (.agg #[.int .i64 0, .slice none 0 0, .bool false]) 3 40 := ti_of (by kernel_rfl)
theorem ti61 : TI Try.prog 61 (.nilFunc) 1 8 := ti_of (by kernel_rfl)
theorem ti62 : TI Try.prog 62 (.slice none 0 0) 1 24 := ti_of (by kernel_rfl)
theorem ti63 : TI Try.prog 63 (.nilFunc) 1 8 := ti_of (by kernel_rfl)
theorem ti64 : TI Try.prog 64 (.nilFunc) 1 8 := ti_of (by kernel_rfl)
theorem ti65 : TI Try.prog 65 (.nilFunc) 1 8 := ti_of (by kernel_rfl)
theorem ti66 : TI Try.prog 66 (.nilFunc) 1 8 := ti_of (by kernel_rfl)
theorem ti67 : TI Try.prog 67 (.nilFunc) 1 8 := ti_of (by kernel_rfl)
theorem ti68 : TI Try.prog 68 (.nilFunc) 1 8 := ti_of (by kernel_rfl)
theorem ti69 : TI Try.prog 69 (.slice none 0 0) 1 24 := ti_of (by kernel_rfl)
theorem ti70 : TI Try.prog 70 (.nilFunc) 1 8 := ti_of (by kernel_rfl)
theorem ti71 : TI Try.prog 71 (.pointer none) 1 8 := ti_of (by kernel_rfl)
theorem ti72 : TI Try.prog 72 (.map none) 1 8 := ti_of (by kernel_rfl)
theorem ti73 : TI Try.prog 73 (.map none) 1 8 := ti_of (by kernel_rfl)
theorem ti74 : TI Try.prog 74 (.agg #[.map none, .map none]) 2 16 := ti_of (by kernel_rfl)
theorem ti75 : TI Try.prog 75 (.agg #[.map none, .map none]) 2 16 := ti_of (by kernel_rfl)
theorem ti76 : TI Try.prog 76 (.slice none 0 0) 1 24 := ti_of (by kernel_rfl)
theorem ti77 : TI Try.prog 77 (.agg #[.slice none 0 0, .slice none 0 0]) 2 48 := ti_of (by kernel_rfl)
theorem ti78 : TI Try.prog 78 (.agg #[.slice none 0 0, .slice none 0 0]) 2 48 := ti_of (by kernel_rfl)
theorem ti79 : TI Try.prog 79 (.agg #[.int .i64 0, .int .i64 0, .string ⟨#[]⟩, .int .i64 0]) 4 40 := ti_of (by kernel_rfl)
theorem ti80 : TI Try.prog 80 (.agg #[.int .i64 0, .int .i64 0, .string ⟨#[]⟩, .int .i64 0]) 4 40 := ti_of (by kernel_rfl)
theorem ti81 : TI Try.prog 81 (.tuple #[.pointer none, .agg #[.slice none 0 0, .slice none 0 0], .bool false]) 1 0 := ti_of (by kernel_rfl)
theorem ti82 : TI Try.prog 82 (.nilFunc) 1 8 := ti_of (by kernel_rfl)
theorem ti83 : TI Try.prog 83 (.nilFunc) 1 8 := ti_of (by kernel_rfl)
theorem ti84 : TI Try.prog 84 (.nilFunc) 1 8 := ti_of (by kernel_rfl)
theorem ti85 : TI Try.prog 85 (.tuple #[.int .i64 0, .bool false]) 1 0 := ti_of (by kernel_rfl)
theorem ti86 : TI Try.prog 86 (.nilFunc) 1 8 := ti_of (by kernel_rfl)
theorem ti87 : TI Try.prog 87 (.nilFunc) 1 8 := ti_of (by kernel_rfl)
theorem ti88 : TI Try.prog 88 (.nilFunc) 1 8 := ti_of (by kernel_rfl)
theorem ti89 : TI Try.prog 89 (.agg #[.int .i64 0, .string ⟨#[]⟩, .int .i64 0]) 3 32 := ti_of (by kernel_rfl)
theorem ti90 : TI Try.prog 90 (.agg #[.int .i64 0, .string ⟨#[]⟩, .int .i64 0]) 3 32 := ti_of (by kernel_rfl)
theorem ti91 : TI Try.prog 91 (.map none) 1 8 := ti_of (by kernel_rfl)
theorem ti92 : TI Try.prog 92 (.nilFunc) 1 8 := ti_of (by kernel_rfl)
theorem ti93 : TI Try.prog 93 (.agg #[.string ⟨#[]⟩, .bool false]) 2 24 := ti_of (by kernel_rfl)
theorem ti94 : TI Try.prog 94 (.agg #[.string ⟨#[]⟩, .bool false]) 2 24 := ti_of (by kernel_rfl)
theorem ti95 : TI Try.prog 95 (.tuple #[.bool false, .int .i64 0]) 1 0 := ti_of (by kernel_rfl)
theorem ti96 : TI Try.prog 96 (.nilFunc) 1 8 := ti_of (by kernel_rfl)
theorem ti97 : TI Try.prog 97 (.map none) 1 8 := ti_of (by kernel_rfl)
theorem ti98 : TI Try.prog 98 (.tuple #[.string ⟨#[]⟩, .int .i64 0, .bool false]) 1 0 := ti_of (by kernel_rfl)
theorem ti99 : TI Try.prog 99 (.nilFunc) 1 8 := ti_of (by kernel_rfl)
theorem ti100 : TI Try.prog 100 (.nilFunc) 1 8 := ti_of (by kernel_rfl)
theorem ti101 : TI Try.prog 101 (.tuple #[.slice none 0 0, .int .i64 0]) 1 0 := ti_of (by kernel_rfl)
theorem ti102 : TI Try.prog 102 (.nilFunc) 1 8 := ti_of (by kernel_rfl)
theorem ti103 : TI Try.prog 103 (.nilFunc) 1 8 := ti_of (by kernel_rfl)
theorem ti104 : TI Try.prog 104 (.tuple #[.slice none 0 0, .slice none 0 0]) 1 0 := ti_of (by kernel_rfl)
theorem ti105 : TI Try.prog 105 (.nilFunc) 1 8 := ti_of (by kernel_rfl)
theorem ti106 : TI Try.prog 106 (.tuple #[.slice none 0 0, .slice none 0 0, .int .i64 0]) 1 0 := ti_of (by kernel_rfl)
theorem ti107 : TI Try.prog 107 (.nilFunc) 1 8 := ti_of (by kernel_rfl)
theorem ti108 : TI Try.prog 108 (.nilFunc) 1 8 := ti_of (by kernel_rfl)
theorem ti109 : TI Try.prog 109 (.nilFunc) 1 8 := ti_of (by kernel_rfl)
theorem ti110 : TI Try.prog 110 (.nilFunc) 1 8 := ti_of (by kernel_rfl)
theorem ti111 : TI Try.prog 111 (.nilFunc) 1 8 := ti_of (by kernel_rfl)
theorem ti112 : TI Try.prog 112 (.pointer none) 1 8 := ti_of (by kernel_rfl)
theorem ti113 : TI Try.prog 113 (.agg #[.string ⟨#[]⟩, .slice none 0 0]) 2 40 := ti_of (by kernel_rfl)
theorem ti114 : TI Try.prog 114 (.agg #[.string ⟨#[]⟩, .slice none 0 0]) 2 40 := ti_of (by kernel_rfl)
theorem ti115 : TI Try.prog 115 (.nilFunc) 1 8 := ti_of (by kernel_rfl)
theorem ti116 : TI Try.prog 116 (.nilFunc) 1 8 := ti_of (by kernel_rfl)
theorem ti117 : TI Try.prog 117 (.nilFunc) 1 8 := ti_of (by kernel_rfl)
theorem ti118 : TI Try.prog 118 (.nilFunc) 1 8 := ti_of (by kernel_rfl)
theorem ti119 : TI Try.prog 119 (.agg #[.bool false, .bool false, .bool false, .bool false]) 4 4 := ti_of (by kernel_rfl)
theorem ti120 : TI Try.prog 120 (.agg #[.bool false, .bool false, .bool false, .bool false, .bool false, .bool false, .bool false, .bool false, .bool false, .bool false, .bool false, .bool false, .bool false, .bool false, .bool false, .bool false]) 16 16 := ti_of (by kernel_rfl)
theorem ti121 : TI Try.prog 121 (.nilFunc) 1 8 := ti_of (by kernel_rfl)
theorem ti122 : TI Try.prog 122 (.nilFunc) 1 8 := ti_of (by kernel_rfl)
theorem ti123 : TI Try.prog 123 (.tuple #[.agg #[.slice none 0 0, .slice none 0 0], .bool false, .int .i64 0]) 1 0 := ti_of (by kernel_rfl)
theorem ti124 : TI Try.prog 124 (.nilFunc) 1 8 := ti_of (by kernel_rfl)
theorem ti125 : TI Try.prog 125 (.tuple #[.agg #[.slice none 0 0, .slice none 0 0], .slice none 0 0]) 1 0 := ti_of (by kernel_rfl)
theorem ti126 : TI Try.prog 126 (.nilFunc) 1 8 := ti_of (by kernel_rfl)
theorem ti127 : TI Try.prog 127 (.nilFunc) 1 8 := ti_of (by kernel_rfl)
theorem ti128 : TI Try.prog 128 (.nilFunc) 1 8 := ti_of (by kernel_rfl)
theorem ti129 : TI Try.prog 129 (.tuple #[.agg #[.int .i64 0, .string ⟨#[]⟩, .int .i64 0], .bool false]) 1 0 := ti_of (by kernel_rfl)
theorem ti130 : TI Try.prog 130 (.nilFunc) 1 8 := ti_of (by kernel_rfl)
theorem ti131 : TI Try.prog 131 (.nilFunc) 1 8 := ti_of (by kernel_rfl)
theorem ti132 : TI Try.prog 132 (.nilFunc) 1 8 := ti_of (by kernel_rfl)
theorem ti133 : TI Try.prog 133 (.slice none 0 0) 1 24 := ti_of (by kernel_rfl)
theorem ti134 : TI Try.prog 134 (.agg #[.map none, .slice none 0 0]) 2 32 := ti_of (by kernel_rfl)
theorem ti135 : TI Try.prog 135 (.agg #[.map none, .slice none 0 0]) 2 32 := ti_of (by kernel_rfl)
theorem ti136 : TI Try.prog 136 (.agg #[.int .i64 0, .int .i64 0]) 2 16 := ti_of (by kernel_rfl)
theorem ti137 : TI Try.prog 137 (.agg #[.int .i64 0, .int .i64 0]) 2 16 := ti_of (by kernel_rfl)
theorem ti138 : TI Try.prog 138 (.nilFunc) 1 8 := ti_of (by kernel_rfl)
theorem ti139 : TI Try.prog 139 (.agg #[.string ⟨#[]⟩]) 1 16 := ti_of (by kernel_rfl)
theorem ti140 : TI Try.prog 140 (.agg #[.string ⟨#[]⟩]) 1 16 := ti_of (by kernel_rfl)
theorem ti141 : TI Try.prog 141 (.nilFunc) 1 8 := ti_of (by kernel_rfl)
theorem ti142 : TI Try.prog 142 (.nilFunc) 1 8 := ti_of (by kernel_rfl)
theorem ti143 : TI Try.prog 143 (.tuple #[.agg #[.string ⟨#[]⟩], .bool false]) 1 0 := ti_of (by kernel_rfl)
theorem ti144 : TI Try.prog 144 (.nilFunc) 1 8 := ti_of (by kernel_rfl)
theorem ti145 : TI Try.prog 145 (.nilFunc) 1 8 := ti_of (by kernel_rfl)
theorem ti146 : TI Try.prog 146 (.nilFunc) 1 8 := ti_of (by kernel_rfl)
theorem ti147 : TI Try.prog 147 (.nilFunc) 1 8 := ti_of (by kernel_rfl)
theorem ti148 : TI Try.prog 148 (.nilFunc) 1 8 := ti_of (by kernel_rfl)
theorem ti149 : TI Try.prog 149 (.nilFunc) 1 8 := ti_of (by kernel_rfl)
theorem ti150 : TI Try.prog 150 (.nilFunc) 1 8 := ti_of (by kernel_rfl)
theorem ti151 : TI Try.prog 151 (.nilFunc) 1 8 := ti_of (by kernel_rfl)
theorem ti152 : TI Try.prog 152 (.nilFunc) 1 8 := ti_of (by kernel_rfl)
theorem ti153 : TI Try.prog 153 (.nilFunc) 1 8 := ti_of (by kernel_rfl)
theorem ti154 : TI Try.prog 154 (.nilFunc) 1 8 := ti_of (by kernel_rfl)
theorem ti155 : TI Try.prog 155 (.nilFunc) 1 8 := ti_of (by kernel_rfl)
theorem ti156 : TI Try.prog 156 (.nilFunc) 1 8 := ti_of (by kernel_rfl)
theorem ti157 : TI Try.prog 157 (.nilFunc) 1 8 := ti_of (by kernel_rfl)
theorem ti158 : TI Try.prog 158 (.nilFunc) 1 8 := ti_of (by kernel_rfl)
theorem ti159 : TI Try.prog 159 (.nilFunc) 1 8 := ti_of (by kernel_rfl)
theorem ti160 : TI Try.prog 160 (.nilFunc) 1 8 := ti_of (by kernel_rfl)
theorem ti161 : TI Try.prog 161 (.nilFunc) 1 8 := ti_of (by kernel_rfl)
theorem ti162 : TI Try.prog 162 (.nilFunc) 1 8 := ti_of (by kernel_rfl)
theorem ti163 : TI Try.prog 163 (.nilFunc) 1 8 := ti_of (by kernel_rfl)
theorem ti164 : TI Try.prog 164 (.nilFunc) 1 8 := ti_of (by kernel_rfl)
theorem ti165 : TI Try.prog 165 (.nilFunc) 1 8 := ti_of (by kernel_rfl)
theorem ti166 : TI Try.prog 166 (.nilFunc) 1 8 := ti_of (by kernel_rfl)
theorem ti167 : TI Try.prog 167 (.nilFunc) 1 8 := ti_of (by kernel_rfl)
theorem ti168 : TI Try.prog 168 (.nilFunc) 1 8 := ti_of (by kernel_rfl)
theorem ti169 : TI Try.prog 169 (.nilFunc) 1 8 := ti_of (by kernel_rfl)
theorem ti170 : TI Try.prog 170 (.nilFunc) 1 8 := ti_of (by kernel_rfl)
theorem ti171 : TI Try.prog 171 (.nilFunc) 1 8 := ti_of (by kernel_rfl)
theorem ti172 : TI Try.prog 172 (.nilFunc) 1 8 := ti_of (by kernel_rfl)
theorem ti173 : TI Try.prog 173 (.nilFunc) 1 8 := ti_of (by kernel_rfl)
theorem ti174 : TI Try.prog 174 (.nilFunc) 1 8 := ti_of (by kernel_rfl)
theorem ti175 : TI Try.prog 175 (.int .u64 0) 1 8 := ti_of (by kernel_rfl)
theorem ti176 : TI Try.prog 176 (.nilFunc) 1 8 := ti_of (by kernel_rfl)
theorem ti177 : TI Try.prog 177 (.nilFunc) 1 8 := ti_of (by kernel_rfl)
theorem ti178 : TI Try.prog 178 (.nilFunc) 1 8 := ti_of (by kernel_rfl)
theorem ti179 : TI Try.prog 179 (.nilFunc) 1 8 := ti_of (by kernel_rfl)
theorem ti180 : TI Try.prog 180 (.nilFunc) 1 8 := ti_of (by kernel_rfl)
theorem ti181 : TI Try.prog 181 (.nilFunc) 1 8 := ti_of (by kernel_rfl)
theorem ti182 : TI Try.prog 182 (.nilFunc) 1 8 := ti_of (by kernel_rfl)
theorem ti183 : TI Try.prog 183 (.int .i64 0) 1 8 := ti_of (by kernel_rfl)
theorem ti184 : TI Try.prog 184 (.tuple #[.int .i64 0, .int .i64 0]) 1 0 := ti_of (by kernel_rfl)
theorem ti185 : TI Try.prog 185 (.nilFunc) 1 8 := ti_of (by kernel_rfl)
theorem ti186 : TI Try.prog 186 (.nilFunc) 1 8 := ti_of (by kernel_rfl)
theorem ti187 : TI Try.prog 187 (.nilFunc) 1 8 := ti_of (by kernel_rfl)
theorem ti188 : TI Try.prog 188 (.nilFunc) 1 8 := ti_of (by kernel_rfl)
theorem ti189 : TI Try.prog 189 (.nilFunc) 1 8 := ti_of (by kernel_rfl)
theorem ti190 : TI Try.prog 190 (.int .u32 0) 1 4 := ti_of (by kernel_rfl)
theorem ti191 : TI Try.prog 191 (.nilFunc) 1 8 := ti_of (by kernel_rfl)
theorem ti192 : TI Try.prog 192 (.int .u64 0) 1 8 := ti_of (by kernel_rfl)
theorem ti193 : TI Try.prog 193 (.nilFunc) 1 8 := ti_of (by kernel_rfl)
theorem ti194 : TI Try.prog 194 (.nilFunc) 1 8 := ti_of (by kernel_rfl)
theorem ti195 : TI Try.prog 195 (.nilFunc) 1 8 := ti_of (by kernel_rfl)
theorem ti196 : TI Try.prog 196 (.nilFunc) 1 8 := ti_of (by kernel_rfl)
theorem ti197 : TI Try.prog 197 (.nilFunc) 1 8 := ti_of (by kernel_rfl)
theorem ti198 : TI Try.prog 198 (.int .u64 0) 1 8 := ti_of (by kernel_rfl)
theorem ti199 : TI Try.prog 199 (.nilFunc) 1 8 := ti_of (by kernel_rfl)
theorem ti200 : TI Try.prog 200 (.nilFunc) 1 8 := ti_of (by kernel_rfl)
theorem ti201 : TI Try.prog 201 (.nilFunc) 1 8 := ti_of (by kernel_rfl)
theorem ti202 : TI Try.prog 202 (.pointer none) 1 8 := ti_of (by kernel_rfl)
theorem ti203 : TI Try.prog 203 (.nilFunc) 1 8 := ti_of (by kernel_rfl)
theorem ti204 : TI Try.prog 204 (.nilFunc) 1 8 := ti_of (by kernel_rfl)
theorem ti205 : TI Try.prog 205 (.nilFunc) 1 8 := ti_of (by kernel_rfl)
theorem ti206 : TI Try.prog 206 (.nilFunc) 1 8 := ti_of (by kernel_rfl)
theorem ti207 : TI Try.prog 207 (.pointer none) 1 8 := ti_of (by kernel_rfl)
theorem ti208 : TI Try.prog 208 (.tuple #[.int .i64 0, .int .i64 0]) 1 0 := ti_of (by kernel_rfl)
theorem ti209 : TI Try.prog 209 (.nilFunc) 1 8 := ti_of (by kernel_rfl)
theorem ti210 : TI Try.prog 210 (.nilFunc) 1 8 := ti_of (by kernel_rfl)
theorem ti211 : TI Try.prog 211 (.nilFunc) 1 8 := ti_of (by kernel_rfl)
theorem ti212 : TI Try.prog 212 (.agg #[.pointer none, .pointer none, .pointer none, .string ⟨#[]⟩]) 4 40 := ti_of (by kernel_rfl)
theorem ti213 : TI Try.prog 213 (.agg #[.pointer none, .pointer none, .pointer none, .string ⟨#[]⟩]) 4 40 := ti_of (by kernel_rfl)
theorem ti214 : TI Try.prog 214 (.agg #[]) 0 0 := ti_of (by kernel_rfl)
theorem ti215 : TI Try.prog 215 (.agg #[]) 0 0 := ti_of (by kernel_rfl)
theorem ti216 : TI Try.prog 216 (.agg #[]) 0 0 := ti_of (by kernel_rfl)
theorem ti217 : TI Try.prog 217 (.nilFunc) 1 8 := ti_of (by kernel_rfl)
theorem ti218 : TI Try.prog 218 (.int .u8 0) 1 1 := ti_of (by kernel_rfl)
theorem ti219 : TI Try.prog 219 (.int .u8 0) 1 1 := ti_of (by kernel_rfl)
theorem ti220 : TI Try.prog 220 (.nilFunc) 1 8 := ti_of (by kernel_rfl)
theorem ti221 : TI Try.prog 221 (.pointer none) 1 8 := ti_of (by kernel_rfl)
theorem ti222 : TI Try.prog 222 (.int .i32 0) 1 4 := ti_of (by kernel_rfl)
theorem ti223 : TI Try.prog 223 (.int .i32 0) 1 4 := ti_of (by kernel_rfl)
theorem ti224 : TI Try.prog 224 (.agg #[.int .u64 0, .int .u64 0, .int .u32 0, .int .u8 0, .int .u8 0, .int .u8 0, .int .u8 0, .nilFunc, .pointer none, .int .i32 0, .int .i32 0]) 11 48 := ti_of (by kernel_rfl)
theorem ti225 : TI Try.prog 225 (.agg #[.int .u64 0, .int .u64 0, .int .u32 0, .int .u8 0, .int .u8 0, .int .u8 0, .int .u8 0, .nilFunc, .pointer none, .int .i32 0, .int .i32 0]) 11 48 := ti_of (by kernel_rfl)
theorem ti226 : TI Try.prog 226 (.pointer none) 1 8 := ti_of (by kernel_rfl)
theorem lone1 : Lone Try.prog 1 := lone_of Try.underlying1 rfl
theorem lone2 : Lone Try.prog 2 := lone_of Try.underlying2 rfl
theorem lone3 : Lone Try.prog 3 := lone_of Try.underlying3 rfl
theorem lone4 : Lone Try.prog 4 := lone_of Try.underlying4 rfl
theorem lone5 : Lone Try.prog 5 := lone_of Try.underlying5 rfl
theorem lone6 : Lone Try.prog 6 := lone_of Try.underlying6 rfl
theorem lone9 : Lone Try.prog 9 := lone_of Try.underlying9 rfl
theorem lone10 : Lone Try.prog 10 := lone_of Try.underlying10 rfl
theorem lone11 : Lone Try.prog 11 := lone_of Try.underlying11 rfl
theorem lone12 : Lone Try.prog 12 := lone_of Try.underlying12 rfl
theorem lone15 : Lone Try.prog 15 := lone_of Try.underlying15 rfl
theorem lone16 : Lone Try.prog 16 := lone_of Try.underlying16 rfl
theorem lone17 : Lone Try.prog 17 := lone_of Try.underlying17 rfl
theorem lone20 : Lone Try.prog 20 := lone_of Try.underlying20 rfl
theorem lone21 : Lone Try.prog 21 := lone_of Try.underlying21 rfl
theorem lone22 : Lone Try.prog 22 := lone_of Try.underlying22 rfl
theorem lone23 : Lone Try.prog 23 := lone_of Try.underlying23 rfl
theorem lone24 : Lone Try.prog 24 := lone_of Try.underlying24 rfl
theorem lone25 : Lone Try.prog 25 := lone_of Try.underlying25 rfl
theorem lone26 : Lone Try.prog 26 := lone_of Try.underlying26 rfl
theorem lone29 : Lone Try.prog 29 := lone_of Try.underlying29 rfl
theorem lone30 : Lone Try.prog 30 := lone_of Try.underlying30 rfl
theorem lone34 : Lone Try.prog 34 := lone_of Try.underlying34 rfl
theorem lone35 : Lone Try.prog 35 := lone_of Try.underlying35 rfl
theorem lone36 : Lone Try.prog 36 := lone_of Try.underlying36 rfl
theorem lone37 : Lone Try.prog 37 := lone_of Try.underlying37 rfl
theorem lone41 : Lone Try.prog 41 := lone_of Try.underlying41 rfl
theorem lone42 : Lone Try.prog 42 := lone_of Try.underlying42 rfl
theorem lone43 : Lone Try.prog 43 := lone_of Try.underlying43 rfl
theorem lone44 : Lone Try.prog 44 := lone_of Try.underlying44 rfl
theorem lone47 : Lone Try.prog 47 := lone_of Try.underlying47 rfl
theorem lone48 : Lone Try.prog 48 := lone_of Try.underlying48 rfl
theorem lone49 : Lone Try.prog 49 := lone_of Try.underlying49 rfl
theorem lone51 : Lone Try.prog 51 := lone_of Try.underlying51 rfl
theorem lone52 : Lone Try.prog 52 := lone_of Try.underlying52 rfl
theorem lone53 : Lone Try.prog 53 := lone_of Try.underlying53 rfl
theorem lone54 : Lone Try.prog 54 := lone_of Try.underlying54 rfl
theorem lone57 : Lone Try.prog 57 := lone_of Try.underlying57 rfl
theorem lone58 : Lone Try.prog 58 := lone_of Try.underlying58 rfl
theorem lone59 : Lone Try.prog 59 := lone_of Try.underlying59 rfl
theorem lone61 : Lone Try.prog 61 := lone_of Try.underlying61 rfl
theorem lone62 : Lone Try.prog 62 := lone_of Try.underlying62 rfl
theorem lone63 : Lone Try.prog 63 := lone_of Try.underlying63 rfl
theorem lone64 : Lone Try.prog 64 := lone_of Try.underlying64 rfl
theorem lone65 : Lone Try.prog 65 := lone_of Try.underlying65 rfl
theorem lone66 : Lone Try.prog 66 := lone_of Try.underlying66 rfl
theorem lone67 : Lone Try.prog 67 := lone_of Try.underlying67 rfl
theorem lone68 : Lone Try.prog 68 := lone_of Try.underlying68 rfl
theorem lone69 : Lone Try.prog 69 := lone_of Try.underlying69 rfl
theorem lone70 : Lone Try.prog 70 := lone_of Try.underlying70 rfl
theorem lone71 : Lone Try.prog 71 := lone_of Try.underlying71 rfl
theorem lone72 : Lone Try.prog 72 := lone_of Try.underlying72 rfl
theorem lone73 : Lone Try.prog 73 := lone_of Try.underlying73 rfl
theorem lone76 : Lone Try.prog 76 := lone_of Try.underlying76 rfl
theorem lone82 : Lone Try.prog 82 := lone_of Try.underlying82 rfl
theorem lone83 : Lone Try.prog 83 := lone_of Try.underlying83 rfl
theorem lone84 : Lone Try.prog 84 := lone_of Try.underlying84 rfl
theorem lone86 : Lone Try.prog 86 := lone_of Try.underlying86 rfl
theorem lone87 : Lone Try.prog 87 := lone_of Try.underlying87 rfl
theorem lone88 : Lone Try.prog 88 := lone_of Try.underlying88 rfl
theorem lone91 : Lone Try.prog 91 := lone_of Try.underlying91 rfl
theorem lone92 : Lone Try.prog 92 := lone_of Try.underlying92 rfl
theorem lone96 : Lone Try.prog 96 := lone_of Try.underlying96 rfl
theorem lone97 : Lone Try.prog 97 := lone_of Try.underlying97 rfl
theorem lone99 : Lone Try.prog 99 := lone_of Try.underlying99 rfl
theorem lone100 : Lone Try.prog 100 := lone_of Try.underlying100 rfl
theorem lone102 : Lone Try.prog 102 := lone_of Try.underlying102 rfl
theorem lone103 : Lone Try.prog 103 := lone_of Try.underlying103 rfl
theorem lone105 : Lone Try.prog 105 := lone_of Try.underlying105 rfl
theorem lone107 : Lone Try.prog 107 := lone_of Try.underlying107 rfl
theorem lone108 : Lone Try.prog 108 := lone_of Try.underlying108 rfl
theorem lone109 : Lone Try.prog 109 := lone_of Try.underlying109 rfl
theorem lone110 : Lone Try.prog 110 := lone_of Try.underlying110 rfl
theorem lone111 : Lone Try.prog 111 := lone_of Try.underlying111 rfl
theorem lone112 : Lone Try.prog 112 := lone_of Try.underlying112 rfl
theorem lone115 : Lone Try.prog 115 := lone_of Try.underlying115 rfl
theorem lone116 : Lone Try.prog 116 := lone_of Try.underlying116 rfl
theorem lone117 : Lone Try.prog 117 := lone_of Try.underlying117 rfl
theorem lone118 : Lone Try.prog 118 := lone_of Try.underlying118 rfl
theorem lone121 : Lone Try.prog 121 := lone_of Try.underlying121 rfl
theorem lone122 : Lone Try.prog 122 := lone_of Try.underlying122 rfl
theorem lone124 : Lone Try.prog 124 := lone_of Try.underlying124 rfl
theorem lone126 : Lone Try.prog 126 := lone_of Try.underlying126 rfl
theorem lone127 : Lone Try.prog 127 := lone_of Try.underlying127 rfl
theorem lone128 : Lone Try.prog 128 := lone_of Try.underlying128 rfl
theorem lone130 : Lone Try.prog 130 := lone_of Try.underlying130 rfl
theorem lone131 : Lone Try.prog 131 := lone_of Try.underlying131 rfl
theorem lone132 : Lone Try.prog 132 := lone_of Try.underlying132 rfl
theorem lone133 : Lone Try.prog 133 := lone_of Try.underlying133 rfl
theorem lone138 : Lone Try.prog 138 := lone_of Try.underlying138 rfl
theorem lone141 : Lone Try.prog 141 := lone_of Try.underlying141 rfl
theorem lone142 : Lone Try.prog 142 := lone_of Try.underlying142 rfl
theorem lone144 : Lone Try.prog 144 := lone_of Try.underlying144 rfl
theorem lone145 : Lone Try.prog 145 := lone_of Try.underlying145 rfl
theorem lone146 : Lone Try.prog 146 := lone_of Try.underlying146 rfl
theorem lone147 : Lone Try.prog 147 := lone_of Try.underlying147 rfl
theorem lone148 : Lone Try.prog 148 := lone_of Try.underlying148 rfl
theorem lone149 : Lone Try.prog 149 := lone_of Try.underlying149 rfl
theorem lone150 : Lone Try.prog 150 := lone_of Try.underlying150 rfl
theorem lone151 : Lone Try.prog 151 := lone_of Try.underlying151 rfl
theorem lone152 : Lone Try.prog 152 := lone_of Try.underlying152 rfl
theorem lone153 : Lone Try.prog 153 := lone_of Try.underlying153 rfl
theorem lone154 : Lone Try.prog 154 := lone_of Try.underlying154 rfl
theorem lone155 : Lone Try.prog 155 := lone_of Try.underlying155 rfl
theorem lone156 : Lone Try.prog 156 := lone_of Try.underlying156 rfl
theorem lone157 : Lone Try.prog 157 := lone_of Try.underlying157 rfl
theorem lone158 : Lone Try.prog 158 := lone_of Try.underlying158 rfl
theorem lone159 : Lone Try.prog 159 := lone_of Try.underlying159 rfl
theorem lone160 : Lone Try.prog 160 := lone_of Try.underlying160 rfl
theorem lone161 : Lone Try.prog 161 := lone_of Try.underlying161 rfl
theorem lone162 : Lone Try.prog 162 := lone_of Try.underlying162 rfl
theorem lone163 : Lone Try.prog 163 := lone_of Try.underlying163 rfl
theorem lone164 : Lone Try.prog 164 := lone_of Try.underlying164 rfl
theorem lone165 : Lone Try.prog 165 := lone_of Try.underlying165 rfl
theorem lone166 : Lone Try.prog 166 := lone_of Try.underlying166 rfl
theorem lone167 : Lone Try.prog 167 := lone_of Try.underlying167 rfl
theorem lone168 : Lone Try.prog 168 := lone_of Try.underlying168 rfl
theorem lone169 : Lone Try.prog 169 := lone_of Try.underlying169 rfl
theorem lone170 : Lone Try.prog 170 := lone_of Try.underlying170 rfl
theorem lone171 : Lone Try.prog 171 := lone_of Try.underlying171 rfl
theorem lone172 : Lone Try.prog 172 := lone_of Try.underlying172 rfl
theorem lone173 : Lone Try.prog 173 := lone_of Try.underlying173 rfl
theorem lone174 : Lone Try.prog 174 := lone_of Try.underlying174 rfl
theorem lone175 : Lone Try.prog 175 := lone_of Try.underlying175 rfl
theorem lone176 : Lone Try.prog 176 := lone_of Try.underlying176 rfl
theorem lone177 : Lone Try.prog 177 := lone_of Try.underlying177 rfl
theorem lone178 : Lone Try.prog 178 := lone_of Try.underlying178 rfl
theorem lone179 : Lone Try.prog 179 := lone_of Try.underlying179 rfl
theorem lone180 : Lone Try.prog 180 := lone_of Try.underlying180 rfl
theorem lone181 : Lone Try.prog 181 := lone_of Try.underlying181 rfl
theorem lone182 : Lone Try.prog 182 := lone_of Try.underlying182 rfl
theorem lone183 : Lone Try.prog 183 := lone_of Try.underlying183 rfl
theorem lone185 : Lone Try.prog 185 := lone_of Try.underlying185 rfl
theorem lone186 : Lone Try.prog 186 := lone_of Try.underlying186 rfl
theorem lone187 : Lone Try.prog 187 := lone_of Try.underlying187 rfl
theorem lone188 : Lone Try.prog 188 := lone_of Try.underlying188 rfl
theorem lone189 : Lone Try.prog 189 := lone_of Try.underlying189 rfl
theorem lone190 : Lone Try.prog 190 := lone_of Try.underlying190 rfl
theorem lone191 : Lone Try.prog 191 := lone_of Try.underlying191 rfl
theorem lone192 : Lone Try.prog 192 := lone_of Try.underlying192 rfl
theorem lone193 : Lone Try.prog 193 := lone_of Try.underlying193 rfl
theorem lone194 : Lone Try.prog 194 := lone_of Try.underlying194 rfl
theorem lone195 : Lone Try.prog 195 := lone_of Try.underlying195 rfl
theorem lone196 : Lone Try.prog 196 := lone_of Try.underlying196 rfl
theorem lone197 : Lone Try.prog 197 := lone_of Try.underlying197 rfl
theorem lone198 : Lone Try.prog 198 := lone_of Try.underlying198 rfl
theorem lone199 : Lone Try.prog 199 := lone_of Try.underlying199 rfl
theorem lone200 : Lone Try.prog 200 := lone_of Try.underlying200 rfl
theorem lone201 : Lone Try.prog 201 := lone_of Try.underlying201 rfl
theorem lone202 : Lone Try.prog 202 := lone_of Try.underlying202 rfl
theorem lone203 : Lone Try.prog 203 := lone_of Try.underlying203 rfl
theorem lone204 : Lone Try.prog 204 := lone_of Try.underlying204 rfl
theorem lone205 : Lone Try.prog 205 := lone_of Try.underlying205 rfl
theorem lone206 : Lone Try.prog 206 := lone_of Try.underlying206 rfl
theorem lone207 : Lone Try.prog 207 := lone_of Try.underlying207 rfl
theorem lone209 : Lone Try.prog 209 := lone_of Try.underlying209 rfl
theorem lone210 : Lone Try.prog 210 := lone_of Try.underlying210 rfl
theorem lone211 : Lone Try.prog 211 := lone_of Try.underlying211 rfl
theorem lone217 : Lone Try.prog 217 := lone_of Try.underlying217 rfl
theorem lone218 : Lone Try.prog 218 := lone_of Try.underlying218 rfl
theorem lone219 : Lone Try.prog 219 := lone_of Try.underlying219 rfl
theorem lone220 : Lone Try.prog 220 := lone_of Try.underlying220 rfl
theorem lone221 : Lone Try.prog 221 := lone_of Try.underlying221 rfl
theorem lone222 : Lone Try.prog 222 := lone_of Try.underlying222 rfl
theorem lone223 : Lone Try.prog 223 := lone_of Try.underlying223 rfl
theorem lone226 : Lone Try.prog 226 := lone_of Try.underlying226 rfl
-- 0 main.main
-- 1 gosem.cut
-- 2 gosem.cut.init
-- 3 quiltwork/quiltworklaw13.WatchAll
theorem cl3 : Callable Try.prog 3 := callable_of Try.func3 (by kernel_rfl) (by kernel_rfl)
-- 4 quiltwork/quiltworklaw13.WatchGaps
theorem cl4 : Callable Try.prog 4 := callable_of Try.func4 (by kernel_rfl) (by kernel_rfl)
-- 5 quiltwork/quiltworklaw13.WatchNone
theorem cl5 : Callable Try.prog 5 := callable_of Try.func5 (by kernel_rfl) (by kernel_rfl)
-- 6 quiltwork/quiltworklaw13.WatchOwn
theorem cl6 : Callable Try.prog 6 := callable_of Try.func6 (by kernel_rfl) (by kernel_rfl)
-- 7 quiltwork/quiltworklaw13.WatchParts
theorem cl7 : Callable Try.prog 7 := callable_of Try.func7 (by kernel_rfl) (by kernel_rfl)
-- 8 quiltwork/quiltworklaw12.LockModes
theorem cl8 : Callable Try.prog 8 := callable_of Try.func8 (by kernel_rfl) (by kernel_rfl)
-- 9 quiltwork/quiltworklaw12.LockAll
theorem cl9 : Callable Try.prog 9 := callable_of Try.func9 (by kernel_rfl) (by kernel_rfl)
-- 10 quiltwork/quiltworklaw12.LockFits
theorem cl10 : Callable Try.prog 10 := callable_of Try.func10 (by kernel_rfl) (by kernel_rfl)
-- 11 quiltwork/quiltworklaw12.LockStuck
theorem cl11 : Callable Try.prog 11 := callable_of Try.func11 (by kernel_rfl) (by kernel_rfl)
-- 12 quiltwork/quiltworklaw12.LockRises
theorem cl12 : Callable Try.prog 12 := callable_of Try.func12 (by kernel_rfl) (by kernel_rfl)
-- 13 quiltwork/quiltworklaw12.LockServes
theorem cl13 : Callable Try.prog 13 := callable_of Try.func13 (by kernel_rfl) (by kernel_rfl)
-- 14 quiltwork/quiltworklaw12.LockAlone
theorem cl14 : Callable Try.prog 14 := callable_of Try.func14 (by kernel_rfl) (by kernel_rfl)
-- 15 quiltwork/quiltworklaw13.few
theorem cl15 : Callable Try.prog 15 := callable_of Try.func15 (by kernel_rfl) (by kernel_rfl)
-- 16 quiltwork/quiltworklaw13.alive
theorem cl16 : Callable Try.prog 16 := callable_of Try.func16 (by kernel_rfl) (by kernel_rfl)
-- 17 quiltwork/quiltworklaw13.does
theorem cl17 : Callable Try.prog 17 := callable_of Try.func17 (by kernel_rfl) (by kernel_rfl)
-- 18 (*quiltwork/watch.Hub).Ids
theorem cl18 : Callable Try.prog 18 := callable_of Try.func18 (by kernel_rfl) (by kernel_rfl)
-- 19 (*quiltwork/watch.Hub).Prefix
theorem cl19 : Callable Try.prog 19 := callable_of Try.func19 (by kernel_rfl) (by kernel_rfl)
-- 20 (*quiltwork/watch.Hub).Waiting
theorem cl20 : Callable Try.prog 20 := callable_of Try.func20 (by kernel_rfl) (by kernel_rfl)
-- 21 quiltwork/quiltworkref13.At
theorem cl21 : Callable Try.prog 21 := callable_of Try.func21 (by kernel_rfl) (by kernel_rfl)
-- 22 (*quiltwork/watch.Hub).Add
theorem cl22 : Callable Try.prog 22 := callable_of Try.func22 (by kernel_rfl) (by kernel_rfl)
-- 23 (*quiltwork/watch.Hub).Take
theorem cl23 : Callable Try.prog 23 := callable_of Try.func23 (by kernel_rfl) (by kernel_rfl)
-- 24 quiltwork/quiltworklaw13.Old
theorem cl24 : Callable Try.prog 24 := callable_of Try.func24 (by kernel_rfl) (by kernel_rfl)
-- 25 (*quiltwork/watch.Hub).Push
theorem cl25 : Callable Try.prog 25 := callable_of Try.func25 (by kernel_rfl) (by kernel_rfl)
-- 26 quiltwork/quiltworkref13.Touched
theorem cl26 : Callable Try.prog 26 := callable_of Try.func26 (by kernel_rfl) (by kernel_rfl)
-- 27 quiltwork/quiltworklaw13.covers
theorem cl27 : Callable Try.prog 27 := callable_of Try.func27 (by kernel_rfl) (by kernel_rfl)
-- 28 quiltwork/quiltworkref13.Same
theorem cl28 : Callable Try.prog 28 := callable_of Try.func28 (by kernel_rfl) (by kernel_rfl)
-- 29 (*quiltwork/watch.Hub).Drop
theorem cl29 : Callable Try.prog 29 := callable_of Try.func29 (by kernel_rfl) (by kernel_rfl)
-- 30 quiltwork/lock.Both
theorem cl30 : Callable Try.prog 30 := callable_of Try.func30 (by kernel_rfl) (by kernel_rfl)
-- 31 quiltwork/quiltworklaw12.LockModes$1
theorem cl31 : Callable Try.prog 31 := callable_of Try.func31 (by kernel_rfl) (by kernel_rfl)
-- 32 quiltwork/lock.Fits
theorem cl32 : Callable Try.prog 32 := callable_of Try.func32 (by kernel_rfl) (by kernel_rfl)
-- 33 quiltwork/quiltworkref12.Fits
theorem cl33 : Callable Try.prog 33 := callable_of Try.func33 (by kernel_rfl) (by kernel_rfl)
-- 34 quiltwork/quiltworkref12.Both
theorem cl34 : Callable Try.prog 34 := callable_of Try.func34 (by kernel_rfl) (by kernel_rfl)
-- 35 quiltwork/quiltworklaw12.alive
theorem cl35 : Callable Try.prog 35 := callable_of Try.func35 (by kernel_rfl) (by kernel_rfl)
-- 36 quiltwork/quiltworklaw12.few
theorem cl36 : Callable Try.prog 36 := callable_of Try.func36 (by kernel_rfl) (by kernel_rfl)
-- 37 quiltwork/quiltworklaw12.does
theorem cl37 : Callable Try.prog 37 := callable_of Try.func37 (by kernel_rfl) (by kernel_rfl)
-- 38 quiltwork/quiltworklaw12.stands
theorem cl38 : Callable Try.prog 38 := callable_of Try.func38 (by kernel_rfl) (by kernel_rfl)
-- 39 (*quiltwork/lock.Table).Holders
theorem cl39 : Callable Try.prog 39 := callable_of Try.func39 (by kernel_rfl) (by kernel_rfl)
-- 40 (*quiltwork/lock.Table).Has
theorem cl40 : Callable Try.prog 40 := callable_of Try.func40 (by kernel_rfl) (by kernel_rfl)
-- 41 (*quiltwork/lock.Table).Queue
theorem cl41 : Callable Try.prog 41 := callable_of Try.func41 (by kernel_rfl) (by kernel_rfl)
-- 42 quiltwork/quiltworklaw12.inTheWay
theorem cl42 : Callable Try.prog 42 := callable_of Try.func42 (by kernel_rfl) (by kernel_rfl)
-- 43 (*quiltwork/lock.Table).Stuck
theorem cl43 : Callable Try.prog 43 := callable_of Try.func43 (by kernel_rfl) (by kernel_rfl)
-- 44 quiltwork/quiltworkref12.Stuck
theorem cl44 : Callable Try.prog 44 := callable_of Try.func44 (by kernel_rfl) (by kernel_rfl)
-- 45 (*quiltwork/lock.Table).Free
theorem cl45 : Callable Try.prog 45 := callable_of Try.func45 (by kernel_rfl) (by kernel_rfl)
-- 46 (*quiltwork/lock.Table).Ask
theorem cl46 : Callable Try.prog 46 := callable_of Try.func46 (by kernel_rfl) (by kernel_rfl)
-- 47 (*quiltwork/lock.Table).Waits
theorem cl47 : Callable Try.prog 47 := callable_of Try.func47 (by kernel_rfl) (by kernel_rfl)
-- 48 (*quiltwork/watch.Hub).Copy
theorem cl48 : Callable Try.prog 48 := callable_of Try.func48 (by kernel_rfl) (by kernel_rfl)
-- 49 quiltwork/quiltworkref13.Add
theorem cl49 : Callable Try.prog 49 := callable_of Try.func49 (by kernel_rfl) (by kernel_rfl)
-- 50 quiltwork/quiltworkref13.Drop
theorem cl50 : Callable Try.prog 50 := callable_of Try.func50 (by kernel_rfl) (by kernel_rfl)
-- 51 quiltwork/quiltworkref13.Push
theorem cl51 : Callable Try.prog 51 := callable_of Try.func51 (by kernel_rfl) (by kernel_rfl)
-- 52 quiltwork/quiltworkref13.Take
theorem cl52 : Callable Try.prog 52 := callable_of Try.func52 (by kernel_rfl) (by kernel_rfl)
-- 53 slices.Sorted[int]
theorem cl53 : Callable Try.prog 53 := callable_of Try.func53 (by kernel_rfl) (by kernel_rfl)
-- 54 maps.Keys[map[int]*quiltwork/watch.watcher,int,*quiltwork/watch.watcher]
theorem cl54 : Callable Try.prog 54 := callable_of Try.func54 (by kernel_rfl) (by kernel_rfl)
-- 55 slices.Clone[[]quiltwork/watch.Note,quiltwork/watch.Note]
theorem cl55 : Callable Try.prog 55 := callable_of Try.func55 (by kernel_rfl) (by kernel_rfl)
-- 56 (*quiltwork/watch.Hub).touched
theorem cl56 : Callable Try.prog 56 := callable_of Try.func56 (by kernel_rfl) (by kernel_rfl)
-- 57 quiltwork/quiltworkref13.begins
theorem cl57 : Callable Try.prog 57 := callable_of Try.func57 (by kernel_rfl) (by kernel_rfl)
-- 58 quiltwork/lock.mode
theorem cl58 : Callable Try.prog 58 := callable_of Try.func58 (by kernel_rfl) (by kernel_rfl)
-- 59 quiltwork/lock.fits
theorem cl59 : Callable Try.prog 59 := callable_of Try.func59 (by kernel_rfl) (by kernel_rfl)
-- 60 (*quiltwork/lock.Table).Copy
theorem cl60 : Callable Try.prog 60 := callable_of Try.func60 (by kernel_rfl) (by kernel_rfl)
-- 61 quiltwork/quiltworkref12.Ask
theorem cl61 : Callable Try.prog 61 := callable_of Try.func61 (by kernel_rfl) (by kernel_rfl)
-- 62 quiltwork/quiltworkref12.Free
theorem cl62 : Callable Try.prog 62 := callable_of Try.func62 (by kernel_rfl) (by kernel_rfl)
-- 63 quiltwork/quiltworklaw12.numbers
theorem cl63 : Callable Try.prog 63 := callable_of Try.func63 (by kernel_rfl) (by kernel_rfl)
-- 64 quiltwork/quiltworkref12.Get
theorem cl64 : Callable Try.prog 64 := callable_of Try.func64 (by kernel_rfl) (by kernel_rfl)
-- 65 quiltwork/quiltworkref12.Waits
theorem cl65 : Callable Try.prog 65 := callable_of Try.func65 (by kernel_rfl) (by kernel_rfl)
-- 66 quiltwork/quiltworkref12.Queue
theorem cl66 : Callable Try.prog 66 := callable_of Try.func66 (by kernel_rfl) (by kernel_rfl)
-- 67 maps.Keys[map[int]int,int,int]
theorem cl67 : Callable Try.prog 67 := callable_of Try.func67 (by kernel_rfl) (by kernel_rfl)
-- 68 maps.Clone[map[int]quiltwork/lock.goal,int,quiltwork/lock.goal]
theorem cl68 : Callable Try.prog 68 := callable_of Try.func68 (by kernel_rfl) (by kernel_rfl)
-- 69 maps.Keys[map[int]quiltwork/lock.goal,int,quiltwork/lock.goal]
theorem cl69 : Callable Try.prog 69 := callable_of Try.func69 (by kernel_rfl) (by kernel_rfl)
-- 70 slices.ContainsFunc[[]int,int]
theorem cl70 : Callable Try.prog 70 := callable_of Try.func70 (by kernel_rfl) (by kernel_rfl)
-- 71 (*quiltwork/lock.Table).ahead
theorem cl71 : Callable Try.prog 71 := callable_of Try.func71 (by kernel_rfl) (by kernel_rfl)
-- 72 (*quiltwork/lock.Table).Stuck$1
theorem cl72 : Callable Try.prog 72 := callable_of Try.func72 (by kernel_rfl) (by kernel_rfl)
-- 73 quiltwork/quiltworkref12.blocked
theorem cl73 : Callable Try.prog 73 := callable_of Try.func73 (by kernel_rfl) (by kernel_rfl)
-- 74 (*quiltwork/lock.Table).leaves
theorem cl74 : Callable Try.prog 74 := callable_of Try.func74 (by kernel_rfl) (by kernel_rfl)
-- 75 slices.Sorted[string]
theorem cl75 : Callable Try.prog 75 := callable_of Try.func75 (by kernel_rfl) (by kernel_rfl)
-- 76 maps.Keys[map[string]quiltwork/lock.place,string,quiltwork/lock.place]
theorem cl76 : Callable Try.prog 76 := callable_of Try.func76 (by kernel_rfl) (by kernel_rfl)
-- 77 (quiltwork/lock.place).may
theorem cl77 : Callable Try.prog 77 := callable_of Try.func77 (by kernel_rfl) (by kernel_rfl)
-- 78 (*quiltwork/lock.Table).put
theorem cl78 : Callable Try.prog 78 := callable_of Try.func78 (by kernel_rfl) (by kernel_rfl)
-- 79 slices.Sort[[]int,int]
theorem cl79 : Callable Try.prog 79 := callable_of Try.func79 (by kernel_rfl) (by kernel_rfl)
-- 80 slices.Compact[[]int,int]
theorem cl80 : Callable Try.prog 80 := callable_of Try.func80 (by kernel_rfl) (by kernel_rfl)
-- 81 (*quiltwork/lock.Table).at
theorem cl81 : Callable Try.prog 81 := callable_of Try.func81 (by kernel_rfl) (by kernel_rfl)
-- 82 slices.IndexFunc[[]quiltwork/lock.want,quiltwork/lock.want]
theorem cl82 : Callable Try.prog 82 := callable_of Try.func82 (by kernel_rfl) (by kernel_rfl)
-- 83 (*quiltwork/lock.Table).Ask$1
theorem cl83 : Callable Try.prog 83 := callable_of Try.func83 (by kernel_rfl) (by kernel_rfl)
-- 84 slices.Insert[[]quiltwork/lock.want,quiltwork/lock.want]
theorem cl84 : Callable Try.prog 84 := callable_of Try.func84 (by kernel_rfl) (by kernel_rfl)
-- 85 slices.Clone[[]quiltwork/lock.want,quiltwork/lock.want]
theorem cl85 : Callable Try.prog 85 := callable_of Try.func85 (by kernel_rfl) (by kernel_rfl)
-- 86 quiltwork/watch.own
theorem cl86 : Callable Try.prog 86 := callable_of Try.func86 (by kernel_rfl) (by kernel_rfl)
-- 87 slices.Collect[int]
theorem cl87 : Callable Try.prog 87 := callable_of Try.func87 (by kernel_rfl) (by kernel_rfl)
-- 88 maps.Keys[map[int]*quiltwork/watch.watcher,int,*quiltwork/watch.watcher]$1
theorem cl88 : Callable Try.prog 88 := callable_of Try.func88 (by kernel_rfl) (by kernel_rfl)
-- 89 slices.Compact[[]string,string]
theorem cl89 : Callable Try.prog 89 := callable_of Try.func89 (by kernel_rfl) (by kernel_rfl)
-- 90 slices.Values[[]string,string]
theorem cl90 : Callable Try.prog 90 := callable_of Try.func90 (by kernel_rfl) (by kernel_rfl)
-- 91 (*quiltwork/watch.Hub).touched$1
theorem cl91 : Callable Try.prog 91 := callable_of Try.func91 (by kernel_rfl) (by kernel_rfl)
-- 92 slices.DeleteFunc[[]string,string]
theorem cl92 : Callable Try.prog 92 := callable_of Try.func92 (by kernel_rfl) (by kernel_rfl)
-- 93 slices.Clone[[]string,string]
theorem cl93 : Callable Try.prog 93 := callable_of Try.func93 (by kernel_rfl) (by kernel_rfl)
-- 94 (*quiltwork/watch.Hub).touched$1$1
theorem cl94 : Callable Try.prog 94 := callable_of Try.func94 (by kernel_rfl) (by kernel_rfl)
-- 95 strings.HasPrefix
theorem cl95 : Callable Try.prog 95 := callable_of Try.func95 (by kernel_rfl) (by kernel_rfl)
-- 96 maps.Clone[map[int]int,int,int]
theorem cl96 : Callable Try.prog 96 := callable_of Try.func96 (by kernel_rfl) (by kernel_rfl)
-- 97 quiltwork/quiltworkref12.may
theorem cl97 : Callable Try.prog 97 := callable_of Try.func97 (by kernel_rfl) (by kernel_rfl)
-- 98 quiltwork/quiltworkref12.gets
theorem cl98 : Callable Try.prog 98 := callable_of Try.func98 (by kernel_rfl) (by kernel_rfl)
-- 99 quiltwork/quiltworkref12.without
theorem cl99 : Callable Try.prog 99 := callable_of Try.func99 (by kernel_rfl) (by kernel_rfl)
-- 100 quiltwork/quiltworkref12.first
theorem cl100 : Callable Try.prog 100 := callable_of Try.func100 (by kernel_rfl) (by kernel_rfl)
-- 101 maps.Keys[map[int]int,int,int]$1
theorem cl101 : Callable Try.prog 101 := callable_of Try.func101 (by kernel_rfl) (by kernel_rfl)
-- 102 maps.clone
-- 103 maps.Keys[map[int]quiltwork/lock.goal,int,quiltwork/lock.goal]$1
theorem cl103 : Callable Try.prog 103 := callable_of Try.func103 (by kernel_rfl) (by kernel_rfl)
-- 104 slices.IndexFunc[[]int,int]
theorem cl104 : Callable Try.prog 104 := callable_of Try.func104 (by kernel_rfl) (by kernel_rfl)
-- 105 slices.DeleteFunc[[]quiltwork/lock.want,quiltwork/lock.want]
theorem cl105 : Callable Try.prog 105 := callable_of Try.func105 (by kernel_rfl) (by kernel_rfl)
-- 106 (*quiltwork/lock.Table).leaves$1
theorem cl106 : Callable Try.prog 106 := callable_of Try.func106 (by kernel_rfl) (by kernel_rfl)
-- 107 slices.Collect[string]
theorem cl107 : Callable Try.prog 107 := callable_of Try.func107 (by kernel_rfl) (by kernel_rfl)
-- 108 slices.Sort[[]string,string]
theorem cl108 : Callable Try.prog 108 := callable_of Try.func108 (by kernel_rfl) (by kernel_rfl)
-- 109 maps.Keys[map[string]quiltwork/lock.place,string,quiltwork/lock.place]$1
theorem cl109 : Callable Try.prog 109 := callable_of Try.func109 (by kernel_rfl) (by kernel_rfl)
-- 110 slices.pdqsortOrdered[int]
theorem cl110 : Callable Try.prog 110 := callable_of Try.func110 (by kernel_rfl) (by kernel_rfl)
-- 111 math/bits.Len
theorem cl111 : Callable Try.prog 111 := callable_of Try.func111 (by kernel_rfl) (by kernel_rfl)
-- 112 slices.overlaps[quiltwork/lock.want]
-- 113 slices.rotateRight[quiltwork/lock.want]
theorem cl113 : Callable Try.prog 113 := callable_of Try.func113 (by kernel_rfl) (by kernel_rfl)
-- 114 slices.AppendSeq[[]int,int]
theorem cl114 : Callable Try.prog 114 := callable_of Try.func114 (by kernel_rfl) (by kernel_rfl)
-- 115 slices.Values[[]string,string]$1
theorem cl115 : Callable Try.prog 115 := callable_of Try.func115 (by kernel_rfl) (by kernel_rfl)
-- 116 slices.IndexFunc[[]string,string]
theorem cl116 : Callable Try.prog 116 := callable_of Try.func116 (by kernel_rfl) (by kernel_rfl)
-- 117 internal/stringslite.HasPrefix
theorem cl117 : Callable Try.prog 117 := callable_of Try.func117 (by kernel_rfl) (by kernel_rfl)
-- 118 slices.AppendSeq[[]string,string]
theorem cl118 : Callable Try.prog 118 := callable_of Try.func118 (by kernel_rfl) (by kernel_rfl)
-- 119 slices.pdqsortOrdered[string]
theorem cl119 : Callable Try.prog 119 := callable_of Try.func119 (by kernel_rfl) (by kernel_rfl)
-- 120 slices.insertionSortOrdered[int]
theorem cl120 : Callable Try.prog 120 := callable_of Try.func120 (by kernel_rfl) (by kernel_rfl)
-- 121 slices.heapSortOrdered[int]
theorem cl121 : Callable Try.prog 121 := callable_of Try.func121 (by kernel_rfl) (by kernel_rfl)
-- 122 slices.breakPatternsOrdered[int]
theorem cl122 : Callable Try.prog 122 := callable_of Try.func122 (by kernel_rfl) (by kernel_rfl)
-- 123 slices.choosePivotOrdered[int]
theorem cl123 : Callable Try.prog 123 := callable_of Try.func123 (by kernel_rfl) (by kernel_rfl)
-- 124 slices.reverseRangeOrdered[int]
theorem cl124 : Callable Try.prog 124 := callable_of Try.func124 (by kernel_rfl) (by kernel_rfl)
-- 125 slices.partialInsertionSortOrdered[int]
theorem cl125 : Callable Try.prog 125 := callable_of Try.func125 (by kernel_rfl) (by kernel_rfl)
-- 126 cmp.Less[int]
theorem cl126 : Callable Try.prog 126 := callable_of Try.func126 (by kernel_rfl) (by kernel_rfl)
-- 127 slices.partitionEqualOrdered[int]
theorem cl127 : Callable Try.prog 127 := callable_of Try.func127 (by kernel_rfl) (by kernel_rfl)
-- 128 slices.partitionOrdered[int]
theorem cl128 : Callable Try.prog 128 := callable_of Try.func128 (by kernel_rfl) (by kernel_rfl)
-- 129 math/bits.Len32
theorem cl129 : Callable Try.prog 129 := callable_of Try.func129 (by kernel_rfl) (by kernel_rfl)
-- 130 math/bits.Len64
theorem cl130 : Callable Try.prog 130 := callable_of Try.func130 (by kernel_rfl) (by kernel_rfl)
-- 131 slices.rotateLeft[quiltwork/lock.want]
theorem cl131 : Callable Try.prog 131 := callable_of Try.func131 (by kernel_rfl) (by kernel_rfl)
-- 132 slices.insertionSortOrdered[string]
theorem cl132 : Callable Try.prog 132 := callable_of Try.func132 (by kernel_rfl) (by kernel_rfl)
-- 133 slices.heapSortOrdered[string]
theorem cl133 : Callable Try.prog 133 := callable_of Try.func133 (by kernel_rfl) (by kernel_rfl)
-- 134 slices.breakPatternsOrdered[string]
theorem cl134 : Callable Try.prog 134 := callable_of Try.func134 (by kernel_rfl) (by kernel_rfl)
-- 135 slices.choosePivotOrdered[string]
theorem cl135 : Callable Try.prog 135 := callable_of Try.func135 (by kernel_rfl) (by kernel_rfl)
-- 136 slices.reverseRangeOrdered[string]
theorem cl136 : Callable Try.prog 136 := callable_of Try.func136 (by kernel_rfl) (by kernel_rfl)
-- 137 slices.partialInsertionSortOrdered[string]
theorem cl137 : Callable Try.prog 137 := callable_of Try.func137 (by kernel_rfl) (by kernel_rfl)
-- 138 cmp.Less[string]
theorem cl138 : Callable Try.prog 138 := callable_of Try.func138 (by kernel_rfl) (by kernel_rfl)
-- 139 slices.partitionEqualOrdered[string]
theorem cl139 : Callable Try.prog 139 := callable_of Try.func139 (by kernel_rfl) (by kernel_rfl)
-- 140 slices.partitionOrdered[string]
theorem cl140 : Callable Try.prog 140 := callable_of Try.func140 (by kernel_rfl) (by kernel_rfl)
-- 141 slices.siftDownOrdered[int]
theorem cl141 : Callable Try.prog 141 := callable_of Try.func141 (by kernel_rfl) (by kernel_rfl)
-- 142 slices.nextPowerOfTwo
theorem cl142 : Callable Try.prog 142 := callable_of Try.func142 (by kernel_rfl) (by kernel_rfl)
-- 143 (*slices.xorshift).Next
theorem cl143 : Callable Try.prog 143 := callable_of Try.func143 (by kernel_rfl) (by kernel_rfl)
-- 144 slices.medianAdjacentOrdered[int]
theorem cl144 : Callable Try.prog 144 := callable_of Try.func144 (by kernel_rfl) (by kernel_rfl)
-- 145 slices.medianOrdered[int]
theorem cl145 : Callable Try.prog 145 := callable_of Try.func145 (by kernel_rfl) (by kernel_rfl)
-- 146 cmp.isNaN[int]
theorem cl146 : Callable Try.prog 146 := callable_of Try.func146 (by kernel_rfl) (by kernel_rfl)
-- 147 slices.Reverse[[]quiltwork/lock.want,quiltwork/lock.want]
theorem cl147 : Callable Try.prog 147 := callable_of Try.func147 (by kernel_rfl) (by kernel_rfl)
-- 148 slices.siftDownOrdered[string]
theorem cl148 : Callable Try.prog 148 := callable_of Try.func148 (by kernel_rfl) (by kernel_rfl)
-- 149 slices.medianAdjacentOrdered[string]
theorem cl149 : Callable Try.prog 149 := callable_of Try.func149 (by kernel_rfl) (by kernel_rfl)
-- 150 slices.medianOrdered[string]
theorem cl150 : Callable Try.prog 150 := callable_of Try.func150 (by kernel_rfl) (by kernel_rfl)
-- 151 cmp.isNaN[string]
theorem cl151 : Callable Try.prog 151 := callable_of Try.func151 (by kernel_rfl) (by kernel_rfl)
-- 152 slices.order2Ordered[int]
theorem cl152 : Callable Try.prog 152 := callable_of Try.func152 (by kernel_rfl) (by kernel_rfl)
-- 153 slices.order2Ordered[string]
theorem cl153 : Callable Try.prog 153 := callable_of Try.func153 (by kernel_rfl) (by kernel_rfl)
-- 154 (runtime.boundsError).Error
-- 155 (runtime.boundsError).RuntimeError
-- 156 (runtime.errorString).Error
-- 157 (runtime.errorString).RuntimeError
-- 158 (runtime.plainError).Error
-- 159 (runtime.plainError).RuntimeError
-- 160 (runtime.errorAddressString).Error
-- 161 (runtime.errorAddressString).RuntimeError
-- 162 (*runtime.TypeAssertionError).Error
-- 163 (*runtime.TypeAssertionError).RuntimeError
-- 164 (*runtime.PanicNilError).Error
-- 165 (*runtime.PanicNilError).RuntimeError
-- 166 (*internal/abi.Type).Align
-- 167 (internal/runtime/maps.unhashableTypeError).Error
-- 168 (internal/runtime/maps.unhashableTypeError).RuntimeError
-- 169 (internal/abi.Kind).String
end Go.Proofs.Ytnamhhmfnokfiaa
/- Blocks: variables in memory; made slices; append. -/
namespace Go.SL
open Go

theorem dom_zero {w : World} {O : Perm} (hdom : ∀ b, O b ≠ 0 → b < w.heap.size) : O w.heap.size = 0 := by
  rcases Nat.eq_zero_or_pos (O w.heap.size) with h | h
  · exact h
  · have := hdom w.heap.size (by omega); omega

/-- Behind an append or a make: one row of one's own may have turned. -/
theorem rel_grown {w w' : World} {O : Perm} {row : Option Nat} (hg : w.grownBy w' row) (hrow : ∀ k, row = some k → 2 ≤ O k) (new : Nat → Nat)
    (hnew : ∀ b, new b ≠ 0 → w.heap.size ≤ b ∧ b < w'.heap.size) : Rel w O w' fun b => if b < w.heap.size then O b else new b := by
  refine ⟨hg.os, hg.tape, hg.output, hg.size, fun b hb hlt => hg.block b hb fun h => ?_, fun b hb => ?_, fun b hb => ?_⟩
  · have := hrow b h.symm; omega
  · simp only [if_pos hb]; exact Nat.le_refl _
  · by_cases h : b < w.heap.size
    · have := hg.size; omega
    · simp only [if_neg h] at hb; exact (hnew b hb).2

section
variable {K : Act → World → Prop} {X : Cx} {ops : Array Oper} {rest : List Oper} {kk : List Item} {env : Env} {L L1 L2 : List A} {d : Nat} {T : TypeId} {pos : String} {af : Array Edge} {x y : Operand}

theorem blk_new (w : World) (cs : List Value) (t : TypeId) : (Blk w.heap.size t cs).h (w.alloc (.cells cs.toArray t)) fun b => if b = w.heap.size then 2 else 0 :=
  ⟨by simp, heap_alloc w _⟩

/-- A new variable. -/
theorem s_alloc {t : TypeId} {z : Value} {n bt : Nat} (ht : TI X.P t z n bt) (hd : d < X.fn.ntmps)
    (k : ∀ b, Kont X ((d, .pointer (some ⟨b, 0, none⟩)) :: env) (Blk b t z.cells.toList :: L) K) : StepK X kk ⟨some d, .alloc t, T, pos, af, none⟩ env L K := by
  refine s_main (γ := Nat) (V := fun b => .pointer (some ⟨b, 0, none⟩)) (pu := fun _ => True) (L' := fun b => Blk b t z.cells.toList :: L) ?_ hd (fun b _ => k b)
  intro a w O ha hst hdom
  obtain ⟨i, hi, hz, _, _⟩ := ht
  refine ⟨w.heap.size, w.alloc (.cells z.cells.toList.toArray t), fresh w O, ?_, trivial, stars_alloc _ hdom hst (blk_new w _ t), rel_alloc _ hdom⟩
  simp [execOp, Instr.alloc, zeroValue, typeInfo, hi, hz, newVar, newRow, newObj, Sem.run]
/-- A new variable that holds a value. -/
theorem s_box {t : TypeId} {u : Value} (hx : env.eval x = some u) (hd : d < X.fn.ntmps)
    (k : ∀ b, Kont X ((d, .pointer (some ⟨b, 0, none⟩)) :: env) (Blk b t u.cells.toList :: L) K) : StepK X kk ⟨some d, .box t x, T, pos, af, none⟩ env L K := by
  refine s_main (γ := Nat) (V := fun b => .pointer (some ⟨b, 0, none⟩)) (pu := fun _ => True) (L' := fun b => Blk b t u.cells.toList :: L) ?_ hd (fun b _ => k b)
  intro a w O ha hst hdom
  refine ⟨w.heap.size, w.alloc (.cells u.cells.toList.toArray t), fresh w O, ?_, trivial, stars_alloc _ hdom hst (blk_new w _ t), rel_alloc _ hdom⟩
  simp [execOp, Instr.box, ha.eval hx, newVar, newRow, newObj, Sem.run]

theorem v_fieldAddr {t : TypeId} {fs : Array Field} {f : Field} {i : Nat} {p : Addr} {z : Value} {n bt : Nat} (hu : X.P.underlying t = some (.struct fs)) (hf : fs[i]? = some f) (ht : TI X.P f.type z n bt) (hn : n ≠ 0)
    (hx : env.eval x = some (.pointer (some p))) : Val X env L (.fieldAddr t x i) T (.pointer (some (p.add f.offset))) :=
  fun _ _ _ _ a w O ha _ => by
    obtain ⟨ti, hi, _, hsz, _⟩ := ht
    have : ti.size ≠ 0 := by omega
    simp [execOp, ha.eval hx, Instr.fieldAt, Instr.sureAddr, run_underlying hu, hf, fieldPlace, sizeOf, typeInfo, hi, this]
theorem v_nilCheck {p : Addr} (hx : env.eval x = some (.pointer (some p))) : Val X env L (.nilCheck x) T (.pointer (some p)) :=
  fun _ _ _ _ a w O ha _ => by simp [execOp, ha.eval hx]
theorem blk_cell {w : World} {b : Nat} {t : TypeId} {cs : Array Value} {fz : Nat × Nat} (h : w.heap[b]? = some (.cells cs t fz)) (off : Nat) : w.cell? ⟨b, off, none⟩ = cs[off]? := by
  simp [World.cell?, h]
/-- A cell of a block is read. -/
theorem v_load {t : TypeId} {b off : Nat} {bt : TypeId} {cs : List Value} {u : Value} (ht : Lone X.P t) (hx : env.eval x = some (.pointer (some ⟨b, off, none⟩)))
    (hb : Has L (BlkR b bt cs)) (hc : cs[off]? = some u) : Val X env L (.load t x) T (u) :=
  fun _ _ _ _ a w O ha hl => by
    obtain ⟨_, fz, hh⟩ := hb w O hl
    have : w.cell? ⟨b, off, none⟩ = some u := by rw [blk_cell hh]; simpa using hc
    simp [execOp, ha.eval hx, Instr.loadAt, Instr.sureAddr, run_loadLone ht this]
/-- A struct in a block is read. -/
theorem v_load_blk_agg {t : TypeId} {b off n : Nat} {bt : TypeId} {cs : List Value} {z0 : Value} {nb : Nat} (ht : ∃ fs, X.P.underlying t = some (.struct fs)) (hE : TI X.P t z0 n nb) (hx : env.eval x = some (.pointer (some ⟨b, off, none⟩)))
    (hb : Has L (BlkR b bt cs)) (hc : off + n ≤ cs.length) : Val X env L (.load t x) T (.agg ((cs.drop off).take n).toArray) :=
  fun _ _ _ _ a w O ha hl => by
    obtain ⟨_, fz, hh⟩ := hb w O hl
    obtain ⟨ti, hi, _, hsz, _⟩ := hE
    have : CellsAt w ⟨b, off, none⟩ ((cs.drop off).take n) := fun j u hj => by
      have hadd : (⟨b, off, none⟩ : Addr).add j = ⟨b, off + j, none⟩ := by
        unfold Addr.add; split
        · rename_i h; rw [h, Nat.add_zero]
        · rfl
      rw [hadd, blk_cell hh]
      rw [List.getElem?_take] at hj
      split at hj
      · rw [List.getElem?_drop] at hj; simpa using hj
      · cases hj
    have hrun := run_loadAgg ht hi (by rw [hsz]; simp; omega) this
    simp [execOp, ha.eval hx, Instr.loadAt, Instr.sureAddr, hrun]

theorem setCell_heap_self {w : World} {b off : Nat} {t : TypeId} {cs : List Value} {u : Value} (h : w.heap[b]? = some (.cells cs.toArray t (0, 0))) :
    (w.setCell ⟨b, off, none⟩ u).heap[b]? = some (.cells (cs.set off u).toArray t (0, 0)) := by
  simp [World.setCell, Array.getElem?_modify, h]
theorem setCell_rel {w : World} {O : Perm} {b off : Nat} {u : Value} (hb : 2 ≤ O b) (hdom : ∀ b, O b ≠ 0 → b < w.heap.size) : Rel w O (w.setCell ⟨b, off, none⟩ u) O := by
  refine ⟨rfl, rfl, rfl, by simp [World.setCell], fun c _ hlt => ?_, fun _ _ => Nat.le_refl _, fun c hc => ?_⟩
  · simp only [World.setCell, Array.getElem?_modify]
    rw [if_neg (by intro h; subst h; omega)]
  · have := hdom c hc; simpa [World.setCell] using this
/-- A step that turns what is picked alone. -/
theorem step_at {w w' : World} {O O1 O2 O' : Perm} {L' L2 : List A} (hdom : ∀ b, O b ≠ 0 → b < w.heap.size) (s : Split O O1 O2) (h2 : Stars L2 w O2) (hr : Rel w O1 w' O') (h' : Stars L' w' O') :
    ∃ P, Stars (L' ++ L2) w' P ∧ Rel w O w' P := by
  obtain ⟨s', h2', hrel⟩ := frame hdom s h2 hr
  exact ⟨_, Stars.app s' h' h2', hrel⟩

/-- A cell of a block of one's own is written. -/
theorem s_store {t : TypeId} {b off : Nat} {bt : TypeId} {cs cs' : List Value} {u : Value} {z : Value} {nb : Nat} (ht : TI X.P t z 1 nb) (hx : env.eval x = some (.pointer (some ⟨b, off, none⟩))) (hy : env.eval y = some u) (h1 : u.oneCell' = true)
    (hp : Pick (Blk b bt cs) L L1) (hlt : off < cs.length) (hset : cs.set off u = cs') (k : Kont X env (Blk b bt cs' :: L1) K) : StepK X kk ⟨none, .store t x y, T, pos, af, none⟩ env L K := by
  refine s_skip (γ := Unit) (pu := fun _ => True) (L' := fun _ => Blk b bt cs' :: L1) ?_ (fun _ _ => k)
  intro a w O ha hst hdom
  obtain ⟨O1, O2, s, ⟨hb2, hh⟩, hs2⟩ := hp w O hst
  have hdom1 : ∀ b, O1 b ≠ 0 → b < w.heap.size := fun b hb => hdom b (by have := s.l b; omega)
  obtain ⟨P, hP, hrel⟩ := step_at hdom s hs2 (setCell_rel (off := off) (u := u) hb2 hdom1) (L' := [Blk b bt cs']) ⟨O1, fun _ => 0, ⟨fun _ => Nat.le_refl _, fun _ => Nat.zero_le _, fun _ _ => rfl, fun _ h => by omega⟩, ⟨hb2, by rw [setCell_heap_self hh, hset]⟩, trivial⟩
  refine ⟨(), _, P, ?_, trivial, hP, hrel⟩
  obtain ⟨ti, hi, _, hsz, _⟩ := ht
  have hc : u.cells = #[u] := by cases u <;> first | rfl | cases h1
  have hcell : w.cell? ⟨b, off, none⟩ = some cs[off] := by rw [blk_cell hh]; simp [hlt]
  have hfr : w.frozen? ⟨b, off, none⟩ = false := by simp [World.frozen?, hh]
  have hst := run_store X.P w ⟨b, off, none⟩ u .plain h1
  rw [hcell] at hst
  simp only [hfr, Bool.false_eq_true, if_false] at hst
  have hadd : (⟨b, off, none⟩ : Addr).add 0 = ⟨b, off, none⟩ := rfl
  simp [execOp, ha.eval hx, ha.eval hy, Instr.storeAt, Instr.sureAddr, storeVar, hc, sizeOf, typeInfo, hi, hsz, storeCells, hadd, hst]

/-! ### append -/
variable {α : Type} {e : Enc α} {v u : Value} {zs ys : List α} {E : TypeId}
theorem Own.of_row {w' : World} {O1 P2 : Perm} {v' : Value} {cs : List Value} {zs' : List α} (hrow : w'.ownsRow 0 E e.n v' zs'.length cs) (hr : Rows e w' P2 cs zs') (hdisj : ∀ b, v'.ownBlock = some b → P2 b = 0) (hP : ∀ b, P2 b ≤ 1)
    (hO : ∀ b, P2 b ≤ O1 b) (hown : ∀ b, v'.ownBlock = some b → 2 ≤ O1 b) : (Own e E v' zs').h w' O1 := by
  refine ⟨fun b => if v'.ownBlock = some b then O1 b else 0, P2, cs, ⟨fun b => ?_, hO, fun b hb => ?_, fun b hb => ?_⟩, hrow, fun b hb => ?_, hr⟩
  · show (if _ then _ else _) ≤ _; split <;> omega
  · by_cases h : v'.ownBlock = some b
    · exact hdisj b h
    · simp [h] at hb
  · have := hP b; omega
  · simp only [hb, if_true]; exact hown b hb

/-- What append comes to. -/
theorem append_core {P : Program} {w : World} {t : TypeId} {ti : TypeInfo} {z : Value} {size nb : Nat} (hu : P.underlying t = some (.slice E)) (hi : P.info? E = some ti) (hz : ti.zero = some z) (hsz : ti.size = size) (hbt : ti.bytes = nb)
    (hzs : z.cells.size = size) (hn : 0 < size) {v : Value} {n : Nat} {cs : List Value} (g1 : w.ownsRow 0 E size v n cs) {a0 : Option Addr} {m cap : Nat} {cs' : List Value}
    (hsrc : (a0 = none ∧ m = 0 ∧ cs' = []) ∨ ∃ a, a0 = some a ∧ cs'.length = m * size ∧ (∀ j u, cs'[j]? = some u → w.cell? (a.add j) = some u) ∧ ∀ u ∈ cs', u.oneCell' = true)
    (hb : (n + m) * nb ≤ 140737488355328) (hb2 : n + m ≤ maxLen) :
    ∃ v' w', (Builtin.append_ #[t, t] T #[v, .slice a0 m cap]).run P w = .ok v' w' ∧ w'.ownsRow 0 E size v' (n + m) (cs ++ cs') ∧ w.grownBy w' v.ownBlock ∧
      ∀ b, v'.ownBlock = some b → b < w'.heap.size ∧ (v.ownBlock = some b ∨ w.heap.size ≤ b) := by
  have hblk : ∀ {w' : World} {v' : Value} {base n : Nat} {xs : List Value}, w'.ownsRow base E size v' n xs → ∀ b, v'.ownBlock = some b → b < w'.heap.size ∧ base ≤ b := by
    intro w' v' base n xs h b hb
    rcases h.2 with ⟨rfl, _⟩ | ⟨g, cap, cur, rfl, hbase, hg, _⟩
    · simp [Value.ownBlock] at hb
    · simp only [Value.ownBlock, Option.some.injEq] at hb
      subst hb
      refine ⟨?_, hbase⟩
      rcases Nat.lt_or_ge g w'.heap.size with h | h
      · exact h
      · rw [Array.getElem?_eq_none h] at hg; cases hg
  have weak : ∀ {w' : World} {v' : Value} {base n : Nat} {xs : List Value}, w'.ownsRow base E size v' n xs → w'.ownsRow 0 E size v' n xs := by
    intro w' v' base n xs h
    exact ⟨h.1, h.2.imp id fun ⟨g, cap, cur, e, _, r⟩ => ⟨g, cap, cur, e, Nat.zero_le _, r⟩⟩
  rcases hsrc with ⟨rfl, rfl, rfl⟩ | ⟨a, rfl, hl, hnews, h1⟩
  · refine ⟨v, w, ?_, by simpa using g1, ⟨rfl, rfl, rfl, Nat.le_refl _, fun _ _ _ => rfl⟩, fun b hb => ⟨(hblk g1 b hb).1, .inl hb⟩⟩
    rcases g1.2 with ⟨rfl, h0⟩ | ⟨g, cap, cur, rfl, _, _, hnc, _⟩
    · simp [Builtin.append_, run_underlying hu, sizeOf, typeInfo, hi, Builtin.lenOf, Builtin.firstCells]
    · simp [Builtin.append_, run_underlying hu, sizeOf, typeInfo, hi, Builtin.lenOf, Builtin.firstCells, hnc, storeCells]
  · rcases g1.2 with ⟨rfl, h0⟩ | ⟨g, cap', cur, rfl, hbg, hg, hnc, hcm, hcs, htake⟩
    · subst h0
      have g1' : w.ownsRow w.heap.size E size (.slice none 0 0) 0 cs := ⟨g1.1, .inl ⟨rfl, rfl⟩⟩
      obtain ⟨v', w', hrun, hown', hgr, _⟩ := run_append_own (P := P) w w.heap.size t T E ti z size nb hu hi hz hsz hbt hzs hn _ 0 cs g1' a m cap cs' hl hnews h1 hb2 hb (Nat.le_refl _)
      exact ⟨v', w', hrun, weak hown', hgr, fun b hb => ⟨(hblk hown' b hb).1, .inr (hblk hown' b hb).2⟩⟩
    · by_cases hroom : n + m ≤ cap'
      · have hfit : n * ti.size + cs'.length ≤ cur.size := by rw [hl, hcs, hsz, ← Nat.add_mul]; exact Nat.mul_le_mul_right _ hroom
        have hr := run_append_room (P := P) w t T E ti hu hi g n cap' cur hg a m cap cs' (by rw [hsz]; exact hl) hnews h1 hroom hfit
        have hlen : (cs ++ cs').length = (n + m) * size := by rw [List.length_append, g1.1, hl, Nat.add_mul]
        have hown' : (w.setRow g (cur.toList.take (n * ti.size) ++ cs' ++ cur.toList.drop (n * ti.size + cs'.length)).toArray).ownsRow 0 E size (.slice (some ⟨g, 0, none⟩) (n + m) cap') (n + m) (cs ++ cs') := by
          refine ⟨hlen, .inr ⟨g, cap', _, rfl, hbg, setRow_heap w g cur _ E _ hg, hroom, hcm, ?_, ?_⟩⟩
          · simp only [List.size_toArray, List.length_append, List.length_take, List.length_drop, Array.length_toList]
            omega
          · rw [hsz, htake, ← hlen]
            exact List.take_left
        refine ⟨_, _, hr, hown', ⟨rfl, rfl, rfl, by simp, fun k _ hk => setRow_other w g k _ (fun e => hk (by simp [Value.ownBlock, e]))⟩, fun b hb => ⟨(hblk hown' b hb).1, .inl hb⟩⟩
      · have holds : ∀ j u, cs[j]? = some u → w.cell? ((⟨g, 0, none⟩ : Addr).add j) = some u := by
          intro j u hj
          have hadd : (⟨g, 0, none⟩ : Addr).add j = ⟨g, j, none⟩ := by
            unfold Addr.add; split
            · rename_i h; rw [h]
            · simp
          have hjl := cell_in hj
          rw [g1.1] at hjl
          rw [hadd, blk_cell hg]
          rw [← htake, List.getElem?_take, if_pos hjl] at hj
          simpa using hj
        obtain ⟨v', w', hrun, hown', hgr⟩ := run_append_arg_grows (P := P) (w := w) t T E ti z size nb hu hi hz hsz hbt hzs hn ⟨g, 0, none⟩ n cap' cs g1.1 holds a m cap cs' hl hnews (by omega) hb2 hb
        exact ⟨v', w', hrun, weak hown', ⟨hgr.os, hgr.tape, hgr.output, hgr.size, fun k hk _ => hgr.block k hk (by simp)⟩, fun b hb => ⟨(hblk hown' b hb).1, .inr (hblk hown' b hb).2⟩⟩

/-- What follows for the assertions. -/
theorem own_grow {w w' : World} {O O1 O2 O3 O4 : Perm} {v v' : Value} {cs' : List Value} {a' : A} (hdom : ∀ b, O b ≠ 0 → b < w.heap.size) (s : Split O O1 O2) (hO : (Own e E v zs).h w O1)
    (s3 : Split O2 O3 O4) (hsl : a'.h w (fun b => min (O3 b) 1)) (hs4 : Stars L2 w O4) (hr : Rows e w (fun b => min (O3 b) 1) cs' ys)
    (hcs : ∀ P1 P2 c0, Split O1 P1 P2 → w.ownsRow 0 E e.n v zs.length c0 → Rows e w P2 c0 zs → w'.ownsRow 0 E e.n v' (zs.length + ys.length) (c0 ++ cs'))
    (hg : w.grownBy w' v.ownBlock) (hv' : ∀ b, v'.ownBlock = some b → b < w'.heap.size ∧ (v.ownBlock = some b ∨ w.heap.size ≤ b)) :
    ∃ P, Stars (Own e E v' (zs ++ ys) :: a' :: L2) w' P ∧ Rel w O w' P := by
  obtain ⟨P1, P2, c0, t1, g1, g2, g3⟩ := hO
  have hrow := hcs P1 P2 c0 t1 g1 g3
  have d1 : ∀ b, O1 b ≠ 0 → b < w.heap.size := fun b hb => hdom b (by have := s.l b; omega)
  have d2 : ∀ b, O2 b ≠ 0 → b < w.heap.size := fun b hb => hdom b (by have := s.r b; omega)
  have hrel1 : Rel w O1 w' (fun b => if b < w.heap.size then O1 b else if w.heap.size ≤ b ∧ v'.ownBlock = some b then 2 else 0) :=
    rel_grown hg (fun k hk => Nat.le_trans (g2 k hk) (t1.l k)) _ (fun b hb => by
      by_cases h : w.heap.size ≤ b ∧ v'.ownBlock = some b
      · exact ⟨h.1, (hv' b h.2).1⟩
      · simp [h] at hb)
  generalize hN : (fun b => if b < w.heap.size then O1 b else if w.heap.size ≤ b ∧ v'.ownBlock = some b then 2 else 0) = N at hrel1
  have hNo : ∀ b, b < w.heap.size → N b = O1 b := fun b hb => by rw [← hN]; simp [hb]
  have hNn : ∀ b, w.heap.size ≤ b → v'.ownBlock = some b → N b = 2 := fun b hb h => by rw [← hN]; simp [h, hb]; omega
  have hs2 : Stars (a' :: L2) w O2 := ⟨fun b => min (O3 b) 1, O4, ⟨fun b => by have := s3.l b; show min _ _ ≤ _; omega, s3.r, fun b hb => by have h' : 2 ≤ min (O3 b) 1 := hb; omega, fun b hb => by have := s3.rl b hb; show min _ _ = _; omega⟩, hsl, hs4⟩
  obtain ⟨sf, hs2', hrel⟩ := frame hdom s hs2 hrel1
  -- the rows
  have hloc : ∀ (Q : Perm), (∀ b, Q b ≠ 0 → b < w.heap.size ∧ v.ownBlock ≠ some b) → ∀ b, Q b ≠ 0 → w'.heap[b]? = w.heap[b]? := fun Q hQ b hb => hg.block b (hQ b hb).1 (fun h => (hQ b hb).2 h.symm)
  have hP2 : ∀ b, P2 b ≠ 0 → b < w.heap.size ∧ v.ownBlock ≠ some b := fun b hb => ⟨d1 b (by have := t1.r b; omega), fun h => hb (t1.lr b (g2 b h))⟩
  have hO3 : ∀ b, O3 b ≠ 0 → b < w.heap.size ∧ v.ownBlock ≠ some b := fun b hb => ⟨d2 b (by have := s3.l b; omega), fun h => by
    have h1 := g2 b h
    have h2 := t1.l b
    have h3 := s.lr b (by omega)
    have h4 := s3.l b
    omega⟩
  have hr1 : Rows e w' (fun b => max (min (P2 b) 1) (min (O3 b) 1)) c0 zs := (g3.dup.loc (hloc _ fun b hb => hP2 b (by intro h; rw [h] at hb; exact hb rfl))).mono fun b => by show min _ 1 ≤ max _ _; omega
  have hr2 : Rows e w' (fun b => max (min (P2 b) 1) (min (O3 b) 1)) cs' ys := (hr.loc (hloc _ fun b hb => hO3 b (by intro h; rw [h] at hb; exact hb rfl))).mono fun b => by show min _ 1 ≤ max _ _; omega
  have hlen : (zs ++ ys).length = zs.length + ys.length := List.length_append
  have hown : (Own e E v' (zs ++ ys)).h w' (fun b => max (N b) (min (O3 b) 1)) := by
    refine Own.of_row (by rw [hlen]; exact hrow) (hr1.append hr2) (fun b hb => ?_) (fun b => by show max _ _ ≤ 1; omega) (fun b => ?_) (fun b hb => ?_)
    · rcases (hv' b hb).2 with h | h
      · have h1 : P2 b = 0 := t1.lr b (g2 b h)
        have h2 : O3 b = 0 := by
          rcases Nat.eq_zero_or_pos (O3 b) with h3 | h3
          · exact h3
          · exact absurd h (hO3 b (by omega)).2
        show max _ _ = _; omega
      · have h1 : P2 b = 0 := by
          rcases Nat.eq_zero_or_pos (P2 b) with h3 | h3
          · exact h3
          · have := (hP2 b (by omega)).1; omega
        have h2 : O3 b = 0 := by
          rcases Nat.eq_zero_or_pos (O3 b) with h3 | h3
          · exact h3
          · have := (hO3 b (by omega)).1; omega
        show max _ _ = _; omega
    · show max (min (P2 b) 1) (min (O3 b) 1) ≤ max (N b) (min (O3 b) 1)
      rcases Nat.eq_zero_or_pos (P2 b) with h3 | h3
      · omega
      · have h4 := (hP2 b (by omega)).1
        have h5 := hNo b h4
        have := t1.r b
        omega
    · show 2 ≤ max _ _
      rcases (hv' b hb).2 with h | h
      · have h1 := g2 b h
        have h2 := t1.l b
        have h3 := d1 b (by omega)
        have h4 := hNo b h3
        omega
      · have := hNn b h hb; omega
  obtain ⟨Q3, Q4, u1, k1, k2⟩ := hs2'
  refine ⟨fun b => max (N b) (O2 b), ⟨fun b => max (N b) (min (O3 b) 1), fun b => max (min (O3 b) 1) (O4 b), ⟨fun b => ?_, fun b => ?_, fun b hb => ?_, fun b hb => ?_⟩, hown, fun b => min (O3 b) 1, O4, ⟨fun b => ?_, fun b => ?_, fun b hb => ?_, fun b hb => ?_⟩,
    a'.loc hsl (hloc _ fun b hb => hO3 b (by intro h; rw [h] at hb; exact hb rfl)), hs4.loc fun b hb => ?_⟩, hrel⟩
  · have := s3.l b; show max _ _ ≤ max _ _; omega
  · have := s3.l b; have := s3.r b; show max _ _ ≤ max _ _; omega
  · have h1 : 2 ≤ N b := by have h' : 2 ≤ max (N b) (min (O3 b) 1) := hb; omega
    have := sf.lr b h1; have := s3.l b; have := s3.r b; show max _ _ = 0; omega
  · have h1 : 2 ≤ O4 b := by have h' : 2 ≤ max (min (O3 b) 1) (O4 b) := hb; omega
    have h2 := s3.rl b h1
    have h3 := s3.r b
    have h4 := sf.rl b (by omega)
    show max _ _ = 0; omega
  · show _ ≤ max _ _; omega
  · show _ ≤ max _ _; omega
  · have h' : 2 ≤ min (O3 b) 1 := hb; omega
  · have := s3.rl b hb; show min _ _ = 0; omega
  · have h1 := s3.r b
    refine hg.block b (d2 b (by omega)) fun h => ?_
    have h3 := g2 b h.symm
    have h4 := t1.l b
    have h5 := s.lr b (by omega)
    omega

/-- append(x, y...), x a row of one's own. -/
theorem s_append {t : TypeId} {z : Value} {nb sz : Nat} (hu : X.P.underlying t = some (.slice E)) (hE : TI X.P E z sz nb) (hzs : z.cells.size = sz) (hn : 0 < sz)
    (hx : env.eval x = some v) (hy : env.eval y = some u) (hd : d < X.fn.ntmps) (hp : Pick (Own e E v zs) L L1) (hq : Pick (Sl e u ys) L1 L2) (hsz0 : e.n = sz) (hb : (zs.length + ys.length) * nb ≤ 140737488355328)
    (hb2 : zs.length + ys.length ≤ maxLen)
    (k : ∀ v', Kont X ((d, v') :: env) (Own e E v' (zs ++ ys) :: Sl e u ys :: L2) K) :
    StepK X kk ⟨some d, .call ⟨.builtin .append, #[x, y], #[t, t]⟩, T, pos, af, none⟩ env L K := by
  subst hsz0
  refine s_main (γ := Value) (V := fun u => u) (pu := fun _ => True) (L' := fun v' => Own e E v' (zs ++ ys) :: Sl e u ys :: L2) ?_ hd (fun u _ => k u)
  intro a w O ha hst hdom
  obtain ⟨O1, O2, s, hO, hs2⟩ := hp w O hst
  obtain ⟨O3, O4, s3, hsl, hs4⟩ := hq w O2 hs2
  have hslD := SlP.dup hsl
  obtain ⟨ti, hi, hz0, hsz, hbt⟩ := hE
  obtain ⟨a0, cap, rfl, q1, q2, q3⟩ := id hslD
  obtain ⟨P1, P2, cs, t1, g1, g2, g3⟩ := id hO
  have hadd : ∀ b off j : Nat, (⟨b, off, none⟩ : Addr).add j = ⟨b, off + j, none⟩ := fun b off j => by
    unfold Addr.add; split
    · rename_i h; rw [h, Nat.add_zero]
    · rfl
  obtain ⟨cs', hsrc, hr⟩ : ∃ cs', ((a0 = none ∧ ys.length = 0 ∧ cs' = []) ∨ ∃ a, a0 = some a ∧ cs'.length = ys.length * e.n ∧ (∀ j u, cs'[j]? = some u → w.cell? (a.add j) = some u) ∧ ∀ u ∈ cs', u.oneCell' = true) ∧
      Rows e w (fun b => min (O3 b) 1) cs' ys := by
    rcases q3 with ⟨_, rfl⟩ | ⟨b, off, cs', rfl, hb1, hr, hc⟩
    · cases a0 with
      | none => exact ⟨[], .inl ⟨rfl, rfl, rfl⟩, rfl⟩
      | some a => exact ⟨[], .inr ⟨a, rfl, by simp, fun j u hj => by simp at hj, fun u hu => by cases hu⟩, rfl⟩
    · exact ⟨cs', .inr ⟨_, rfl, hr.length, fun j u hj => by rw [hadd]; exact hc j u hj, hr.one⟩, hr⟩
  obtain ⟨v', w', hrun, hown', hgr, hv'⟩ := append_core (P := X.P) (T := T) (t := t) (cap := cap) hu hi hz0 hsz hbt hzs hn g1 hsrc hb hb2
  obtain ⟨P, hP, hrel⟩ := own_grow (a' := Sl e (.slice a0 ys.length cap) ys) (v' := v') (cs' := cs') hdom s hO s3 hslD hs4 hr (fun Q1 Q2 c0 _ h1 _ => by
    have : c0 = cs := by
      rcases h1.2 with ⟨rfl, h0⟩ | ⟨g, cap, cur, rfl, _, hg, _, _, _, htk⟩
      · have e1 := h1.1; have e2 := g1.1
        rw [h0, Nat.zero_mul] at e1 e2
        rw [List.eq_nil_of_length_eq_zero e1, List.eq_nil_of_length_eq_zero e2]
      · rcases g1.2 with ⟨h, _⟩ | ⟨g', cap', cur', h', _, hg', _, _, _, htk'⟩
        · cases h
        · cases h'
          rw [hg] at hg'; cases hg'
          rw [← htk, ← htk']
    rw [this]; exact hown') hgr hv'
  refine ⟨v', w', P, ?_, trivial, hP, hrel⟩
  have hruns : (Builtin.append_ #[t, t] T #[a.eval x, a.eval y]).run X.P w = .ok v' w' := by rw [ha.eval hx, ha.eval hy]; exact hrun
  simp [execOp, resolve, invoke, builtin, hruns]
end
end Go.SL

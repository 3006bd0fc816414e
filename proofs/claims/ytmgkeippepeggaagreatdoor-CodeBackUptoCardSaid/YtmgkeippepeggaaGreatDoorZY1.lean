/- The texts Q0, Q1, Q2, Q3, Q4, Q5, Q6, Q7, Q8, one behind the other. -/
import Derived.Calls
import Derived.Tactics
import Derived.OwnWalk
import Derived.AtR
import Derived.IntWalk
import Derived.Orders
import Derived.Laws.Strings
import Derived.Laws.Slices
import Derived.Laws.AppendOwn
import Derived.Laws.OwnMore
import Derived.Laws.MakeOwn
import Derived.Laws.Cells
import Derived.Laws.CopyRow
import Derived.Lib.AppendStr
import Derived.ArgAppend
import Derived.Deep.Quiet
import Derived.OrdersHeld
import Derived.Laws.BytesArg
import Derived.Lib.Strings
set_option linter.unusedVariables false
set_option linter.unusedSimpArgs false
/- A small separation logic over the machine: assertions, the judgements, the rules of control. -/
namespace Go.SL
open Go

/-- 0: nothing; 1: may be read; from 2 on: is one's own. -/
abbrev Perm := Nat → Nat

structure A where
  h : World → Perm → Prop
  mono : ∀ {w : World} {O O' : Perm}, h w O → (∀ b, O b ≤ O' b) → h w O'
  loc : ∀ {w w' : World} {O : Perm}, h w O → (∀ b, O b ≠ 0 → w'.heap[b]? = w.heap[b]?) → h w' O

structure Split (O O1 O2 : Perm) : Prop where
  l : ∀ b, O1 b ≤ O b
  r : ∀ b, O2 b ≤ O b
  lr : ∀ b, 2 ≤ O1 b → O2 b = 0
  rl : ∀ b, 2 ≤ O2 b → O1 b = 0

def Stars : List A → World → Perm → Prop
  | [], _, _ => True
  | a :: l, w, O => ∃ O1 O2, Split O O1 O2 ∧ a.h w O1 ∧ Stars l w O2

theorem Split.mono {O O' O1 O2 : Perm} (h : Split O O1 O2) (hO : ∀ b, O b ≤ O' b) : Split O' O1 O2 :=
  ⟨fun b => Nat.le_trans (h.l b) (hO b), fun b => Nat.le_trans (h.r b) (hO b), h.lr, h.rl⟩

theorem Stars.mono {l : List A} {w : World} {O O' : Perm} (h : Stars l w O) (hO : ∀ b, O b ≤ O' b) : Stars l w O' := by
  cases l with
  | nil => trivial
  | cons a l => obtain ⟨O1, O2, hs, h1, h2⟩ := h; exact ⟨O1, O2, hs.mono hO, h1, h2⟩

theorem Stars.loc {l : List A} {w w' : World} {O : Perm} (h : Stars l w O) (hw : ∀ b, O b ≠ 0 → w'.heap[b]? = w.heap[b]?) : Stars l w' O := by
  induction l generalizing O with
  | nil => trivial
  | cons a l ih =>
    obtain ⟨O1, O2, hs, h1, h2⟩ := h
    exact ⟨O1, O2, hs, a.loc h1 fun b hb => hw b (by have := hs.l b; omega), ih h2 fun b hb => hw b (by have := hs.r b; omega)⟩

/-- An assertion of a list, taken out. -/
def Pick (a : A) (l l' : List A) : Prop := ∀ w O, Stars l w O → ∃ O1 O2, Split O O1 O2 ∧ a.h w O1 ∧ Stars l' w O2

/-- Reading is enough. -/
def A.Dup (a : A) : Prop := ∀ w O, a.h w O → a.h w fun b => min (O b) 1

theorem Pick.here {a : A} {l : List A} : Pick a (a :: l) l := fun _ _ h => h

theorem Pick.there {a b : A} {l l' : List A} (h : Pick a l l') : Pick a (b :: l) (b :: l') := by
  intro w O hs
  obtain ⟨O1, O2, s, h1, h2⟩ := hs
  obtain ⟨P1, P2, t, g1, g2⟩ := h w O2 h2
  refine ⟨P1, fun b => max (O1 b) (P2 b), ⟨fun b => ?_, fun b => ?_, fun b => ?_, fun b => ?_⟩, g1, O1, P2, ⟨fun b => ?_, fun b => ?_, fun b => ?_, fun b => ?_⟩, h1, g2⟩ <;>
    (have := s.l b; have := s.r b; have := s.lr b; have := s.rl b; have := t.l b; have := t.r b; have := t.lr b; have := t.rl b; omega)

/-- What is only read may be taken and left. -/
theorem Pick.keep {a : A} {l : List A} (hd : a.Dup) : Pick a (a :: l) (a :: l) := by
  intro w O hs
  obtain ⟨O1, O2, s, h1, h2⟩ := hs
  refine ⟨fun b => min (O1 b) 1, fun b => max (min (O1 b) 1) (O2 b), ⟨fun b => ?_, fun b => ?_, fun b => ?_, fun b => ?_⟩, hd _ _ h1, fun b => min (O1 b) 1, O2, ⟨fun b => ?_, fun b => ?_, fun b => ?_, fun b => ?_⟩, hd _ _ h1, h2⟩ <;>
    (have := s.l b; have := s.r b; have := s.lr b; have := s.rl b; omega)

theorem Pick.of {a a' : A} {l l' : List A} (h : Pick a l l') (hi : ∀ w O, a.h w O → a'.h w O) : Pick a' l l' := by
  intro w O hs
  obtain ⟨O1, O2, s, h1, h2⟩ := h w O hs
  exact ⟨O1, O2, s, hi _ _ h1, h2⟩

inductive Picks : List A → List A → List A → Prop
  | nil {l : List A} : Picks [] l l
  | cons {a : A} {az l l1 l2 : List A} (h : Pick a l l1) (t : Picks az l1 l2) : Picks (a :: az) l l2

theorem Picks.split {az l l' : List A} (h : Picks az l l') : ∀ w O, Stars l w O → ∃ O1 O2, Split O O1 O2 ∧ Stars az w O1 ∧ Stars l' w O2 := by
  induction h with
  | nil => exact fun w O h => ⟨fun _ => 0, O, ⟨fun b => Nat.zero_le _, fun b => Nat.le_refl _, fun b h => by omega, fun b h => rfl⟩, trivial, h⟩
  | cons p t ih =>
    intro w O hs
    obtain ⟨O1, O2, s, h1, h2⟩ := p w O hs
    obtain ⟨P1, P2, t, g1, g2⟩ := ih w O2 h2
    refine ⟨fun b => max (O1 b) (P1 b), P2, ⟨fun b => ?_, fun b => ?_, fun b => ?_, fun b => ?_⟩, ⟨O1, P1, ⟨fun b => ?_, fun b => ?_, fun b => ?_, fun b => ?_⟩, h1, g1⟩, g2⟩ <;>
      (have := s.l b; have := s.r b; have := s.lr b; have := s.rl b; have := t.l b; have := t.r b; have := t.lr b; have := t.rl b; omega)

/-- A list gives another. -/
def Ent (l l' : List A) : Prop := ∀ w O, Stars l w O → Stars l' w O
theorem Ent.refl (l : List A) : Ent l l := fun _ _ h => h
theorem Ent.trans {a b c : List A} (h : Ent a b) (k : Ent b c) : Ent a c := fun w O s => k w O (h w O s)
theorem Picks.ent {az l l' : List A} (h : Picks az l l') : Ent l az := fun w O hs => by
  obtain ⟨O1, O2, s, h1, _⟩ := h.split w O hs
  exact h1.mono s.l
theorem Pick.ent {a : A} {l l' : List A} (h : Pick a l l') : Ent l (a :: l') := fun w O hs => h w O hs
/-- What a list says of one assertion, nothing being given away. -/
def Has (l : List A) (a : A) : Prop := ∀ w O, Stars l w O → a.h w O
theorem Has.of {l l' : List A} {a : A} (h : Pick a l l') : Has l a := fun w O hs => by
  obtain ⟨O1, O2, s, h1, _⟩ := h w O hs
  exact a.mono h1 s.l
theorem Has.here {a : A} {l : List A} : Has (a :: l) a := Has.of Pick.here
theorem Has.there {a b : A} {l : List A} (h : Has l a) : Has (b :: l) a := fun w O hs => by
  obtain ⟨O1, O2, s, _, h2⟩ := hs
  exact a.mono (h w O2 h2) s.r
theorem Has.imp {a a' : A} {l : List A} (h : Has l a) (hi : ∀ w O, a.h w O → a'.h w O) : Has l a' := fun w O hs => hi w O (h w O hs)

/-! ### what a step may do -/
structure Rel (w0 : World) (O0 : Perm) (w : World) (O : Perm) : Prop where
  os : w.os = w0.os
  tape : w.tape = w0.tape
  output : w.output = w0.output
  size : w0.heap.size ≤ w.heap.size
  old : ∀ b, b < w0.heap.size → O0 b < 2 → w.heap[b]? = w0.heap[b]?
  perm : ∀ b, b < w0.heap.size → O b ≤ O0 b
  dom : ∀ b, O b ≠ 0 → b < w.heap.size

theorem Rel.refl {w : World} {O : Perm} (h : ∀ b, O b ≠ 0 → b < w.heap.size) : Rel w O w O := ⟨rfl, rfl, rfl, Nat.le_refl _, fun _ _ _ => rfl, fun _ _ => Nat.le_refl _, h⟩
theorem Rel.trans {w0 w1 w2 : World} {O0 O1 O2 : Perm} (h : Rel w0 O0 w1 O1) (k : Rel w1 O1 w2 O2) : Rel w0 O0 w2 O2 :=
  ⟨k.os.trans h.os, k.tape.trans h.tape, k.output.trans h.output, Nat.le_trans h.size k.size,
   fun b hb h2 => (k.old b (by have := h.size; omega) (by have := h.perm b hb; omega)).trans (h.old b hb h2),
   fun b hb => Nat.le_trans (k.perm b (by have := h.size; omega)) (h.perm b hb), k.dom⟩
end Go.SL
/- The judgements over the machine's configurations, and the rules of control. -/
namespace Go.SL
open Go

/-- Known slots, the newest first. -/
abbrev Env := List (Nat × Value)
def Env.look : Env → Nat → Option Value
  | [], _ => none
  | (k, v) :: e, t => bif Nat.beq k t then some v else Env.look e t
def Env.eval (e : Env) : Operand → Option Value
  | .tmp t => e.look t
  | .const v => some v
  | .global g => some (.pointer (some ⟨g, 0, none⟩))
  | .func f => some (.func (.func f) #[] #[])

theorem Env.look_cons {k t : Nat} {v u : Value} {e : Env} (h : Env.look ((k, v) :: e) t = some u) : (k = t ∧ v = u) ∨ (k ≠ t ∧ e.look t = some u) := by
  unfold Env.look at h
  cases hb : Nat.beq k t with
  | true => rw [hb] at h; exact .inl ⟨Nat.eq_of_beq_eq_true hb, by simpa using h⟩
  | false => rw [hb] at h; exact .inr ⟨Nat.ne_of_beq_eq_false hb, by simpa using h⟩
theorem Env.look_same {t : Nat} {v : Value} {e : Env} : Env.look ((t, v) :: e) t = some v := by simp [Env.look]
theorem Env.look_ne {k t : Nat} {v : Value} {e : Env} (h : k ≠ t) : Env.look ((k, v) :: e) t = e.look t := by
  have : Nat.beq k t = false := by
    cases hb : Nat.beq k t with
    | true => exact absurd (Nat.eq_of_beq_eq_true hb) h
    | false => rfl
  simp [Env.look, this]

def Env.Le : Env → Env → Prop
  | [], _ => True
  | (t, v) :: e, e' => e'.look t = some v ∧ Env.Le e e'
theorem Env.Le.look {e e' : Env} (h : Env.Le e e') {t : Nat} {v : Value} (hl : e.look t = some v) : e'.look t = some v := by
  induction e with
  | nil => simp [Env.look] at hl
  | cons p e ih =>
    obtain ⟨k, u⟩ := p
    rcases Env.look_cons hl with ⟨rfl, rfl⟩ | ⟨_, hl⟩
    · exact h.1
    · exact ih h.2 hl

structure Cx where
  P : Program
  f : FuncId
  fn : Func
  R : Value → World → Perm → Prop
  w0 : World
  O0 : Perm
  /-- A round of a loop over a function: the loop's record. -/
  rd : Option Nat := none
  /-- The marks of the loops over functions that have been begun. -/
  defs : List Deferred := []

structure Holds (X : Cx) (env : Env) (a : Act) : Prop where
  size : a.tmps.size = X.fn.ntmps
  defers : a.defers = X.defs
  look : ∀ t v, env.look t = some v → a.tmps[t]? = some v

theorem Holds.le {X : Cx} {e e' : Env} {a : Act} (h : Holds X e' a) (hl : Env.Le e e') : Holds X e a := ⟨h.size, h.defers, fun t v ht => h.look t v (hl.look ht)⟩
theorem Holds.eval {X : Cx} {e : Env} {a : Act} (h : Holds X e a) {x : Operand} {v : Value} (hv : e.eval x = some v) : a.eval x = v := by
  cases x with
  | tmp t => have := h.look t v hv; simp [Act.eval, Array.getD_eq_getD_getElem?, this]
  | const c => exact Option.some.inj hv
  | global g => exact Option.some.inj hv
  | func f => exact Option.some.inj hv
theorem Holds.put {X : Cx} {e : Env} {a : Act} (h : Holds X e a) {d : Nat} (hd : d < X.fn.ntmps) (v : Value) : Holds X ((d, v) :: e) (a.put (some d) v) := by
  refine ⟨by simp [Act.put, h.size], h.defers, fun t u ht => ?_⟩
  simp only [Act.put]
  rcases Env.look_cons ht with ⟨rfl, rfl⟩ | ⟨hne, ht⟩
  · rw [Array.getElem?_setIfInBounds_self]; simp [h.size, hd]
  · rw [Array.getElem?_setIfInBounds_ne hne]; exact h.look t u ht
theorem Holds.put_none {X : Cx} {e : Env} {a : Act} (h : Holds X e a) (v : Value) : Holds X e (a.put none v) := h

/-- The end: a function leaves with its results; a round comes to its end (true), or leaves by a return (false) or by the exit of a block outside (that block's number). -/
def Fin (X : Cx) (fr : Frame) (w : World) (v : Value) : Prop :=
  match X.rd with
  | none => fr.fn = X.f ∧ fr.leaving X.P w (.returned v)
  | some l => ∃ (b : Frame) (a : Act), b.fn = X.f ∧ b.roundOf = some l ∧ b.kind = .normal ∧ ((v = .bool true ∧ fr = b.atR a []) ∨ (∃ k, v = .bool false ∧ fr = b.atR a (.code .ret :: k)) ∨ ∃ id k, v = .int .i64 (id : Nat) ∧ exitTo id k = none ∧ fr = b.atR a (.code (.exit id) :: k))
def Ok (X : Cx) (k : List Item) (a : Act) (w : World) : Prop :=
  ∀ (b : Frame), b.fn = X.f → b.kind = .normal → b.roundOf = X.rd → ∀ cs, ∃ v w' fr O', X.R v w' O' ∧ Rel X.w0 X.O0 w' O' ∧
    Steps X.P (lone (b.atR a k) cs w) (lone fr cs w') ∧ Fin X fr w' v

theorem Ok.step {X : Cx} {k k' : List Item} {a a' : Act} {w w' : World}
    (hs : ∀ (b : Frame) cs, b.roundOf = X.rd → Steps X.P (lone (b.atR a k) cs w) (lone (b.atR a' k') cs w')) (h : Ok X k' a' w') : Ok X k a w := by
  intro b hb hk hr cs
  obtain ⟨v, w1, fr, O', hR, hrel, hst, r⟩ := h b hb hk hr cs
  exact ⟨v, w1, fr, O', hR, hrel, (hs b cs hr).trans hst, r⟩

def Cfg (X : Cx) (k : List Item) (env : Env) (L : List A) : Prop :=
  ∀ a w O, Holds X env a → Stars L w O → Rel X.w0 X.O0 w O → Ok X k a w

section
variable {X : Cx} {k k' : List Item} {env env' : Env} {L L' : List A}

theorem c_use (h : Cfg X k env' L') (he : Env.Le env' env) (hl : Ent L L') : Cfg X k env L :=
  fun a w O ha hs hr => h a w O (ha.le he) (hl w O hs) hr
theorem c_ent (hl : Ent L L') (h : Cfg X k env L') : Cfg X k env L := fun a w O ha hs hr => h a w O ha (hl w O hs) hr
theorem c_env (he : Env.Le env' env) (h : Cfg X k env' L) : Cfg X k env L := fun a w O ha hs hr => h a w O (ha.le he) hs hr

theorem c_seq {x y : Code} (h : Cfg X (.code x :: .code y :: k) env L) : Cfg X (.code (.seq x y) :: k) env L :=
  fun a w O ha hs hr => (h a w O ha hs hr).step fun _ _ _ => .one stepR_seq
theorem c_skip (h : Cfg X k env L) : Cfg X (.code .skip :: k) env L := fun a w O ha hs hr => (h a w O ha hs hr).step fun _ _ _ => .one stepR_skip
theorem c_label {l : Nat} (h : Cfg X k env L) : Cfg X (.code (.label l) :: k) env L := fun a w O ha hs hr => (h a w O ha hs hr).step fun _ _ _ => .one stepR_label
theorem c_inBlock {id : Nat} (h : Cfg X k env L) : Cfg X (.inBlock id :: k) env L := fun a w O ha hs hr => (h a w O ha hs hr).step fun _ _ _ => .one stepR_inBlock
theorem c_block {id : Nat} {c : Code} (h : Cfg X (.code c :: .inBlock id :: k) env L) : Cfg X (.code (.block id c) :: k) env L :=
  fun a w O ha hs hr => (h a w O ha hs hr).step fun _ _ _ => .one stepR_block
theorem c_exit {id : Nat} (he : exitTo id k = some k') (h : Cfg X k' env L) : Cfg X (.code (.exit id) :: k) env L :=
  fun a w O ha hs hr => (h a w O ha hs hr).step fun _ _ _ => .one (stepR_exit he)
theorem c_goto {l : Nat} (he : gotoIn l k = some k') (h : Cfg X k' env L) : Cfg X (.code (.goto l) :: k) env L :=
  fun a w O ha hs hr => (h a w O ha hs hr).step fun _ _ _ => .one (stepR_goto he)
theorem c_cond {c : Operand} {x y : Code} {t : Bool} (hc : env.eval c = some (.bool t)) (ht : t = true → Cfg X (.code x :: k) env L) (hf : t = false → Cfg X (.code y :: k) env L) :
    Cfg X (.code (.cond c x y) :: k) env L := by
  intro a w O ha hs hr
  cases t with
  | true => exact (ht rfl a w O ha hs hr).step fun b cs _ => .one (by have := stepR_cond (P := X.P) (b := b) (k := k) (cs := cs) (w := w) (x := x) (y := y) (ha.eval hc); simpa using this)
  | false => exact (hf rfl a w O ha hs hr).step fun b cs _ => .one (by have := stepR_cond (P := X.P) (b := b) (k := k) (cs := cs) (w := w) (x := x) (y := y) (ha.eval hc); simpa using this)
theorem c_cond_t {c : Operand} {x y : Code} (hc : env.eval c = some (.bool true)) (h : Cfg X (.code x :: k) env L) : Cfg X (.code (.cond c x y) :: k) env L :=
  c_cond hc (fun _ => h) (fun e => by cases e)
theorem c_cond_f {c : Operand} {x y : Code} (hc : env.eval c = some (.bool false)) (h : Cfg X (.code y :: k) env L) : Cfg X (.code (.cond c x y) :: k) env L :=
  c_cond hc (fun e => by cases e) (fun _ => h)
/-- A test of a proposition. -/
theorem c_cond_p {c : Operand} {x y : Code} {p : Prop} [Decidable p] (hc : env.eval c = some (.bool (decide p))) (ht : p → Cfg X (.code x :: k) env L) (hf : ¬ p → Cfg X (.code y :: k) env L) :
    Cfg X (.code (.cond c x y) :: k) env L :=
  c_cond hc (fun e => ht (of_decide_eq_true e)) (fun e => hf (of_decide_eq_false e))

/-- A loop: g is what is known at each round's head; the rounds lower μ. -/
theorem c_loop {c : Code} {γ : Type} (μ : γ → Nat) (J : γ → Prop) (E : γ → Env) (LL : γ → List A) (g : γ) (hJ : J g) (hE : Env.Le (E g) env) (hL : Ent L (LL g))
    (round : ∀ g, J g → (∀ g', μ g' < μ g → J g' → Cfg X (.inLoop c :: k) (E g') (LL g')) → Cfg X (.code c :: .inLoop c :: k) (E g) (LL g)) :
    Cfg X (.code (.loop c) :: k) env L := by
  have key : ∀ n g, μ g = n → J g → Cfg X (.inLoop c :: k) (E g) (LL g) := by
    intro n
    induction n using Nat.strongRecOn with
    | _ n ih =>
      intro g hn hg a w O ha hs hr
      refine (round g hg (fun g' hlt hg' => ih (μ g') (hn ▸ hlt) g' rfl hg') a w O ha hs hr).step fun _ _ _ => .one stepR_inLoop
  intro a w O ha hs hr
  refine (round g hJ (fun g' _ hg' => key _ g' rfl hg') a w O (ha.le hE) (hL w O hs) hr).step fun _ _ _ => .one stepR_loop

/-- Where ways meet again. -/
theorem c_join {γ : Type} (J : γ → Prop) (E : γ → Env) (LL : γ → List A) {i : Item} (hj : ∀ g, J g → Cfg X k (E g) (LL g)) (h : (∀ g, J g → Cfg X k (E g) (LL g)) → Cfg X (i :: k) env L) : Cfg X (i :: k) env L := h hj

theorem c_ret_any (hr : ∀ a w O, Holds X env a → Stars L w O → (∀ b, O b ≠ 0 → b < w.heap.size) → ∃ v, (results X.fn a.tmps).run X.P w = .ok v w ∧ X.R v w O)
    (hf : X.P.funcs[X.f]? = some X.fn) (hrd : X.rd = none) (hdf : X.defs = []) (hk : ∀ (a : Act) (w : World) (b : Frame) (cs : List Frame), b.kind = .normal → b.roundOf = none → Steps X.P (lone (b.atR a k) cs w) (lone { b.atR a k with mode := .returning } cs w)) : Cfg X k env L := by
  intro a w O ha hs hrel b hb hkd hro cs
  obtain ⟨v, hv, hR⟩ := hr a w O ha hs hrel.dom
  refine ⟨v, w, { b.atR a k with mode := .returning }, O, hR, hrel, hk a w b cs hkd (hro.trans hrd), ?_⟩
  unfold Fin
  rw [hrd]
  exact ⟨hb, rfl, ha.defers.trans hdf, hkd, X.fn, by simpa [Frame.atR, hb] using hf, by simpa [Frame.atR] using hv⟩

theorem steps_ret {b : Frame} {P : Program} {a : Act} {w : World} {cs : List Frame} (hb : b.roundOf = none) : Steps P (lone (b.atR a (.code .ret :: k)) cs w) (lone { b.atR a (.code .ret :: k) with mode := .returning } cs w) := .one (stepR_ret hb)

theorem getD_of {tmps : Array Value} {t : Nat} {v : Value} (h : tmps[t]? = some v) : tmps.getD t undef = v := by simp [Array.getD_eq_getD_getElem?, h]
theorem results_one {fn : Func} {t : Nat} {tmps : Array Value} {P : Program} {w : World} {v : Value} (h : fn.results = #[.tmp t]) (hv : tmps[t]? = some v) : (results fn tmps).run P w = .ok v w := by
  rw [results_tmp h, getD_of hv]
theorem results_two {fn : Func} {s t : Nat} {tmps : Array Value} {P : Program} {w : World} {u v : Value} (h : fn.results = #[.tmp s, .tmp t]) (hu : tmps[s]? = some u) (hv : tmps[t]? = some v) :
    (results fn tmps).run P w = .ok (.tuple #[u, v]) w := by
  rw [results_tmp2 h, getD_of hu, getD_of hv]
theorem results_three {fn : Func} {s t r : Nat} {tmps : Array Value} {P : Program} {w : World} {u v x : Value} (h : fn.results = #[.tmp s, .tmp t, .tmp r]) (hu : tmps[s]? = some u) (hv : tmps[t]? = some v) (hx : tmps[r]? = some x) :
    (results fn tmps).run P w = .ok (.tuple #[u, v, x]) w := by
  rw [results_tmp3 h, getD_of hu, getD_of hv, getD_of hx]
theorem results_no {fn : Func} {tmps : Array Value} {P : Program} {w : World} (h : fn.results = #[]) : (results fn tmps).run P w = .ok (.tuple #[]) w := results_none h _ _ _

theorem c_ret0 (hf : X.P.funcs[X.f]? = some X.fn) (h : X.fn.results = #[]) (fin : ∀ w O, Stars L w O → X.R (.tuple #[]) w O) (hrd : X.rd = none := by rfl) (hdf : X.defs = [] := by rfl) : Cfg X (.code .ret :: k) env L :=
  c_ret_any (fun _ w O _ hs _ => ⟨_, results_no h, fin w O hs⟩) hf hrd hdf fun _ _ _ _ _ hb => steps_ret hb
theorem c_end0 (hf : X.P.funcs[X.f]? = some X.fn) (h : X.fn.results = #[]) (fin : ∀ w O, Stars L w O → X.R (.tuple #[]) w O) (hrd : X.rd = none := by rfl) (hdf : X.defs = [] := by rfl) : Cfg X [] env L :=
  c_ret_any (fun _ w O _ hs _ => ⟨_, results_no h, fin w O hs⟩) hf hrd hdf fun _ _ _ _ _ hb => .one (stepR_end hb)
theorem c_ret1 {t : Nat} {v : Value} (hf : X.P.funcs[X.f]? = some X.fn) (h : X.fn.results = #[.tmp t]) (hv : env.look t = some v) (fin : ∀ w O, Stars L w O → X.R v w O) (hrd : X.rd = none := by rfl) (hdf : X.defs = [] := by rfl) : Cfg X (.code .ret :: k) env L :=
  c_ret_any (fun _ w O ha hs _ => ⟨_, results_one h (ha.look t v hv), fin w O hs⟩) hf hrd hdf fun _ _ _ _ _ hb => steps_ret hb
theorem c_ret2 {s t : Nat} {u v : Value} (hf : X.P.funcs[X.f]? = some X.fn) (h : X.fn.results = #[.tmp s, .tmp t]) (hu : env.look s = some u) (hv : env.look t = some v) (fin : ∀ w O, Stars L w O → X.R (.tuple #[u, v]) w O) (hrd : X.rd = none := by rfl) (hdf : X.defs = [] := by rfl) :
    Cfg X (.code .ret :: k) env L :=
  c_ret_any (fun _ w O ha hs _ => ⟨_, results_two h (ha.look s u hu) (ha.look t v hv), fin w O hs⟩) hf hrd hdf fun _ _ _ _ _ hb => steps_ret hb
theorem c_ret3 {s t r : Nat} {u v x : Value} (hf : X.P.funcs[X.f]? = some X.fn) (h : X.fn.results = #[.tmp s, .tmp t, .tmp r]) (hu : env.look s = some u) (hv : env.look t = some v) (hx : env.look r = some x)
    (fin : ∀ w O, Stars L w O → X.R (.tuple #[u, v, x]) w O) (hrd : X.rd = none := by rfl) (hdf : X.defs = [] := by rfl) : Cfg X (.code .ret :: k) env L :=
  c_ret_any (fun _ w O ha hs _ => ⟨_, results_three h (ha.look s u hu) (ha.look t v hv) (ha.look r x hx), fin w O hs⟩) hf hrd hdf fun _ _ _ _ _ hb => steps_ret hb
end

/-! ### contracts -/
/-- A function's contract: in any world in which L holds, whatever is left aside, it returns one of 'ret g'; then pu g, and L' g holds. -/
def Con (P : Program) (f : FuncId) (args : List Value) (L : List A) {γ : Type} (ret : γ → Value) (pu : γ → Prop) (L' : γ → List A) : Prop :=
  ∀ w O, Stars L w O → (∀ b, O b ≠ 0 → b < w.heap.size) →
    Calls P f args.toArray w fun e w' => ∃ g O', e = .returned (ret g) ∧ pu g ∧ Stars (L' g) w' O' ∧ Rel w O w' O'

def initEnv : Nat → List Value → Env
  | _, [] => []
  | i, v :: vs => (i, v) :: initEnv (i + 1) vs
theorem initEnv_look {vs : List Value} {i t : Nat} {v : Value} (h : (initEnv i vs).look t = some v) : i ≤ t ∧ vs[t - i]? = some v := by
  induction vs generalizing i with
  | nil => simp [initEnv, Env.look] at h
  | cons u vs ih =>
    rcases Env.look_cons h with ⟨rfl, rfl⟩ | ⟨_, h⟩
    · simp
    · obtain ⟨h1, h2⟩ := ih h
      refine ⟨by omega, ?_⟩
      rw [show t - i = (t - (i + 1)) + 1 by omega]
      simpa using h2

theorem con_of {P : Program} {f : FuncId} {fn : Func} {c : Code} {args : List Value} {L : List A} {γ : Type} {ret : γ → Value} {pu : γ → Prop} {L' : γ → List A}
    (hf : P.funcs[f]? = some fn) (hb : fn.body = some c) (hn : args.length ≤ fn.ntmps)
    (h : ∀ w0 O0, Cfg { P := P, f := f, fn := fn, R := fun v w O => ∃ g, v = ret g ∧ pu g ∧ Stars (L' g) w O, w0 := w0, O0 := O0 } [.code c] (initEnv 0 args) L) : Con P f args L ret pu L' := by
  intro w O hs hdom cs
  have henter : Frame.enter P f args.toArray .normal =
      ({ (default : Frame) with fn := f, kind := .normal, roundOf := none } : Frame).atR { tmps := args.toArray ++ Array.replicate (fn.ntmps - args.toArray.size) undef, defers := [] } [.code c] := by
    simp [Frame.enter, Frame.atR, hf, hb]
  obtain ⟨v, w', fr, O', ⟨g, rfl, hpu, hL⟩, hrel, hst, hfn, hlv⟩ := h w O { tmps := args.toArray ++ Array.replicate (fn.ntmps - args.toArray.size) undef, defers := [] } w O
    ⟨by simp; omega, rfl, fun t v ht => by
      obtain ⟨_, h2⟩ := initEnv_look ht
      have h3 : t < args.length := by
        rcases Nat.lt_or_ge t args.length with h | h
        · exact h
        · rw [Nat.sub_zero, List.getElem?_eq_none (by omega)] at h2; cases h2
      rw [Array.getElem?_append_left (by simpa using h3)]
      simpa using h2⟩ hs (Rel.refl hdom) { (default : Frame) with fn := f, kind := .normal, roundOf := none } rfl rfl rfl cs
  rw [← henter] at hst
  exact ⟨.returned (ret g), w', fr, ⟨g, O', rfl, hpu, hL, hrel⟩, hst, hfn, hlv⟩

theorem Con.pre {P : Program} {f : FuncId} {args : List Value} {L L1 : List A} {γ : Type} {ret : γ → Value} {pu : γ → Prop} {L' : γ → List A} (h : Con P f args L ret pu L') (he : Ent L1 L) : Con P f args L1 ret pu L' :=
  fun w O hs hd => h w O (he w O hs) hd
end Go.SL
/- Regions, and the rules of the operations that touch no memory; calls. -/
namespace Go.SL
open Go

def Qn (X : Cx) (k : List Item) : Exit → Act → World → Prop := fun e a w => e = .normal ∧ Ok X k a w

/-- A round of a loop over a function, called: it comes back to the frame that called. -/
def Round (P : Program) (l : Nat) (f : FuncId) (tmps : Array Value) (assign body : Code) (w : World) (R : Value → World → Prop) : Prop :=
  ∀ (c : Frame) (cs : List Frame), ∃ v w', R v w' ∧ Steps P (lone (Frame.round l f tmps assign body .normal) (c :: cs) w) (lone (c.finish v) cs w')
theorem Round.mono {P : Program} {l : Nat} {f : FuncId} {tmps : Array Value} {assign body : Code} {w : World} {R R' : Value → World → Prop} (h : Round P l f tmps assign body w R) (hR : ∀ v w, R v w → R' v w) : Round P l f tmps assign body w R' := fun c cs => by
  obtain ⟨v, w', h1, h2⟩ := h c cs
  exact ⟨v, w', hR _ _ h1, h2⟩
/-- An operation that calls a round. -/
def yields (P : Program) (o : Oper) (a : Act) (w : World) (next : Act → World → Prop) : Prop :=
  ∃ l f tmps assign body w', (execOp a.eval o).run P w = .ok (.round l f tmps assign body) w' ∧ Round P l f tmps assign body w' fun v w'' => next (a.put o.dst v) w''
/-- The operations of a region, in the order of the text. -/
def wpl (P : Program) (ops : Array Oper) (Q : Exit → Act → World → Prop) : List Oper → Act → World → Prop
  | [], a, w => Q .normal a w
  | o :: rest, a, w => if Region.wanted o (yielded ops a.tmps) then o.wp P a w (wpl P ops Q rest) Q ∨ yields P o a w (wpl P ops Q rest) else wpl P ops Q rest (a.put o.dst undef) w

def noDefer (l : List Oper) : Bool := l.all fun o => match o.op with | .defer _ => false | _ => true
theorem noDefer_get {l : List Oper} {i : Nat} {o : Oper} (h : noDefer l = true) (ho : l[i]? = some o) : ∀ c, o.op ≠ .defer c := by
  intro c hc
  have := List.all_eq_true.1 h o (List.mem_of_getElem? ho)
  rw [hc] at this
  cases this

section
variable {X : Cx} {k : List Item} {ops : Array Oper}
/-- One operation, carried out. -/
theorem ok_oper {i : Nat} {rest : List Nat} {o : Oper} {a : Act} {w : World} (ho : ops[i]? = some o) (hnd : ∀ c, o.op ≠ .defer c) (hw : Region.wanted o (yielded ops a.tmps) = true)
    {next : Act → World → Prop} (hn : ∀ a w, next a w → Ok X (.inRegion ops rest :: k) a w) (h : o.wp X.P a w next (Qn X k) ∨ yields X.P o a w next) : Ok X (.inRegion ops (i :: rest) :: k) a w := by
  intro b hb hk hro cs
  have hg := stepGR_op (P := X.P) (b := b) (k := k) (cs := cs) (w := w) (rest := rest) ho hw
  rw [Oper.semAt_eq _ _ _ hnd] at hg
  have hfin : ∀ v, (b.atR a (.inRegion ops (i :: rest) :: k)).finish v = b.atR (a.put o.dst v) (.inRegion ops rest :: k) := by
    intro v; rw [Frame.finish_atR, ho]; rfl
  have go : ∀ {a' : Act} {w' : World}, next a' w' → Steps X.P (lone (b.atR a (.inRegion ops (i :: rest) :: k)) cs w) (lone (b.atR a' (.inRegion ops rest :: k)) cs w') →
      ∃ v w' fr O', X.R v w' O' ∧ Rel X.w0 X.O0 w' O' ∧ Steps X.P (lone (b.atR a (.inRegion ops (i :: rest) :: k)) cs w) (lone fr cs w') ∧ Fin X fr w' v := by
    intro a' w' hnx hst
    obtain ⟨v, w1, fr, O', hR, hrel, hst', hf⟩ := hn a' w' hnx b hb hk hro cs
    exact ⟨v, w1, fr, O', hR, hrel, hst.trans hst', hf⟩
  rcases h with h | ⟨l, f, tmps, assign, body, w', hrun, hround⟩
  · unfold Oper.wp at h
    generalize hrun : (execOp a.eval o).run X.P w = r at h
    unfold Oper.upon at h
    split at h
    · refine go h (.one (step_lone_go ?_))
      rw [hg, ← hfin]; simp [stepG.apply, hrun]
    · refine go h (.one (step_lone_go ?_))
      rw [hg, ← hfin]; simp [stepG.apply, hrun]
    · rename_i d w'
      refine go h (.one (step_lone_go ?_))
      have : ({ b.atR a (.inRegion ops (i :: rest) :: k) with defers := d :: a.defers } : Frame).finish undef = b.atR ({ a with defers := d :: a.defers }.put o.dst undef) (.inRegion ops rest :: k) := by
        have := Frame.finish_atR b { a with defers := d :: a.defers } ops i rest k undef
        rw [ho] at this; exact this
      rw [hg]; simp only [stepG.apply, Sem.runT_eq, hrun, GStep.bare_after]
      exact congrArg (fun fr => GStep.go { frame := fr, callers := cs, status := .running, dying := none } w') this
    · rename_i f args w'
      have henter : step X.P (lone (b.atR a (.inRegion ops (i :: rest) :: k)) cs w) = .next (lone (Frame.enter X.P f args .normal) (b.atR a (.inRegion ops (i :: rest) :: k) :: cs) w') :=
        step_lone_go (by rw [hg]; simp [stepG.apply, hrun, Frame.atR])
      obtain ⟨e, w'', fr, hR, hcomes, hfn, hleave⟩ := h (b.atR a (.inRegion ops (i :: rest) :: k) :: cs)
      cases e with
      | returned v =>
        refine go hR ((Steps.one henter).trans (Steps.trans hcomes (.one ?_)))
        rw [← hfin]; exact step_leave_returned hleave
      | panicked chain => exact absurd hR.1 (by simp)
      | outgrown => obtain ⟨_, _, hq⟩ := hR; exact absurd hq.1 (by simp)
    · rename_i row args w'
      have henter : step X.P (lone (b.atR a (.inRegion ops (i :: rest) :: k)) cs w) = .next (lone (Frame.ofRow X.P row args .normal) (b.atR a (.inRegion ops (i :: rest) :: k) :: cs) w') :=
        step_lone_go (by rw [hg]; simp [stepG.apply, hrun, Frame.atR])
      obtain ⟨v, w'', hR, hst⟩ := h (b.atR a (.inRegion ops (i :: rest) :: k)) cs
      rw [hfin] at hst
      exact go hR ((Steps.one henter).trans hst)
    · exact absurd h.1 (by simp)
    · exact h.elim
  · have henter : step X.P (lone (b.atR a (.inRegion ops (i :: rest) :: k)) cs w) = .next (lone (Frame.round l f tmps assign body .normal) (b.atR a (.inRegion ops (i :: rest) :: k) :: cs) w') :=
      step_lone_go (by rw [hg]; simp [stepG.apply, hrun, Frame.atR])
    obtain ⟨v, w'', hR, hst⟩ := hround (b.atR a (.inRegion ops (i :: rest) :: k)) cs
    rw [hfin] at hst
    exact go hR ((Steps.one henter).trans hst)
theorem ok_skip {i : Nat} {rest : List Nat} {o : Oper} {a : Act} {w : World} (ho : ops[i]? = some o) (hw : ¬ Region.wanted o (yielded ops a.tmps) = true) (h : Ok X (.inRegion ops rest :: k) (a.put o.dst undef) w) : Ok X (.inRegion ops (i :: rest) :: k) a w :=
  h.step fun b cs _ => .one (by
    have hs := stepR_op_skip (P := X.P) (b := b) (a := a) (k := k) (cs := cs) (w := w) (ops := ops) (i := i) (rest := rest) (by simp [ho]; simpa using hw)
    simp only [ho, Option.bind_some] at hs
    exact hs)
theorem ok_nil {a : Act} {w : World} (h : Ok X k a w) : Ok X (.inRegion ops [] :: k) a w := h.step fun _ _ _ => .one stepR_region_end
/-- The operations in the order of the text. -/
theorem ok_wpl (hnd : noDefer ops.toList = true) : ∀ (n i : Nat) (a : Act) (w : World), i + n = ops.size → wpl X.P ops (Qn X k) (ops.toList.drop i) a w → Ok X (.inRegion ops (List.range' i n) :: k) a w := by
  intro n
  induction n with
  | zero =>
    intro i a w hi h
    rw [List.drop_eq_nil_of_le (by simp; omega)] at h
    exact ok_nil h.2
  | succ n ih =>
    intro i a w hi h
    have hlt : i < ops.size := by omega
    have hd : ops.toList.drop i = ops[i] :: ops.toList.drop (i + 1) := by
      rw [List.drop_eq_getElem_cons (by simpa using hlt)]; rfl
    have ho : ops[i]? = some ops[i] := Array.getElem?_eq_getElem hlt
    rw [hd] at h
    rw [List.range'_succ]
    simp only [wpl] at h
    split at h
    · rename_i hw
      exact ok_oper ho (noDefer_get hnd (by rw [Array.getElem?_toList]; exact ho)) hw (fun a w h => ih (i + 1) a w (by omega) h) h
    · rename_i hw
      exact ok_skip ho hw (ih (i + 1) _ _ (by omega) h)
/-- The operations in a drawn order. -/
theorem ok_ops (hnd : noDefer ops.toList = true) : ∀ (l : List Nat) (a : Act) (w : World), wpOps X.P ops (Qn X k) l a w → Ok X (.inRegion ops l :: k) a w := by
  intro l
  induction l with
  | nil => intro a w h; exact ok_nil h.2
  | cons i rest ih =>
    intro a w h
    simp only [wpOps] at h
    cases ho : ops[i]? with
    | none =>
      simp only [ho] at h
      refine (ih a w h).step fun b cs _ => .one ?_
      have hs := stepR_op_skip (P := X.P) (b := b) (a := a) (k := k) (cs := cs) (w := w) (ops := ops) (i := i) (rest := rest) (by simp [ho])
      simp only [ho, Option.bind_none, Act.put] at hs
      exact hs
    | some o =>
      simp only [ho] at h
      split at h
      · rename_i hw
        rcases h with h | ⟨_, _, _, hq⟩
        · exact ok_oper ho (noDefer_get hnd (by rw [Array.getElem?_toList]; exact ho)) hw (fun a w h => ih a w h) (.inl h)
        · exact absurd hq.1 (by simp)
      · rename_i hw
        exact ok_skip ho hw (ih _ _ h)
end

/-- What is left is K. -/
def Kont (X : Cx) (env : Env) (L : List A) (K : Act → World → Prop) : Prop := ∀ a w O, Holds X env a → Stars L w O → Rel X.w0 X.O0 w O → K a w
abbrev Ops (X : Cx) (ops : Array Oper) (l : List Oper) (k : List Item) (env : Env) (L : List A) : Prop := Kont X env L (wpl X.P ops (Qn X k) l)
/-- One operation, and then K. -/
def StepK (X : Cx) (k : List Item) (o : Oper) (env : Env) (L : List A) (K : Act → World → Prop) : Prop := Kont X env L fun a w => o.wp X.P a w K (Qn X k)

section
variable {X : Cx} {ops : Array Oper} {rest : List Oper} {kk : List Item} {env env' : Env} {L L1 : List A}

theorem c_region {id : Nat} {l : List Oper} (h : Ops X l.toArray l kk env L) (hnd : noDefer l = true := by rfl) : Cfg X (.code (.region id l.toArray false) :: kk) env L := by
  intro a w O ha hs hr
  have := ok_wpl (X := X) (k := kk) (ops := l.toArray) (by simpa using hnd) l.length 0 a w (by simp) (by simpa using h a w O ha hs hr)
  refine Ok.step (fun b cs _ => .one stepR_region) ?_
  simpa [List.range_eq_range'] using this
theorem o_nil (h : Cfg X kk env L) : Ops X ops [] kk env L := fun a w O ha hs hr => ⟨rfl, h a w O ha hs hr⟩
theorem o_ent (hl : Ent L L1) (h : Ops X ops rest kk env L1) : Ops X ops rest kk env L := fun a w O ha hs hr => h a w O ha (hl w O hs) hr
theorem o_use (h : Ops X ops rest kk env' L1) (he : Env.Le env' env) (hl : Ent L L1) : Ops X ops rest kk env L := fun a w O ha hs hr => h a w O (ha.le he) (hl w O hs) hr

theorem o_step {d : Option Tmp} {op : Op} {T : TypeId} {pos : String} {af : Array Edge} (h : StepK X kk ⟨d, op, T, pos, af, none⟩ env L (wpl X.P ops (Qn X kk) rest)) : Ops X ops (⟨d, op, T, pos, af, none⟩ :: rest) kk env L := by
  intro a w O ha hs hr
  simp only [wpl, Region.wanted, if_true]
  exact .inl (h a w O ha hs hr)
/-- What every operation that tells a value comes to. -/
theorem s_main {K : Act → World → Prop} {γ : Type} {V : γ → Value} {pu : γ → Prop} {L' : γ → List A} {d : Nat} {op : Op} {T : TypeId} {pos : String} {af : Array Edge}
    (h : ∀ a w O, Holds X env a → Stars L w O → (∀ b, O b ≠ 0 → b < w.heap.size) →
      ∃ g w' O', (execOp a.eval ⟨some d, op, T, pos, af, none⟩).run X.P w = .ok (.value (V g)) w' ∧ pu g ∧ Stars (L' g) w' O' ∧ Rel w O w' O')
    (hd : d < X.fn.ntmps) (k : ∀ g, pu g → Kont X ((d, V g) :: env) (L' g) K) : StepK X kk ⟨some d, op, T, pos, af, none⟩ env L K := by
  intro a w O ha hs hr
  obtain ⟨g, w', O', hrun, hpu, hs', hrel⟩ := h a w O ha hs hr.dom
  simp only [Oper.wp, hrun, Oper.upon]
  exact k g hpu _ w' O' (ha.put hd _) hs' (hr.trans hrel)
/-- The same where nobody takes the value. -/
theorem s_main0 {K : Act → World → Prop} {γ : Type} {V : γ → Value} {pu : γ → Prop} {L' : γ → List A} {op : Op} {T : TypeId} {pos : String} {af : Array Edge}
    (h : ∀ a w O, Holds X env a → Stars L w O → (∀ b, O b ≠ 0 → b < w.heap.size) →
      ∃ g w' O', (execOp a.eval ⟨none, op, T, pos, af, none⟩).run X.P w = .ok (.value (V g)) w' ∧ pu g ∧ Stars (L' g) w' O' ∧ Rel w O w' O')
    (k : ∀ g, pu g → Kont X env (L' g) K) : StepK X kk ⟨none, op, T, pos, af, none⟩ env L K := by
  intro a w O ha hs hr
  obtain ⟨g, w', O', hrun, hpu, hs', hrel⟩ := h a w O ha hs hr.dom
  simp only [Oper.wp, hrun, Oper.upon]
  exact k g hpu _ w' O' (ha.put_none _) hs' (hr.trans hrel)
/-- The same at one that tells nothing. -/
theorem s_skip {K : Act → World → Prop} {γ : Type} {pu : γ → Prop} {L' : γ → List A} {op : Op} {T : TypeId} {pos : String} {af : Array Edge}
    (h : ∀ a w O, Holds X env a → Stars L w O → (∀ b, O b ≠ 0 → b < w.heap.size) →
      ∃ g w' O', (execOp a.eval ⟨none, op, T, pos, af, none⟩).run X.P w = .ok .skip w' ∧ pu g ∧ Stars (L' g) w' O' ∧ Rel w O w' O')
    (k : ∀ g, pu g → Kont X env (L' g) K) : StepK X kk ⟨none, op, T, pos, af, none⟩ env L K := by
  intro a w O ha hs hr
  obtain ⟨g, w', O', hrun, hpu, hs', hrel⟩ := h a w O ha hs hr.dom
  simp only [Oper.wp, hrun, Oper.upon]
  exact k g hpu _ w' O' (ha.put_none _) hs' (hr.trans hrel)
/-- An operation that turns no memory, and what it tells. -/
def Val (X : Cx) (env : Env) (L : List A) (op : Op) (T : TypeId) (v : Value) : Prop :=
  ∀ (dst : Option Tmp) (pos : String) (af : Array Edge) (g : Option (Nat × Bool)) (a : Act) (w : World) (O : Perm), Holds X env a → Stars L w O → (execOp a.eval ⟨dst, op, T, pos, af, g⟩).run X.P w = .ok (.value v) w
theorem o_val {v : Value} {d : Nat} {op : Op} {T : TypeId} {pos : String} {af : Array Edge} (h : Val X env L op T v)
    (hd : d < X.fn.ntmps) (k : Ops X ops rest kk ((d, v) :: env) L) : Ops X ops (⟨some d, op, T, pos, af, none⟩ :: rest) kk env L :=
  o_step <| s_main (γ := Unit) (V := fun _ => v) (pu := fun _ => True) (L' := fun _ => L) (fun a w O ha hs hdom => ⟨(), w, O, h _ _ _ _ a w O ha hs, trivial, hs, Rel.refl hdom⟩) hd (fun _ _ => k)
theorem o_val_none {v : Value} {op : Op} {T : TypeId} {pos : String} {af : Array Edge} (h : Val X env L op T v)
    (k : Ops X ops rest kk env L) : Ops X ops (⟨none, op, T, pos, af, none⟩ :: rest) kk env L := by
  intro a w O ha hs hr
  have := k a w O ha hs hr
  simp only [wpl, Region.wanted, if_true, Oper.wp, h none pos af none a w O ha hs, Oper.upon]
  exact .inl this
theorem Val.ent {v : Value} {op : Op} {T : TypeId} (h : Val X env L1 op T v) (he : Ent L L1) : Val X env L op T v := fun d p af g a w O ha hs => h d p af g a w O ha (he w O hs)

/-! ### guards -/
theorem o_guard {j s : Nat} {t want : Bool} {d : Option Nat} {op : Op} {T : TypeId} {pos : String} {af : Array Edge}
    (hj : (ops[j]?).bind (·.dst) = some s) (ht : env.look s = some (.bool t))
    (hy : t = want → Ops X ops (⟨d, op, T, pos, af, none⟩ :: rest) kk ((s, .bool want) :: env) L)
    (hn : t = !want → Ops X ops (⟨d, op, T, pos, af, some (j, want)⟩ :: rest) kk ((s, .bool (!want)) :: env) L) :
    Ops X ops (⟨d, op, T, pos, af, some (j, want)⟩ :: rest) kk env L := by
  intro a w O ha hs hr
  have hy1 : yielded ops a.tmps j = some t := by simp [yielded, hj, ha.look s _ ht]
  by_cases e : t = want
  · subst e
    have ha' : Holds X ((s, .bool t) :: env) a := ⟨ha.size, ha.defers, fun u v hu => by
      rcases Env.look_cons hu with ⟨rfl, rfl⟩ | ⟨_, hu⟩
      · exact ha.look _ _ ht
      · exact ha.look _ _ hu⟩
    have := hy rfl a w O ha' hs hr
    simp only [wpl, Region.wanted, hy1, beq_self_eq_true, if_true] at this ⊢
    exact this
  · have e' : t = !want := by cases t <;> cases want <;> simp_all
    refine hn e' a w O ⟨ha.size, ha.defers, fun u v hu => ?_⟩ hs hr
    rcases Env.look_cons hu with ⟨rfl, rfl⟩ | ⟨_, hu⟩
    · rw [← e']; exact ha.look _ _ ht
    · exact ha.look _ _ hu
theorem o_on {j s : Nat} {want : Bool} {d : Option Nat} {op : Op} {T : TypeId} {pos : String} {af : Array Edge}
    (hj : (ops[j]?).bind (·.dst) = some s) (ht : env.look s = some (.bool want))
    (h : Ops X ops (⟨d, op, T, pos, af, none⟩ :: rest) kk env L) : Ops X ops (⟨d, op, T, pos, af, some (j, want)⟩ :: rest) kk env L := by
  intro a w O ha hs hr
  have hy1 : yielded ops a.tmps j = some want := by simp [yielded, hj, ha.look s _ ht]
  have := h a w O ha hs hr
  simp only [wpl, Region.wanted, hy1, beq_self_eq_true, if_true] at this ⊢
  exact this
theorem o_off {j s : Nat} {t want : Bool} {d : Nat} {op : Op} {T : TypeId} {pos : String} {af : Array Edge}
    (hj : (ops[j]?).bind (·.dst) = some s) (ht : env.look s = some (.bool t)) (hne : t = !want) (hd : d < X.fn.ntmps)
    (h : Ops X ops rest kk ((d, undef) :: env) L) : Ops X ops (⟨some d, op, T, pos, af, some (j, want)⟩ :: rest) kk env L := by
  intro a w O ha hs hr
  have hy1 : yielded ops a.tmps j = some t := by simp [yielded, hj, ha.look s _ ht]
  have hw : (some t == some want) = false := by subst hne; cases want <;> rfl
  simp only [wpl, Region.wanted, hy1, hw, Bool.false_eq_true, if_false]
  exact h _ w O (ha.put hd _) hs hr
theorem o_off_none {j s : Nat} {t want : Bool} {op : Op} {T : TypeId} {pos : String} {af : Array Edge}
    (hj : (ops[j]?).bind (·.dst) = some s) (ht : env.look s = some (.bool t)) (hne : t = !want)
    (h : Ops X ops rest kk env L) : Ops X ops (⟨none, op, T, pos, af, some (j, want)⟩ :: rest) kk env L := by
  intro a w O ha hs hr
  have hy1 : yielded ops a.tmps j = some t := by simp [yielded, hj, ha.look s _ ht]
  have hw : (some t == some want) = false := by subst hne; cases want <;> rfl
  simp only [wpl, Region.wanted, hy1, hw, Bool.false_eq_true, if_false]
  exact h _ w O (ha.put_none _) hs hr

/-! ### values -/
section
variable {T : TypeId}
theorem v_move {x : Operand} {v : Value} (hx : env.eval x = some v) : Val X env L (.move x) T (v) :=
  fun _ _ _ _ a w O ha _ => by simp [execOp, ha.eval hx]
theorem v_assign {x : Operand} {v : Value} (hx : env.eval x = some v) : Val X env L (.assign x) T (v) :=
  fun _ _ _ _ a w O ha _ => by simp [execOp, ha.eval hx]
theorem v_pick_t {c x y : Operand} {v : Value} (hc : env.eval c = some (.bool true)) (hx : env.eval x = some v) : Val X env L (.pick c x y) T (v) :=
  fun _ _ _ _ a w O ha _ => by simp [execOp, ha.eval hc, ha.eval hx, asBool]
theorem v_pick_f {c x y : Operand} {v : Value} (hc : env.eval c = some (.bool false)) (hy : env.eval y = some v) : Val X env L (.pick c x y) T (v) :=
  fun _ _ _ _ a w O ha _ => by simp [execOp, ha.eval hc, ha.eval hy, asBool]
theorem v_pick {c x y : Operand} {t : Bool} {u v : Value} (hc : env.eval c = some (.bool t)) (hx : env.eval x = some u) (hy : env.eval y = some v) : Val X env L (.pick c x y) T (if t then u else v) :=
  fun _ _ _ _ a w O ha _ => by cases t <;> simp [execOp, ha.eval hc, ha.eval hx, ha.eval hy, asBool]
theorem v_extract {x : Operand} {vs : Array Value} {i : Nat} {v : Value} (hx : env.eval x = some (.tuple vs)) (hv : vs[i]? = some v) : Val X env L (.extract x i) T (v) :=
  fun _ _ _ _ a w O ha _ => by simp [execOp, ha.eval hx, Instr.extract, hv]
theorem v_not {t : Bool} {xT : TypeId} {x : Operand} (hx : env.eval x = some (.bool t)) : Val X env L (.unOp .not xT x) T (.bool (!t)) :=
  fun _ _ _ _ a w O ha _ => by simp [execOp, ha.eval hx, Op.unary]

/-! ### whole numbers -/
variable {x y : Operand} {xT yT : TypeId} {m n : Int}
theorem v_add {K : IntKind} (hx : env.eval x = some (.int K m)) (hy : env.eval y = some (.int K n)) : Val X env L (.binOp .add xT x y yT) T (.int K (K.wrap (m + n))) :=
  fun _ _ _ _ a w O ha _ => by simp [execOp, ha.eval hx, ha.eval hy, eqGuard, binOp, Op.intArith]
theorem v_sub {K : IntKind} (hx : env.eval x = some (.int K m)) (hy : env.eval y = some (.int K n)) : Val X env L (.binOp .sub xT x y yT) T (.int K (K.wrap (m - n))) :=
  fun _ _ _ _ a w O ha _ => by simp [execOp, ha.eval hx, ha.eval hy, eqGuard, binOp, Op.intArith]
theorem v_mul {K : IntKind} (hx : env.eval x = some (.int K m)) (hy : env.eval y = some (.int K n)) : Val X env L (.binOp .mul xT x y yT) T (.int K (K.wrap (m * n))) :=
  fun _ _ _ _ a w O ha _ => by simp [execOp, ha.eval hx, ha.eval hy, eqGuard, binOp, Op.intArith]
/-- Sums that fit. -/
theorem v_add64 (hx : env.eval x = some (.int .i64 m)) (hy : env.eval y = some (.int .i64 n)) (hb : -9223372036854775808 ≤ m + n ∧ m + n ≤ 9223372036854775807) : Val X env L (.binOp .add xT x y yT) T (.int .i64 (m + n)) := by
  have := v_add (X := X) (L := L) (T := T) (xT := xT) (yT := yT) hx hy; rwa [IntWalk.i64_in _ hb] at this
theorem v_sub64 (hx : env.eval x = some (.int .i64 m)) (hy : env.eval y = some (.int .i64 n)) (hb : -9223372036854775808 ≤ m - n ∧ m - n ≤ 9223372036854775807) : Val X env L (.binOp .sub xT x y yT) T (.int .i64 (m - n)) := by
  have := v_sub (X := X) (L := L) (T := T) (xT := xT) (yT := yT) hx hy; rwa [IntWalk.i64_in _ hb] at this
theorem v_mul64 (hx : env.eval x = some (.int .i64 m)) (hy : env.eval y = some (.int .i64 n)) (hb : -9223372036854775808 ≤ m * n ∧ m * n ≤ 9223372036854775807) : Val X env L (.binOp .mul xT x y yT) T (.int .i64 (m * n)) := by
  have := v_mul (X := X) (L := L) (T := T) (xT := xT) (yT := yT) hx hy; rwa [IntWalk.i64_in _ hb] at this
theorem v_lt {K : IntKind} (hx : env.eval x = some (.int K m)) (hy : env.eval y = some (.int K n)) : Val X env L (.binOp .lss xT x y yT) T (.bool (decide (m < n))) :=
  fun _ _ _ _ a w O ha _ => by simp [execOp, ha.eval hx, ha.eval hy, eqGuard, binOp, Op.intCmp]
theorem v_le {K : IntKind} (hx : env.eval x = some (.int K m)) (hy : env.eval y = some (.int K n)) : Val X env L (.binOp .leq xT x y yT) T (.bool (decide (m ≤ n))) :=
  fun _ _ _ _ a w O ha _ => by simp [execOp, ha.eval hx, ha.eval hy, eqGuard, binOp, Op.intCmp]
theorem v_gt {K : IntKind} (hx : env.eval x = some (.int K m)) (hy : env.eval y = some (.int K n)) : Val X env L (.binOp .gtr xT x y yT) T (.bool (decide (n < m))) :=
  fun _ _ _ _ a w O ha _ => by simp [execOp, ha.eval hx, ha.eval hy, eqGuard, binOp, Op.intCmp]
theorem v_ge {K : IntKind} (hx : env.eval x = some (.int K m)) (hy : env.eval y = some (.int K n)) : Val X env L (.binOp .geq xT x y yT) T (.bool (decide (n ≤ m))) :=
  fun _ _ _ _ a w O ha _ => by simp [execOp, ha.eval hx, ha.eval hy, eqGuard, binOp, Op.intCmp]
theorem beq_dec {α : Type} [BEq α] [LawfulBEq α] [DecidableEq α] (a b : α) : (a == b) = decide (a = b) := by
  by_cases h : a = b <;> simp [h]
theorem v_eq {K : IntKind} (hx : env.eval x = some (.int K m)) (hy : env.eval y = some (.int K n)) : Val X env L (.binOp .eql xT x y yT) T (.bool (decide (m = n))) :=
  fun _ _ _ _ a w O ha _ => by simp [execOp, ha.eval hx, ha.eval hy, eqGuard, binOp, Op.intCmp, beq_dec]
theorem v_ne {K : IntKind} (hx : env.eval x = some (.int K m)) (hy : env.eval y = some (.int K n)) : Val X env L (.binOp .neq xT x y yT) T (.bool (decide (m ≠ n))) :=
  fun _ _ _ _ a w O ha _ => by simp [execOp, ha.eval hx, ha.eval hy, eqGuard, binOp, Op.intCmp, bne, beq_dec]
theorem v_quo {K : IntKind} (hx : env.eval x = some (.int K m)) (hy : env.eval y = some (.int K n)) (h0 : n ≠ 0) : Val X env L (.binOp .quo xT x y yT) T (.int K (K.wrap (m.tdiv n))) :=
  fun _ _ _ _ a w O ha _ => by simp [execOp, ha.eval hx, ha.eval hy, eqGuard, binOp, Op.intDiv, h0]
theorem v_rem {K : IntKind} (hx : env.eval x = some (.int K m)) (hy : env.eval y = some (.int K n)) (h0 : n ≠ 0) : Val X env L (.binOp .rem xT x y yT) T (.int K (m.tmod n)) :=
  fun _ _ _ _ a w O ha _ => by simp [execOp, ha.eval hx, ha.eval hy, eqGuard, binOp, Op.intDiv, h0]

/-! ### bools, strings -/
theorem run_equal_bool {P : Program} {t : TypeId} {s u : Bool} {w : World} (hu : P.underlying t = some .bool) : (Op.equal t (.bool s) (.bool u)).run P w = .ok (s == u) w := by
  show (Op.equalIn (9999 + 1) t (.bool s) (.bool u)).run P w = _
  rw [Op.equalIn]
  simp only [Sem.run_bind, run_underlying hu, Result.andThen_ok]
  rfl
theorem run_eqb {P : Program} {op : BinOp} {a : Act} {s u : Bool} {w : World} {d : Option Tmp} {pos : String} {af : Array Edge} {g : Option (Nat × Bool)} (hx : a.eval x = .bool s) (hy : a.eval y = .bool u) (_ : True = True) (hu : P.underlying xT = some .bool)
    (hop : op = .eql ∨ op = .neq := by first | exact .inl rfl | exact .inr rfl) :
    (execOp a.eval ⟨d, .binOp op xT x y yT, T, pos, af, g⟩).run P w = .ok (.value (.bool (if op = .eql then decide (s = u) else decide (s ≠ u)))) w := by
  have he := run_equal_bool (s := s) (u := u) (w := w) hu
  rcases hop with rfl | rfl
  · simp only [execOp, hx, hy]
    simp only [show binOp .eql xT (.bool s) (.bool u) = (do pure (.bool (← Op.equal xT (.bool s) (.bool u)))) from rfl, show eqGuard .eql xT x y (.bool s) (.bool u) = pure () from rfl]
    simp [he, beq_dec]
  · simp only [execOp, hx, hy]
    simp only [show binOp .neq xT (.bool s) (.bool u) = (do pure (.bool (!(← Op.equal xT (.bool s) (.bool u))))) from rfl, show eqGuard .neq xT x y (.bool s) (.bool u) = pure () from rfl]
    simp [he, beq_dec]
theorem v_beq {s t : Bool} (hu : X.P.underlying xT = some .bool) (hx : env.eval x = some (.bool s)) (hy : env.eval y = some (.bool t)) : Val X env L (.binOp .eql xT x y yT) T (.bool (decide (s = t))) :=
  fun _ _ _ _ a w O ha _ => by rw [run_eqb (op := .eql) (ha.eval hx) (ha.eval hy) rfl hu]; simp
theorem v_bne {s t : Bool} (hu : X.P.underlying xT = some .bool) (hx : env.eval x = some (.bool s)) (hy : env.eval y = some (.bool t)) : Val X env L (.binOp .neq xT x y yT) T (.bool (decide (s ≠ t))) :=
  fun _ _ _ _ a w O ha _ => by rw [run_eqb (op := .neq) (ha.eval hx) (ha.eval hy) rfl hu]; simp
theorem str_beq (a b : ByteArray) : (a.toList == b.toList) = decide (a = b) := by
  rw [beq_dec, ByteArray.toList_eq, ByteArray.toList_eq]
  congr 1
  refine propext ⟨fun h => ?_, fun h => by rw [h]⟩
  cases a; cases b; simp only at h; congr 1; exact Array.ext' h
theorem v_seq {s t : ByteArray} (hx : env.eval x = some (.string s)) (hy : env.eval y = some (.string t)) : Val X env L (.binOp .eql xT x y yT) T (.bool (decide (s = t))) :=
  fun _ _ _ _ a w O ha _ => by simp only [execOp, ha.eval hx, ha.eval hy, binOp, Op.stringOp, str_beq]; simp [eqGuard]
theorem v_sne {s t : ByteArray} (hx : env.eval x = some (.string s)) (hy : env.eval y = some (.string t)) : Val X env L (.binOp .neq xT x y yT) T (.bool (decide (s ≠ t))) :=
  fun _ _ _ _ a w O ha _ => by simp only [execOp, ha.eval hx, ha.eval hy, binOp, Op.stringOp, str_beq]; simp [eqGuard]
theorem v_slt {s t : ByteArray} (hx : env.eval x = some (.string s)) (hy : env.eval y = some (.string t)) : Val X env L (.binOp .lss xT x y yT) T (.bool (Op.bytesLess s.data.toList t.data.toList)) :=
  fun _ _ _ _ a w O ha _ => by simp only [execOp, ha.eval hx, ha.eval hy, binOp, Op.stringOp, ByteArray.toList_eq]; simp [eqGuard]
theorem v_sgt {s t : ByteArray} (hx : env.eval x = some (.string s)) (hy : env.eval y = some (.string t)) : Val X env L (.binOp .gtr xT x y yT) T (.bool (!(Op.bytesLess s.data.toList t.data.toList || decide (s = t)))) :=
  fun _ _ _ _ a w O ha _ => by simp only [execOp, ha.eval hx, ha.eval hy, binOp, Op.stringOp, str_beq]; simp [eqGuard, ByteArray.toList_eq]
theorem v_sle {s t : ByteArray} (hx : env.eval x = some (.string s)) (hy : env.eval y = some (.string t)) : Val X env L (.binOp .leq xT x y yT) T (.bool (Op.bytesLess s.data.toList t.data.toList || decide (s = t))) :=
  fun _ _ _ _ a w O ha _ => by simp only [execOp, ha.eval hx, ha.eval hy, binOp, Op.stringOp, str_beq]; simp [eqGuard, ByteArray.toList_eq]
theorem v_cat {s t : ByteArray} (hx : env.eval x = some (.string s)) (hy : env.eval y = some (.string t)) (hb : s.size + t.size ≤ 9223372036854775807) : Val X env L (.binOp .add xT x y yT) T (.string (s ++ t)) :=
  fun _ _ _ _ a w O ha _ => by
    have hm : ¬ (IntKind.i64.max < ((s.size + t.size : Nat) : Int)) := by simp [IntKind.max, IntKind.bits, IntKind.signed]; omega
    simp only [execOp, ha.eval hx, ha.eval hy, binOp, Op.stringOp, gt_iff_lt, if_neg hm]; simp [eqGuard]
theorem v_len_str {s : ByteArray} {t : TypeId} (hu : X.P.underlying t = some .string) (hx : env.eval x = some (.string s)) : Val X env L (.call ⟨.builtin .len, #[x], #[t]⟩) T (.int .i64 s.size) :=
  fun _ _ _ _ a w O ha _ => by simp [execOp, resolve, invoke, builtin, Builtin.len_, ha.eval hx, run_underlying hu, goInt]
/-- A byte of a string. -/
def sAt (s : ByteArray) (i : Int) : Int := (s.data.toList.getD i.toNat 0).toNat
theorem v_index_str {s : ByteArray} {K : IntKind} (hu : X.P.underlying xT = some .string) (hx : env.eval x = some (.string s)) (hy : env.eval y = some (.int K n)) (hb : 0 ≤ n ∧ n < s.size) : Val X env L (.index xT x y) T (.int .u8 (sAt s n)) :=
  fun _ _ _ _ a w O ha _ => by
    have h1 : n.toNat < s.size := by omega
    have h2 : s[n.toNat]? = some s[n.toNat] := by simp [h1]
    have h3 : sAt s n = s[n.toNat].toNat := by
      simp only [sAt, List.getD_eq_getElem?_getD]
      rw [List.getElem?_eq_getElem (by simpa using h1)]; rfl
    simp [execOp, ha.eval hx, ha.eval hy, Instr.index, asIntOf, run_underlying hu, hb.1, h2, h3]
theorem v_sge {s t : ByteArray} (hx : env.eval x = some (.string s)) (hy : env.eval y = some (.string t)) : Val X env L (.binOp .geq xT x y yT) T (.bool (!Op.bytesLess s.data.toList t.data.toList)) :=
  fun _ _ _ _ a w O ha _ => by simp only [execOp, ha.eval hx, ha.eval hy, binOp, Op.stringOp, ByteArray.toList_eq]; simp [eqGuard]
theorem v_neg64 (hx : env.eval x = some (.int .i64 m)) (hb : -9223372036854775808 ≤ -m ∧ -m ≤ 9223372036854775807) : Val X env L (.unOp .neg xT x) T (.int .i64 (-m)) :=
  fun _ _ _ _ a w O ha _ => by simp [execOp, ha.eval hx, Op.unary, Op.intArith, IntWalk.i64_in _ hb]
theorem v_min (hx : env.eval x = some (.int .i64 m)) (hy : env.eval y = some (.int .i64 n)) {ts : Array TypeId} : Val X env L (.call ⟨.builtin .min, #[x, y], ts⟩) T (.int .i64 (min m n)) :=
  fun _ _ _ _ a w O ha _ => by
    have h : (if n < m then n else m) = min m n := by rw [Int.min_def]; split <;> split <;> omega
    simp [execOp, resolve, invoke, builtin, Builtin.min_, ha.eval hx, ha.eval hy, Builtin.min2, h]
theorem v_max (hx : env.eval x = some (.int .i64 m)) (hy : env.eval y = some (.int .i64 n)) {ts : Array TypeId} : Val X env L (.call ⟨.builtin .max, #[x, y], ts⟩) T (.int .i64 (max m n)) :=
  fun _ _ _ _ a w O ha _ => by
    have h : (if m < n then n else m) = max m n := by rw [Int.max_def]; split <;> split <;> omega
    simp [execOp, resolve, invoke, builtin, Builtin.max_, ha.eval hx, ha.eval hy, Builtin.max2, h]
/-! cuts of strings -/
theorem v_cut {s : ByteArray} {K K' : IntKind} {lo hi : Operand} (hu : X.P.underlying xT = some .string) (hx : env.eval x = some (.string s)) (hl : env.eval lo = some (.int K m)) (hh : env.eval hi = some (.int K' n)) (hb : 0 ≤ m ∧ m ≤ n ∧ n ≤ s.size) :
    Val X env L (.slice xT x (some lo) (some hi) none) T (.string (s.extract m.toNat n.toNat)) :=
  fun _ _ _ _ a w O ha _ => by
    have h1 := run_sliceBound (P := X.P) (w := w) K' n s.size .sliceAlen (by omega) hb.2.2
    have h2 := run_sliceBound (P := X.P) (w := w) K m n.toNat .sliceB hb.1 (by omega)
    simp [execOp, ha.eval hx, ha.eval hl, ha.eval hh, Instr.sliceAt, run_underlying hu, Instr.slice, Instr.sliceBounds, h1, h2]
theorem v_cut_to {s : ByteArray} {K' : IntKind} {hi : Operand} (hu : X.P.underlying xT = some .string) (hx : env.eval x = some (.string s)) (hh : env.eval hi = some (.int K' n)) (hb : 0 ≤ n ∧ n ≤ s.size) :
    Val X env L (.slice xT x none (some hi) none) T (.string (s.extract 0 n.toNat)) :=
  fun _ _ _ _ a w O ha _ => by
    have h1 := run_sliceBound (P := X.P) (w := w) K' n s.size .sliceAlen hb.1 hb.2
    simp [execOp, ha.eval hx, ha.eval hh, Instr.sliceAt, run_underlying hu, Instr.slice, Instr.sliceBounds, h1]
theorem v_cut_from {s : ByteArray} {K : IntKind} {lo : Operand} (hu : X.P.underlying xT = some .string) (hx : env.eval x = some (.string s)) (hl : env.eval lo = some (.int K m)) (hb : 0 ≤ m ∧ m ≤ s.size) :
    Val X env L (.slice xT x (some lo) none none) T (.string (s.extract m.toNat s.size)) :=
  fun _ _ _ _ a w O ha _ => by
    have h2 := run_sliceBound (P := X.P) (w := w) K m s.size .sliceB hb.1 hb.2
    simp [execOp, ha.eval hx, ha.eval hl, Instr.sliceAt, run_underlying hu, Instr.slice, Instr.sliceBounds, h2]
theorem v_conv_int {sT dT : TypeId} {dsc : TypeDesc} {K K' : IntKind} (hs : X.P.underlying sT = some dsc) (hu : X.P.underlying dT = some (.int K')) (hx : env.eval x = some (.int K m)) : Val X env L (.convert sT dT x) T (.int K' (K'.wrap m)) :=
  fun _ _ _ _ a w O ha _ => by simp [execOp, ha.eval hx, convert, run_underlying hs, run_underlying hu, Conv.intToInt]
theorem v_conv_str {sT dT : TypeId} {s : ByteArray} (hs : X.P.underlying sT = some .string) (hu : X.P.underlying dT = some .string) (hx : env.eval x = some (.string s)) : Val X env L (.convert sT dT x) T (.string s) :=
  fun _ _ _ _ a w O ha _ => by simp [execOp, ha.eval hx, convert, run_underlying hs, run_underlying hu]
end
end
end Go.SL
/- Readings of memory: encodings, slices, rows of one's own, blocks. -/
namespace Go.SL
open Go

/-- How a value of α lies in cells. -/
structure Enc (α : Type) where
  n : Nat
  rd : World → Perm → List Value → α → Prop
  len : ∀ {w O cs x}, rd w O cs x → cs.length = n
  one : ∀ {w O cs x}, rd w O cs x → ∀ u ∈ cs, u.oneCell' = true
  mono : ∀ {w O O' cs x}, rd w O cs x → (∀ b, O b ≤ O' b) → rd w O' cs x
  loc : ∀ {w w' : World} {O : Perm} {cs x}, rd w O cs x → (∀ b, O b ≠ 0 → w'.heap[b]? = w.heap[b]?) → rd w' O cs x
  dup : ∀ {w O cs x}, rd w O cs x → rd w (fun b => min (O b) 1) cs x

def Rows {α : Type} (e : Enc α) (w : World) (O : Perm) : List Value → List α → Prop
  | cs, [] => cs = []
  | cs, x :: xs => ∃ c1 c2, cs = c1 ++ c2 ∧ e.rd w O c1 x ∧ Rows e w O c2 xs

section
variable {α : Type} {e : Enc α} {w w' : World} {O O' : Perm} {cs : List Value} {xs : List α}
theorem Rows.mono (h : Rows e w O cs xs) (hO : ∀ b, O b ≤ O' b) : Rows e w O' cs xs := by
  induction xs generalizing cs with
  | nil => exact h
  | cons x xs ih => obtain ⟨c1, c2, rfl, h1, h2⟩ := h; exact ⟨c1, c2, rfl, e.mono h1 hO, ih h2⟩
theorem Rows.loc (h : Rows e w O cs xs) (hw : ∀ b, O b ≠ 0 → w'.heap[b]? = w.heap[b]?) : Rows e w' O cs xs := by
  induction xs generalizing cs with
  | nil => exact h
  | cons x xs ih => obtain ⟨c1, c2, rfl, h1, h2⟩ := h; exact ⟨c1, c2, rfl, e.loc h1 hw, ih h2⟩
theorem Rows.dup (h : Rows e w O cs xs) : Rows e w (fun b => min (O b) 1) cs xs := by
  induction xs generalizing cs with
  | nil => exact h
  | cons x xs ih => obtain ⟨c1, c2, rfl, h1, h2⟩ := h; exact ⟨c1, c2, rfl, e.dup h1, ih h2⟩
theorem Rows.length (h : Rows e w O cs xs) : cs.length = xs.length * e.n := by
  induction xs generalizing cs with
  | nil => cases h; simp
  | cons x xs ih => obtain ⟨c1, c2, rfl, h1, h2⟩ := h; rw [List.length_append, e.len h1, ih h2, List.length_cons, Nat.add_mul]; omega
theorem Rows.one (h : Rows e w O cs xs) : ∀ u ∈ cs, u.oneCell' = true := by
  induction xs generalizing cs with
  | nil => cases h; simp
  | cons x xs ih =>
    obtain ⟨c1, c2, rfl, h1, h2⟩ := h
    intro u hu
    rcases List.mem_append.1 hu with hu | hu
    · exact e.one h1 u hu
    · exact ih h2 u hu
theorem Rows.append {ds : List Value} {ys : List α} (h : Rows e w O cs xs) (k : Rows e w O ds ys) : Rows e w O (cs ++ ds) (xs ++ ys) := by
  induction xs generalizing cs with
  | nil => cases h; exact k
  | cons x xs ih => obtain ⟨c1, c2, rfl, h1, h2⟩ := h; exact ⟨c1, c2 ++ ds, by simp, h1, ih h2⟩
theorem Rows.take (h : Rows e w O cs xs) (k : Nat) : Rows e w O (cs.take (k * e.n)) (xs.take k) := by
  induction xs generalizing cs k with
  | nil => cases h; simp [Rows]
  | cons x xs ih =>
    obtain ⟨c1, c2, rfl, h1, h2⟩ := h
    cases k with
    | zero => simp [Rows]
    | succ k =>
      have hl := e.len h1
      refine ⟨c1, c2.take (k * e.n), ?_, h1, ih h2 k⟩
      rw [List.take_append, hl, show (k + 1) * e.n - e.n = k * e.n by rw [Nat.add_mul]; omega, List.take_of_length_le (by rw [hl, Nat.add_mul]; omega)]
theorem Rows.drop (h : Rows e w O cs xs) (k : Nat) : Rows e w O (cs.drop (k * e.n)) (xs.drop k) := by
  induction xs generalizing cs k with
  | nil => cases h; simp [Rows]
  | cons x xs ih =>
    cases k with
    | zero => simpa using h
    | succ k =>
      obtain ⟨c1, c2, rfl, h1, h2⟩ := h
      have hl := e.len h1
      rw [List.drop_append, hl, show (k + 1) * e.n - e.n = k * e.n by rw [Nat.add_mul]; omega, List.drop_of_length_le (by rw [hl, Nat.add_mul]; omega)]
      exact ih h2 k
theorem Rows.get (h : Rows e w O cs xs) {i : Nat} {x : α} (hx : xs[i]? = some x) : ∃ c, e.rd w O c x ∧ ∀ j u, c[j]? = some u → cs[i * e.n + j]? = some u := by
  induction xs generalizing cs i with
  | nil => simp at hx
  | cons y xs ih =>
    obtain ⟨c1, c2, rfl, h1, h2⟩ := h
    cases i with
    | zero =>
      simp only [List.getElem?_cons_zero, Option.some.injEq] at hx
      subst hx
      refine ⟨c1, h1, fun j u hj => ?_⟩
      have : j < c1.length := by
        rcases Nat.lt_or_ge j c1.length with h | h
        · exact h
        · rw [List.getElem?_eq_none h] at hj; cases hj
      rw [Nat.zero_mul, Nat.zero_add, List.getElem?_append_left this]; exact hj
    | succ i =>
      obtain ⟨c, hc, hj⟩ := ih h2 (i := i) (by simpa using hx)
      refine ⟨c, hc, fun j u hu => ?_⟩
      have hl := e.len h1
      rw [List.getElem?_append_right (by rw [hl, Nat.add_mul]; omega), hl, show (i + 1) * e.n + j - e.n = i * e.n + j by rw [Nat.add_mul]; omega]
      exact hj j u hu
theorem Rows.set (h : Rows e w O cs xs) {i : Nat} {x : α} {c : List Value} (hc : e.rd w O c x) (hi : i < xs.length) : Rows e w O (cs.take (i * e.n) ++ c ++ cs.drop ((i + 1) * e.n)) (xs.set i x) := by
  have h1 := h.take i
  have h2 := h.drop (i + 1)
  rw [List.set_eq_take_append_cons_drop, if_pos hi, List.append_assoc]
  exact h1.append ⟨c, cs.drop ((i + 1) * e.n), rfl, hc, h2⟩
theorem Rows.nil_iff : Rows e w O cs [] ↔ cs = [] := Iff.rfl
end

/-! ### slices that are read -/
def SlP {α : Type} (e : Enc α) (w : World) (O : Perm) (v : Value) (xs : List α) : Prop :=
  ∃ a cap, v = .slice a xs.length cap ∧ xs.length ≤ cap ∧ cap ≤ maxLen ∧
    (((a = none ∨ cap = 0) ∧ xs = []) ∨ ∃ b off cs, a = some ⟨b, off, none⟩ ∧ 1 ≤ O b ∧ Rows e w O cs xs ∧ ∀ j u, cs[j]? = some u → w.cell? ⟨b, off + j, none⟩ = some u)

theorem SlP.mono {α : Type} {e : Enc α} {w : World} {O O' : Perm} {v : Value} {xs : List α} (h : SlP e w O v xs) (hO : ∀ b, O b ≤ O' b) : SlP e w O' v xs := by
  obtain ⟨a, cap, rfl, h1, h2, h3⟩ := h
  refine ⟨a, cap, rfl, h1, h2, h3.imp id ?_⟩
  rintro ⟨b, off, cs, rfl, hb, hr, hc⟩
  exact ⟨b, off, cs, rfl, Nat.le_trans hb (hO b), hr.mono hO, hc⟩
theorem SlP.loc {α : Type} {e : Enc α} {w w' : World} {O : Perm} {v : Value} {xs : List α} (h : SlP e w O v xs) (hw : ∀ b, O b ≠ 0 → w'.heap[b]? = w.heap[b]?) : SlP e w' O v xs := by
  obtain ⟨a, cap, rfl, h1, h2, h3⟩ := h
  refine ⟨a, cap, rfl, h1, h2, h3.imp id ?_⟩
  rintro ⟨b, off, cs, rfl, hb, hr, hc⟩
  refine ⟨b, off, cs, rfl, hb, hr.loc hw, fun j u hj => ?_⟩
  rw [World.cell?_of_block (w := w) (hw b (by omega))]
  exact hc j u hj
theorem SlP.dup {α : Type} {e : Enc α} {w : World} {O : Perm} {v : Value} {xs : List α} (h : SlP e w O v xs) : SlP e w (fun b => min (O b) 1) v xs := by
  obtain ⟨a, cap, rfl, h1, h2, h3⟩ := h
  refine ⟨a, cap, rfl, h1, h2, h3.imp id ?_⟩
  rintro ⟨b, off, cs, rfl, hb, hr, hc⟩
  exact ⟨b, off, cs, rfl, by show 1 ≤ min (O b) 1; omega, hr.dup, hc⟩

/-- v reads as xs. -/
def Sl {α : Type} (e : Enc α) (v : Value) (xs : List α) : A := ⟨fun w O => SlP e w O v xs, SlP.mono, SlP.loc⟩
theorem Sl.isDup {α : Type} (e : Enc α) (v : Value) (xs : List α) : (Sl e v xs).Dup := fun _ _ h => SlP.dup h

/-! ### rows of one's own -/
/-- v is a row of one's own (elements of type T): it may be appended to; what its elements lead to is read. -/
def Own {α : Type} (e : Enc α) (T : TypeId) (v : Value) (xs : List α) : A where
  h := fun w O => ∃ O1 O2 cs, Split O O1 O2 ∧ w.ownsRow 0 T e.n v xs.length cs ∧ (∀ k, v.ownBlock = some k → 2 ≤ O1 k) ∧ Rows e w O2 cs xs
  mono := fun ⟨O1, O2, cs, s, h1, h2, h3⟩ hO => ⟨O1, O2, cs, s.mono hO, h1, h2, h3⟩
  loc := fun {w w' O} ⟨O1, O2, cs, s, h1, h2, h3⟩ hw => by
    refine ⟨O1, O2, cs, s, ⟨h1.1, h1.2.imp id ?_⟩, h2, h3.loc fun b hb => hw b (by have := s.r b; omega)⟩
    rintro ⟨g, cap, cur, rfl, hg, hh, r⟩
    have := h2 g (by simp [Value.ownBlock])
    exact ⟨g, cap, cur, rfl, hg, (hw g (by have := s.l g; omega)).trans hh, r⟩

theorem Own.sl {α : Type} {e : Enc α} {T : TypeId} {v : Value} {xs : List α} {w : World} {O : Perm} (h : (Own e T v xs).h w O) : (Sl e v xs).h w O := by
  obtain ⟨O1, O2, cs, s, h1, h2, h3⟩ := h
  rcases h1.2 with ⟨rfl, h0⟩ | ⟨g, cap, cur, rfl, _, hg, hle, hmx, hcs, htk⟩
  · have : xs = [] := List.eq_nil_of_length_eq_zero h0
    subst this
    exact ⟨none, 0, rfl, Nat.le_refl _, Nat.zero_le _, .inl ⟨.inl rfl, rfl⟩⟩
  · refine ⟨some ⟨g, 0, none⟩, cap, rfl, hle, hmx, .inr ⟨g, 0, cs, rfl, by have := h2 g (by simp [Value.ownBlock]); have := s.l g; omega, h3.mono s.r, fun j u hj => ?_⟩⟩
    have hjl : j < xs.length * e.n := by
      rcases Nat.lt_or_ge j cs.length with h | h
      · rw [h3.length] at h; exact h
      · rw [List.getElem?_eq_none h] at hj; cases hj
    simp only [World.cell?, hg, Nat.zero_add]
    rw [← htk, List.getElem?_take, if_pos hjl] at hj
    simpa using hj
theorem Own.nil {α : Type} (e : Enc α) (T : TypeId) (w : World) (O : Perm) : (Own e T (.slice none 0 0) ([] : List α)).h w O :=
  ⟨fun _ => 0, fun _ => 0, [], ⟨fun _ => Nat.zero_le _, fun _ => Nat.zero_le _, fun _ _ => rfl, fun _ _ => rfl⟩, ⟨by simp, .inl ⟨rfl, rfl⟩⟩, fun k hk => by simp [Value.ownBlock] at hk, rfl⟩
theorem Sl.nil {α : Type} (e : Enc α) (w : World) (O : Perm) : (Sl e (.slice none 0 0) ([] : List α)).h w O := Own.sl (T := 0) (Own.nil e 0 w O)

/-! ### blocks -/
/-- Block b is one's own, of type T, and holds just cs. -/
def Blk (b : Nat) (T : TypeId) (cs : List Value) : A where
  h := fun w O => 2 ≤ O b ∧ w.heap[b]? = some (.cells cs.toArray T (0, 0))
  mono := fun ⟨h1, h2⟩ hO => ⟨Nat.le_trans h1 (hO b), h2⟩
  loc := fun ⟨h1, h2⟩ hw => ⟨h1, (hw b (by omega)).trans h2⟩
/-- Block b may be read, and holds just cs. -/
def BlkR (b : Nat) (T : TypeId) (cs : List Value) : A where
  h := fun w O => 1 ≤ O b ∧ ∃ fz, w.heap[b]? = some (.cells cs.toArray T fz)
  mono := fun ⟨h1, h2⟩ hO => ⟨Nat.le_trans h1 (hO b), h2⟩
  loc := fun ⟨h1, fz, h2⟩ hw => ⟨h1, fz, (hw b (by omega)).trans h2⟩
theorem BlkR.isDup (b : Nat) (T : TypeId) (cs : List Value) : (BlkR b T cs).Dup := fun _ _ ⟨h1, h2⟩ => ⟨by show 1 ≤ min _ 1; omega, h2⟩
theorem Blk.r {b : Nat} {T : TypeId} {cs : List Value} {w : World} {O : Perm} (h : (Blk b T cs).h w O) : (BlkR b T cs).h w O := ⟨by have := h.1; omega, _, h.2⟩
/-- Cells that read as x. -/
def Rd {α : Type} (e : Enc α) (cs : List Value) (x : α) : A := ⟨fun w O => e.rd w O cs x, e.mono, e.loc⟩
theorem Rd.isDup {α : Type} (e : Enc α) (cs : List Value) (x : α) : (Rd e cs x).Dup := fun _ _ h => e.dup h
def Pu (p : Prop) : A := ⟨fun _ _ => p, fun h _ => h, fun h _ => h⟩
def ExA {γ : Type} (f : γ → A) : A := ⟨fun w O => ∃ g, (f g).h w O, fun ⟨g, h⟩ hO => ⟨g, (f g).mono h hO⟩, fun ⟨g, h⟩ hw => ⟨g, (f g).loc h hw⟩⟩
/-- Several in one. -/
def AllA (l : List A) : A := ⟨fun w O => Stars l w O, Stars.mono, Stars.loc⟩

/-! ### encodings -/
def eInt (K : IntKind) : Enc Int where
  n := 1
  rd := fun _ _ cs x => cs = [.int K x]
  len := fun h => by rw [h]; rfl
  one := fun h u hu => by rw [h] at hu; simp at hu; rw [hu]; rfl
  mono := fun h _ => h
  loc := fun h _ => h
  dup := fun h => h
def eBool : Enc Bool where
  n := 1
  rd := fun _ _ cs x => cs = [.bool x]
  len := fun h => by rw [h]; rfl
  one := fun h u hu => by rw [h] at hu; simp at hu; rw [hu]; rfl
  mono := fun h _ => h
  loc := fun h _ => h
  dup := fun h => h
def eStr : Enc ByteArray where
  n := 1
  rd := fun _ _ cs x => cs = [.string x]
  len := fun h => by rw [h]; rfl
  one := fun h u hu => by rw [h] at hu; simp at hu; rw [hu]; rfl
  mono := fun h _ => h
  loc := fun h _ => h
  dup := fun h => h
def ePair {α β : Type} (e : Enc α) (f : Enc β) : Enc (α × β) where
  n := e.n + f.n
  rd := fun w O cs x => ∃ c1 c2, cs = c1 ++ c2 ∧ e.rd w O c1 x.1 ∧ f.rd w O c2 x.2
  len := fun ⟨c1, c2, h, h1, h2⟩ => by rw [h, List.length_append, e.len h1, f.len h2]
  one := fun ⟨c1, c2, h, h1, h2⟩ u hu => by
    rw [h] at hu
    rcases List.mem_append.1 hu with hu | hu
    · exact e.one h1 u hu
    · exact f.one h2 u hu
  mono := fun ⟨c1, c2, h, h1, h2⟩ hO => ⟨c1, c2, h, e.mono h1 hO, f.mono h2 hO⟩
  loc := fun ⟨c1, c2, h, h1, h2⟩ hw => ⟨c1, c2, h, e.loc h1 hw, f.loc h2 hw⟩
  dup := fun ⟨c1, c2, h, h1, h2⟩ => ⟨c1, c2, h, e.dup h1, f.dup h2⟩
def eMap {α β : Type} (g : α → β) (e : Enc β) : Enc α where
  n := e.n
  rd := fun w O cs x => e.rd w O cs (g x)
  len := fun h => e.len h
  one := fun h => e.one h
  mono := fun h hO => e.mono h hO
  loc := fun h hw => e.loc h hw
  dup := fun h => e.dup h
def eSl {α : Type} (e : Enc α) : Enc (List α) where
  n := 1
  rd := fun w O cs xs => ∃ v, cs = [v] ∧ SlP e w O v xs
  len := fun ⟨_, h, _⟩ => by rw [h]; rfl
  one := fun ⟨v, h, a, cap, hv, _⟩ u hu => by rw [h] at hu; simp at hu; rw [hu, hv]; rfl
  mono := fun ⟨v, h, h1⟩ hO => ⟨v, h, h1.mono hO⟩
  loc := fun ⟨v, h, h1⟩ hw => ⟨v, h, h1.loc hw⟩
  dup := fun ⟨v, h, h1⟩ => ⟨v, h, h1.dup⟩

/-! ### elements -/
/-- Where element i of a slice lies. -/
def elemAddr : Value → Nat → Nat → Addr
  | .slice (some a) _ _, i, n => ⟨a.block, a.off + i * n, none⟩
  | _, _, _ => ⟨0, 0, none⟩
/-- Element i of v reads as z: its cells, with what they lead to beside. -/
def Elem {α : Type} (L : List A) (e : Enc α) (v : Value) (i : Nat) (z : α) : Prop :=
  ∀ w O, Stars L w O → ∃ c, Stars (Rd e c z :: L) w O ∧ (∃ b, 1 ≤ O b ∧ (elemAddr v i e.n).block = b) ∧ ∀ j u, c[j]? = some u → w.cell? ⟨(elemAddr v i e.n).block, (elemAddr v i e.n).off + j, none⟩ = some u
/-- What may be lent. -/
def Lend (a b : A) : Prop := ∀ w O, a.h w O → ∃ O1 O2, Split O O1 O2 ∧ a.h w O1 ∧ b.h w O2 ∧ ∀ q, O2 q ≤ 1
theorem Lend.dup {a b : A} (hd : a.Dup) (h : ∀ w O, a.h w O → b.h w O) : Lend a b := fun w O ha =>
  ⟨fun b => min (O b) 1, fun b => min (O b) 1, ⟨fun _ => by show min _ _ ≤ _; omega, fun _ => by show min _ _ ≤ _; omega, fun _ h => by have h' : 2 ≤ min _ 1 := h; omega, fun _ h => by have h' : 2 ≤ min _ 1 := h; omega⟩, hd w O ha, h _ _ (hd w O ha), fun _ => by show min _ 1 ≤ 1; omega⟩
theorem Lend.pick {a b : A} {L L' : List A} (hp : Pick a L L') (hl : Lend a b) : ∀ w O, Stars L w O → Stars (b :: a :: L') w O := by
  intro w O hs
  obtain ⟨O1, O2, s, h1, h2⟩ := hp w O hs
  obtain ⟨P1, P2, t, g1, g2, _⟩ := hl w O1 h1
  refine ⟨P2, fun b => max (P1 b) (O2 b), ⟨fun b => ?_, fun b => ?_, fun b => ?_, fun b => ?_⟩, g2, P1, O2, ⟨fun b => ?_, fun b => ?_, fun b => ?_, fun b => ?_⟩, g1, h2⟩ <;>
    (have := s.l b; have := s.r b; have := s.lr b; have := s.rl b; have := t.l b; have := t.r b; have := t.lr b; have := t.rl b; omega)
/-- Something lent lies beside the list itself. -/
def Beside (b : A) (L : List A) : Prop := ∀ w O, Stars L w O → Stars (b :: L) w O
theorem Beside.here {a b : A} {L : List A} (hl : Lend a b) : Beside b (a :: L) := Lend.pick Pick.here hl
theorem Beside.there {a b : A} {L : List A} (h : Beside b L) : Beside b (a :: L) := by
  intro w O hs
  obtain ⟨O1, O2, s, h1, h2⟩ := hs
  obtain ⟨P1, P2, t, g1, g2⟩ := h w O2 h2
  refine ⟨P1, fun b => max (O1 b) (P2 b), ⟨fun b => ?_, fun b => ?_, fun b => ?_, fun b => ?_⟩, g1, O1, P2, ⟨fun b => ?_, fun b => ?_, fun b => ?_, fun b => ?_⟩, h1, g2⟩ <;>
    (have := s.l b; have := s.r b; have := s.lr b; have := s.rl b; have := t.l b; have := t.r b; have := t.lr b; have := t.rl b; omega)

theorem cell_in {cs : List Value} {j : Nat} {u : Value} (h : cs[j]? = some u) : j < cs.length := by
  rcases Nat.lt_or_ge j cs.length with h' | h'
  · exact h'
  · rw [List.getElem?_eq_none h'] at h; cases h

theorem SlP.elem {α : Type} {e : Enc α} {w : World} {O : Perm} {v : Value} {zs : List α} (h : SlP e w O v zs) {i : Nat} {z : α} (hz : zs[i]? = some z) :
    ∃ c, e.rd w O c z ∧ 1 ≤ O (elemAddr v i e.n).block ∧ ∀ j u, c[j]? = some u → w.cell? ⟨(elemAddr v i e.n).block, (elemAddr v i e.n).off + j, none⟩ = some u := by
  obtain ⟨a, cap, rfl, h1, h2, h3⟩ := h
  rcases h3 with ⟨_, rfl⟩ | ⟨b, off, cs, rfl, hb, hr, hc⟩
  · simp at hz
  · obtain ⟨c, hc1, hc2⟩ := hr.get hz
    refine ⟨c, hc1, hb, fun j u hj => ?_⟩
    have := hc _ u (hc2 j u hj)
    simpa [elemAddr, Nat.add_assoc] using this

theorem Elem.sl {α : Type} {e : Enc α} {v : Value} {zs : List α} {L : List A} {i : Nat} {z : α} (hz : zs[i]? = some z) : Elem (Sl e v zs :: L) e v i z := by
  intro w O hs
  obtain ⟨O1, O2, s, h1, h2⟩ := hs
  have hd := SlP.dup h1
  obtain ⟨c, hc, hb, hcell⟩ := SlP.elem hd hz
  refine ⟨c, ⟨fun b => min (O1 b) 1, fun b => max (min (O1 b) 1) (O2 b), ⟨fun b => ?_, fun b => ?_, fun b => ?_, fun b => ?_⟩, hc, fun b => min (O1 b) 1, O2, ⟨fun b => ?_, fun b => ?_, fun b => ?_, fun b => ?_⟩, hd, h2⟩,
    ⟨_, Nat.le_trans (Nat.le_trans hb (by show min _ _ ≤ _; omega)) (s.l _), rfl⟩, hcell⟩ <;>
    (have := s.l b; have := s.r b; have := s.lr b; have := s.rl b; omega)
theorem Elem.own {α : Type} {e : Enc α} {T : TypeId} {v : Value} {zs : List α} {L : List A} {i : Nat} {z : α} (hz : zs[i]? = some z) : Elem (Own e T v zs :: L) e v i z := by
  intro w O hs
  obtain ⟨O1, O2, s, h1, h2⟩ := hs
  obtain ⟨c0, _, hb, hcell0⟩ := SlP.elem (Own.sl h1) hz
  obtain ⟨P1, P2, cs, t, g1, g2, g3⟩ := h1
  have hd := g3.dup
  obtain ⟨c, hc, hcj⟩ := hd.get hz
  have hcell : ∀ j u, c[j]? = some u → w.cell? ⟨(elemAddr v i e.n).block, (elemAddr v i e.n).off + j, none⟩ = some u := by
    intro j u hj
    have hcs := hcj j u hj
    rcases g1.2 with ⟨rfl, h0⟩ | ⟨g, cap, cur, rfl, _, hg, hle, hmx, hcs', htk⟩
    · have : zs = [] := List.eq_nil_of_length_eq_zero h0
      subst this; simp at hz
    · have hl := cell_in hcs
      rw [g3.length] at hl
      simp only [elemAddr, World.cell?, hg, Nat.zero_add]
      rw [← htk, List.getElem?_take, if_pos hl] at hcs
      simpa using hcs
  refine ⟨c, ⟨fun b => min (P2 b) 1, fun b => max (max (P1 b) (min (P2 b) 1)) (O2 b), ⟨fun b => ?_, fun b => ?_, fun b => ?_, fun b => ?_⟩, hc, fun b => max (P1 b) (min (P2 b) 1), O2, ⟨fun b => ?_, fun b => ?_, fun b => ?_, fun b => ?_⟩,
    ⟨P1, fun b => min (P2 b) 1, cs, ⟨fun b => ?_, fun b => ?_, fun b => ?_, fun b => ?_⟩, g1, g2, hd⟩, h2⟩, ⟨_, Nat.le_trans hb (s.l _), rfl⟩, hcell⟩ <;>
    (have := s.l b; have := s.r b; have := s.lr b; have := s.rl b; have := t.l b; have := t.r b; have := t.lr b; have := t.rl b; omega)
theorem Elem.there {α : Type} {e : Enc α} {v : Value} {a : A} {L : List A} {i : Nat} {z : α} (h : Elem L e v i z) : Elem (a :: L) e v i z := by
  intro w O hs
  obtain ⟨O1, O2, s, h1, h2⟩ := hs
  obtain ⟨c, hs2, ⟨b, hb, hbe⟩, hcell⟩ := h w O2 h2
  obtain ⟨P1, P2, t, g1, g2⟩ := hs2
  refine ⟨c, ⟨P1, fun b => max (O1 b) (P2 b), ⟨fun b => ?_, fun b => ?_, fun b => ?_, fun b => ?_⟩, g1, O1, P2, ⟨fun b => ?_, fun b => ?_, fun b => ?_, fun b => ?_⟩, h1, g2⟩, ⟨b, Nat.le_trans hb (s.r b), hbe⟩, hcell⟩ <;>
    (have := s.l b; have := s.r b; have := s.lr b; have := s.rl b; have := t.l b; have := t.r b; have := t.lr b; have := t.rl b; omega)

/-! ### getting at what a list says -/
theorem Has.sl_own {α : Type} {e : Enc α} {T : TypeId} {v : Value} {xs : List α} {L : List A} : Has (Own e T v xs :: L) (Sl e v xs) := Has.here.imp fun _ _ h => Own.sl h
theorem Has.r_blk {b : Nat} {T : TypeId} {cs : List Value} {L : List A} : Has (Blk b T cs :: L) (BlkR b T cs) := Has.here.imp fun _ _ h => Blk.r h

section
variable {X : Cx} {k : List Item} {env : Env} {L : List A} {ops : Array Oper} {l : List Oper}
theorem c_ex {γ : Type} {f : γ → A} (h : ∀ g, Cfg X k env (f g :: L)) : Cfg X k env (ExA f :: L) := by
  intro a w O ha hs hr
  obtain ⟨O1, O2, s, ⟨g, hg⟩, h2⟩ := hs
  exact h g a w O ha ⟨O1, O2, s, hg, h2⟩ hr
theorem o_ex {γ : Type} {f : γ → A} (h : ∀ g, Ops X ops l k env (f g :: L)) : Ops X ops l k env (ExA f :: L) := by
  intro a w O ha hs hr
  obtain ⟨O1, O2, s, ⟨g, hg⟩, h2⟩ := hs
  exact h g a w O ha ⟨O1, O2, s, hg, h2⟩ hr
/-- A fact that the memory shows. -/
theorem c_fact {p : Prop} {a : A} (ha : Has L a) (hp : ∀ w O, a.h w O → p) (h : p → Cfg X k env L) : Cfg X k env L :=
  fun ac w O hac hs hr => h (hp w O (ha w O hs)) ac w O hac hs hr
theorem o_fact {p : Prop} {a : A} (ha : Has L a) (hp : ∀ w O, a.h w O → p) (h : p → Ops X ops l k env L) : Ops X ops l k env L :=
  fun ac w O hac hs hr => h (hp w O (ha w O hs)) ac w O hac hs hr
/-- Something that follows is laid beside. -/
theorem Ent.beside {b : A} {L : List A} (hb : ∀ w O, Stars L w O → b.h w fun _ => 0) : Ent L (b :: L) := fun w O hs =>
  ⟨fun _ => 0, O, ⟨fun b => Nat.zero_le _, fun b => Nat.le_refl _, fun b h => by omega, fun b h => rfl⟩, hb w O hs, hs⟩
theorem Ent.drop {b : A} {L : List A} : Ent (b :: L) L := fun w O hs => by
  obtain ⟨O1, O2, s, _, h2⟩ := hs
  exact h2.mono s.r
theorem Ent.cons {b : A} {L L' : List A} (h : Ent L L') : Ent (b :: L) (b :: L') := fun w O hs => by
  obtain ⟨O1, O2, s, h1, h2⟩ := hs
  exact ⟨O1, O2, s, h1, h w O2 h2⟩
theorem Ent.head {a b : A} {L : List A} (h : ∀ w O, a.h w O → b.h w O) : Ent (a :: L) (b :: L) := fun w O hs => by
  obtain ⟨O1, O2, s, h1, h2⟩ := hs
  exact ⟨O1, O2, s, h _ _ h1, h2⟩
/-- What is read may be laid beside once more, in another form. -/
theorem Ent.share {a b : A} {L L' : List A} (hp : Pick a L L') (hd : a.Dup) (hab : ∀ w O, a.h w O → b.h w O) : Ent L (b :: a :: L') := fun w O hs => by
  obtain ⟨O1, O2, s, h1, h2⟩ := (Pick.keep (l := L') hd) w O (hp w O hs)
  exact ⟨O1, O2, s, hab _ _ h1, h2⟩
end
end Go.SL
/- The rules of the operations on memory, and of calls. -/
namespace Go.SL
open Go

def evalAll (e : Env) : List Operand → Option (List Value)
  | [] => some []
  | x :: xs => match e.eval x, evalAll e xs with
    | some v, some vs => some (v :: vs)
    | _, _ => none
theorem Holds.all {X : Cx} {e : Env} {a : Act} (h : Holds X e a) : ∀ {xs : List Operand} {vs : List Value}, evalAll e xs = some vs → xs.map a.eval = vs
  | [], vs, hv => by simp [evalAll] at hv; simp [hv]
  | x :: xs, vs, hv => by
    unfold evalAll at hv
    split at hv
    · rename_i v vs' h1 h2
      cases hv
      rw [List.map_cons, h.eval h1, h.all h2]
    · cases hv

/-- A function with a body. -/
def Callable (P : Program) (f : FuncId) : Prop := ∀ args w, (callFunc f args).run P w = .ok (.enter f args) w
theorem callable_of {P : Program} {f : FuncId} {fn : Func} (hf : P.funcs[f]? = some fn) (hn : (fn.name == "runtime.NumGoroutine") = false) (hb : fn.body.isNone = false) : Callable P f := by
  intro args w
  have hb' : fn.body ≠ none := by intro h; rw [h] at hb; cases hb
  have hn' : fn.name ≠ "runtime.NumGoroutine" := by intro h; rw [h] at hn; simp at hn
  simp [callFunc, program, Sem.run, hf, hn', hb']

theorem Stars.app {l1 l2 : List A} {w : World} {O O1 O2 : Perm} (hs : Split O O1 O2) (h1 : Stars l1 w O1) (h2 : Stars l2 w O2) : Stars (l1 ++ l2) w O := by
  induction l1 generalizing O O1 with
  | nil => exact h2.mono hs.r
  | cons a l ih =>
    obtain ⟨P1, P2, t, g1, g2⟩ := h1
    refine ⟨P1, fun b => max (P2 b) (O2 b), ⟨fun b => ?_, fun b => ?_, fun b => ?_, fun b => ?_⟩, g1, ih (O := fun b => max (P2 b) (O2 b)) (O1 := P2) ⟨fun b => ?_, fun b => ?_, fun b => ?_, fun b => ?_⟩ g2⟩ <;>
      (have := hs.l b; have := hs.r b; have := hs.lr b; have := hs.rl b; have := t.l b; have := t.r b; have := t.lr b; have := t.rl b; omega)

/-- What is set aside stays, behind a step that touches the rest alone. -/
theorem frame {w w' : World} {O O1 O2 O' : Perm} {L2 : List A} (hdom : ∀ b, O b ≠ 0 → b < w.heap.size) (s : Split O O1 O2) (h2 : Stars L2 w O2) (hr : Rel w O1 w' O') :
    Split (fun b => max (O' b) (O2 b)) O' O2 ∧ Stars L2 w' O2 ∧ Rel w O w' (fun b => max (O' b) (O2 b)) := by
  have h2b : ∀ b, O2 b ≠ 0 → b < w.heap.size := fun b hb => hdom b (by have := s.r b; omega)
  refine ⟨⟨fun b => by omega, fun b => by omega, fun b hb => ?_, fun b hb => ?_⟩, h2.loc fun b hb => hr.old b (h2b b hb) ?_, ⟨hr.os, hr.tape, hr.output, hr.size, fun b hb hlt => hr.old b hb (by have := s.l b; omega), fun b hb => ?_, fun b hb => ?_⟩⟩
  · rcases Nat.lt_or_ge b w.heap.size with h | h
    · exact s.lr b (by have := hr.perm b h; omega)
    · rcases Nat.eq_zero_or_pos (O2 b) with h0 | h0
      · exact h0
      · exact absurd (h2b b (by omega)) (by omega)
  · have hb2 := h2b b (by omega)
    have := hr.perm b hb2
    have := s.rl b hb
    omega
  · have := s.lr b
    rcases Nat.lt_or_ge (O1 b) 2 with h | h
    · exact h
    · exact absurd (this h) hb
  · have := hr.perm b hb; have := s.l b; have := s.r b
    omega
  · by_cases h0 : O' b = 0
    · have : O2 b ≠ 0 := by
        have hb' : max (O' b) (O2 b) ≠ 0 := hb
        omega
      have := h2b b this; have := hr.size; omega
    · exact hr.dom b h0

/-! ### steps of the world -/
def fresh (w : World) (O : Perm) : Perm := fun b => if b = w.heap.size then 2 else O b
theorem rel_alloc {w : World} {O : Perm} (o : Obj) (hdom : ∀ b, O b ≠ 0 → b < w.heap.size) : Rel w O (w.alloc o) (fresh w O) := by
  refine ⟨rfl, rfl, rfl, by simp, fun b hb _ => ?_, fun b hb => ?_, fun b hb => ?_⟩
  · show (w.heap.push o)[b]? = _
    rw [Array.getElem?_push, if_neg (by omega)]
  · simp only [fresh]; rw [if_neg (by omega)]; omega
  · show b < (w.heap.push o).size
    simp only [Array.size_push]
    by_cases h : b = w.heap.size
    · omega
    · simp only [fresh, if_neg h] at hb; have := hdom b hb; omega
theorem stars_alloc {w : World} {O : Perm} {L : List A} {a : A} (o : Obj) (hdom : ∀ b, O b ≠ 0 → b < w.heap.size) (hs : Stars L w O) (ha : a.h (w.alloc o) fun b => if b = w.heap.size then 2 else 0) :
    Stars (a :: L) (w.alloc o) (fresh w O) := by
  have hn : O w.heap.size = 0 := by
    rcases Nat.eq_zero_or_pos (O w.heap.size) with h | h
    · exact h
    · have := hdom w.heap.size (by omega); omega
  refine ⟨_, O, ⟨fun b => ?_, fun b => ?_, fun b hb => ?_, fun b hb => ?_⟩, ha, hs.loc fun b hb => ?_⟩
  · simp only [fresh]; split <;> omega
  · simp only [fresh]; split
    · rename_i h; rw [h, hn]; omega
    · omega
  · by_cases h : b = w.heap.size
    · rw [h, hn]
    · simp [h] at hb
  · by_cases h : b = w.heap.size
    · rw [h, hn] at hb; omega
    · simp [h]
  · show (w.heap.push o)[b]? = _
    have := hdom b hb
    rw [Array.getElem?_push, if_neg (by omega)]
theorem heap_alloc (w : World) (o : Obj) : (w.alloc o).heap[w.heap.size]? = some o := by
  show (w.heap.push o)[w.heap.size]? = _
  simp

section
variable {K : Act → World → Prop} {X : Cx} {ops : Array Oper} {rest : List Oper} {kk : List Item} {env : Env} {L L1 : List A} {d : Nat} {T : TypeId} {pos : String} {af : Array Edge} {x y : Operand}

/-- A call. -/
theorem s_call {γ : Type} {ret : γ → Value} {pu : γ → Prop} {L' : γ → List A} {f : Operand} {g : FuncId} {first cap : List Value} {xs : List Operand} {args vs : List Value} {ts : Array TypeId} {Lp : List A}
    (hc : Callable X.P g) (spec : Con X.P g args Lp ret pu L')
    (hf : env.eval f = some (.func (.func g) first.toArray cap.toArray)) (hx : evalAll env xs = some vs) (hv : args = first ++ vs ++ cap) (hd : d < X.fn.ntmps) (hp : Picks Lp L L1)
    (k : ∀ g, pu g → Kont X ((d, ret g) :: env) (L' g ++ L1) K) :
    StepK X kk ⟨some d, .call ⟨.value f, xs.toArray, ts⟩, T, pos, af, none⟩ env L K := by
  intro a w O ha hs hr
  have hrun : (execOp a.eval ⟨some d, .call ⟨.value f, xs.toArray, ts⟩, T, pos, af, none⟩).run X.P w = .ok (.enter g args.toArray) w := by
    have h1 := ha.all hx
    have hargs : first.toArray ++ (xs.map a.eval).toArray ++ cap.toArray = args.toArray := by rw [h1, hv]; simp
    simp only [execOp, resolve, ha.eval hf, Deferred.ofValue, pure_bind, invoke, List.map_toArray]
    rw [hargs]
    exact hc _ _
  simp only [Oper.wp, hrun, Oper.upon]
  obtain ⟨O1, O2, s, h1, h2⟩ := hp.split w O hs
  refine (spec w O1 h1 (fun b hb => hr.dom b (by have := s.l b; omega))).mono ?_
  rintro e w' ⟨g, O', rfl, hpu, hL, hrel⟩
  obtain ⟨s', h2', hrel'⟩ := frame hr.dom s h2 hrel
  exact k g hpu _ w' _ (ha.put hd _) (Stars.app s' hL h2') (hr.trans hrel')
/-- A call of a function by its name. -/
theorem s_callf {γ : Type} {ret : γ → Value} {pu : γ → Prop} {L' : γ → List A} {g : FuncId} {xs : List Operand} {args : List Value} {ts : Array TypeId} {Lp : List A}
    (hc : Callable X.P g) (spec : Con X.P g args Lp ret pu L') (hx : evalAll env xs = some args) (hd : d < X.fn.ntmps) (hp : Picks Lp L L1)
    (k : ∀ g, pu g → Kont X ((d, ret g) :: env) (L' g ++ L1) K) :
    StepK X kk ⟨some d, .call ⟨.value (.func g), xs.toArray, ts⟩, T, pos, af, none⟩ env L K :=
  s_call hc spec (first := []) (cap := []) rfl hx (by simp) hd hp k

/-! ### slices -/
variable {α : Type} {e : Enc α} {v u : Value} {zs ys : List α} {E : TypeId}
theorem v_len_sl {t : TypeId} (hu : X.P.underlying t = some (.slice E)) (hx : env.eval x = some v) (hs : Has L (Sl e v zs)) : Val X env L (.call ⟨.builtin .len, #[x], #[t]⟩) T (.int .i64 zs.length) :=
  fun _ _ _ _ a w O ha hl => by
    obtain ⟨a0, cap, rfl, _⟩ := hs w O hl
    simp [execOp, resolve, invoke, builtin, Builtin.len_, ha.eval hx, run_underlying hu, goInt]

/-- The cells of an element's type. -/
def TI (P : Program) (t : TypeId) (z : Value) (n b : Nat) : Prop := ∃ i, P.info? t = some i ∧ i.zero = some z ∧ i.size = n ∧ i.bytes = b
theorem ti_of {P : Program} {t : TypeId} {z : Value} {n b : Nat} (h : (P.info? t).map (fun i => (i.zero, i.size, i.bytes)) = some (some z, n, b)) : TI P t z n b := by
  cases hi : P.info? t with
  | none => rw [hi] at h; cases h
  | some i =>
    rw [hi] at h
    simp only [Option.map_some, Option.some.injEq, Prod.mk.injEq] at h
    exact ⟨i, hi, h.1, h.2.1, h.2.2⟩
theorem v_indexAddr {t : TypeId} {K : IntKind} {n : Int} {z0 : Value} {bt : Nat} (hu : X.P.underlying t = some (.slice E)) (hE : TI X.P E z0 e.n bt) (hx : env.eval x = some v) (hy : env.eval y = some (.int K n))
    (hs : Has L (Sl e v zs)) (hb : 0 ≤ n ∧ n < zs.length) :
    Val X env L (.indexAddr t x y) T (.pointer (some (elemAddr v n.toNat e.n))) := by
  intro _ _ _ _ a w O ha hl
  obtain ⟨a0, cap, rfl, h1, h2, h3⟩ := hs w O hl
  obtain ⟨i, hi, _, hsz, _⟩ := hE
  rcases h3 with ⟨_, rfl⟩ | ⟨b, off, cs, rfl, _, _, _⟩
  · simp at hb; omega
  · have hadd : (⟨b, off, none⟩ : Addr).add (n.toNat * i.size) = elemAddr (.slice (some ⟨b, off, none⟩) zs.length cap) n.toNat e.n := by
      rw [hsz]
      show (if n.toNat * e.n = 0 then _ else _) = (⟨b, off + n.toNat * e.n, none⟩ : Addr)
      split
      · rename_i h; rw [h, Nat.add_zero]
      · rfl
    simp [execOp, ha.eval hx, ha.eval hy, Instr.indexAt, asIntOf, run_underlying hu, sizeOf, typeInfo, hi, hb, hadd]

/-- A type whose values have one cell, and are no struct. -/
def Lone (P : Program) (t : TypeId) : Prop := ∃ dsc, P.underlying t = some dsc ∧ (∀ g, dsc ≠ .struct g) ∧ ∀ n e, dsc ≠ .array n e
def loneB : TypeDesc → Bool
  | .struct _ | .array _ _ => false
  | _ => true
theorem lone_of {P : Program} {t : TypeId} {d : TypeDesc} (h : P.underlying t = some d) (hb : loneB d = true) : Lone P t :=
  ⟨d, h, (fun g e => by rw [e] at hb; cases hb), (fun n e h => by rw [h] at hb; cases hb)⟩
theorem Lone.run {P : Program} {t : TypeId} (h : Lone P t) (w : World) : (isAgg t).run P w = .ok false w := by
  obtain ⟨dsc, hu, h1, h2⟩ := h
  simp only [isAgg, Sem.run_bind, run_underlying hu, Result.andThen_ok]
  cases dsc <;> first | rfl | exact absurd rfl (h1 _) | exact absurd rfl (h2 _ _)
theorem run_loadLone {P : Program} {t : TypeId} {a : Addr} {w : World} {u : Value} (h : Lone P t) (hc : w.cell? a = some u) : (loadVar t a).run P w = .ok u w := by
  simp only [loadVar, Sem.run_bind, h.run, Result.andThen_ok]
  simp [hc]
/-- Some cells at an address. -/
def CellsAt (w : World) (a : Addr) (cs : List Value) : Prop := ∀ j u, cs[j]? = some u → w.cell? (a.add j) = some u
theorem run_loadAgg {P : Program} {t : TypeId} {a : Addr} {w : World} {cs : List Value} {i : TypeInfo} (h : ∃ fs, P.underlying t = some (.struct fs)) (hi : P.info? t = some i) (hn : i.size = cs.length) (hc : CellsAt w a cs) :
    (loadVar t a).run P w = .ok (.agg cs.toArray) w := by
  obtain ⟨fs, hu⟩ := h
  have hia : (isAgg t).run P w = .ok true w := by simp [isAgg, run_underlying hu]
  simp only [loadVar, Sem.run_bind, hia, Result.andThen_ok]
  have := run_loadCells_list (P := P) w a cs hc
  simp [sizeOf, typeInfo, hi, hn, this]

theorem v_field {i : Nat} {cs : Array Value} {u : Value} {xT : TypeId} {fs : Array Field} {f : Field} (hu : X.P.underlying xT = some (.struct fs)) (hf : fs[i]? = some f) (hv : Lone X.P f.type)
    (hx : env.eval x = some (.agg cs)) (hc : cs[f.offset]? = some u) : Val X env L (.field xT x i) T u :=
  fun _ _ _ _ a w O ha _ => by simp [execOp, ha.eval hx, Instr.field, run_underlying hu, hf, part, hv.run, hc, asAgg]
theorem v_indexAddrN {t : TypeId} {K : IntKind} {n : Nat} {z0 : Value} {bt : Nat} (hu : X.P.underlying t = some (.slice E)) (hE : TI X.P E z0 e.n bt) (hx : env.eval x = some v) (hy : env.eval y = some (.int K (n : Int)))
    (hs : Has L (Sl e v zs)) (hb : n < zs.length) : Val X env L (.indexAddr t x y) T (.pointer (some (elemAddr v n e.n))) := by
  have := v_indexAddr (X := X) (T := T) hu hE hx hy hs ⟨by omega, by omega⟩
  simpa using this

theorem v_makeFunc {f : Fn} {az bs : List Operand} {us vs : List Value} (h1 : evalAll env az = some us) (h2 : evalAll env bs = some vs) : Val X env L (.makeFunc f az.toArray bs.toArray) T (.func f us.toArray vs.toArray) :=
  fun _ _ _ _ a w O ha _ => by simp [execOp, Instr.makeFunc, ha.all h1, ha.all h2]
/-- An element of one cell is read. -/
theorem s_load_elem {i : Nat} {z : α} {t : TypeId} (ht : Lone X.P t) (h1 : e.n = 1) (hx : env.eval x = some (.pointer (some (elemAddr v i e.n)))) (hd : d < X.fn.ntmps)
    (he : Elem L e v i z) (k : ∀ u, Kont X ((d, u) :: env) (Rd e [u] z :: L) K) : StepK X kk ⟨some d, .load t x, T, pos, af, none⟩ env L K := by
  refine s_main (γ := Value) (V := fun u => u) (pu := fun _ => True) (L' := fun u => Rd e [u] z :: L) ?_ hd (fun u _ => k u)
  intro a w O ha hst hdom
  obtain ⟨c, hs, _, hc⟩ := he w O hst
  have hl : c.length = 1 := by
    obtain ⟨_, _, _, h, _⟩ := hs
    rw [e.len h, h1]
  obtain ⟨u, rfl⟩ := List.length_eq_one_iff.1 hl
  have hcell := hc 0 u rfl
  refine ⟨u, w, O, ?_, trivial, hs, Rel.refl hdom⟩
  have hsp : (elemAddr v i e.n).spot = none := by unfold elemAddr; split <;> rfl
  have : elemAddr v i e.n = ⟨(elemAddr v i e.n).block, (elemAddr v i e.n).off + 0, none⟩ := by
    rw [Nat.add_zero]
    cases hh : elemAddr v i e.n
    rw [hh] at hsp
    simp only at hsp
    rw [hsp]
  rw [← this] at hcell
  simp [execOp, ha.eval hx, Instr.loadAt, Instr.sureAddr, run_loadLone ht hcell]
/-- The same where the value is told by the element alone. -/
theorem v_load_val {i : Nat} {z : α} {t : TypeId} {f : α → Value} (ht : Lone X.P t) (hf : ∀ w O cs x, e.rd w O cs x → cs = [f x]) (hx : env.eval x = some (.pointer (some (elemAddr v i e.n))))
    (he : Elem L e v i z) : Val X env L (.load t x) T (f z) := by
  intro _ _ _ _ a w O ha hst
  obtain ⟨c, hs, _, hc⟩ := he w O hst
  have hl : c = [f z] := by
    obtain ⟨_, _, _, h, _⟩ := hs
    exact hf _ _ _ _ h
  subst hl
  have hcell := hc 0 _ rfl
  have hsp : (elemAddr v i e.n).spot = none := by unfold elemAddr; split <;> rfl
  have : elemAddr v i e.n = ⟨(elemAddr v i e.n).block, (elemAddr v i e.n).off + 0, none⟩ := by
    rw [Nat.add_zero]
    cases hh : elemAddr v i e.n
    rw [hh] at hsp
    simp only at hsp
    rw [hsp]
  rw [← this] at hcell
  simp [execOp, ha.eval hx, Instr.loadAt, Instr.sureAddr, run_loadLone ht hcell]
theorem v_load_str {i : Nat} {z : ByteArray} {t : TypeId} (ht : Lone X.P t) (hx : env.eval x = some (.pointer (some (elemAddr v i 1)))) (he : Elem L eStr v i z) : Val X env L (.load t x) T (.string z) :=
  v_load_val (e := eStr) ht (fun _ _ _ _ h => h) hx he
theorem v_load_int {i : Nat} {K : IntKind} {z : Int} {t : TypeId} (ht : Lone X.P t) (hx : env.eval x = some (.pointer (some (elemAddr v i 1)))) (he : Elem L (eInt K) v i z) : Val X env L (.load t x) T (.int K z) :=
  v_load_val (e := eInt K) ht (fun _ _ _ _ h => h) hx he
theorem v_load_bool {i : Nat} {z : Bool} {t : TypeId} (ht : Lone X.P t) (hx : env.eval x = some (.pointer (some (elemAddr v i 1)))) (he : Elem L eBool v i z) : Val X env L (.load t x) T (.bool z) :=
  v_load_val (e := eBool) ht (fun _ _ _ _ h => h) hx he
/-- An element that is a struct. -/
theorem s_load_agg {i : Nat} {z : α} {t : TypeId} {z0 : Value} {bt : Nat} (ht : ∃ fs, X.P.underlying t = some (.struct fs)) (hE : TI X.P t z0 e.n bt) (hx : env.eval x = some (.pointer (some (elemAddr v i e.n)))) (hd : d < X.fn.ntmps)
    (he : Elem L e v i z) (k : ∀ c : List Value, Kont X ((d, .agg c.toArray) :: env) (Rd e c z :: L) K) : StepK X kk ⟨some d, .load t x, T, pos, af, none⟩ env L K := by
  refine s_main (γ := List Value) (V := fun c => .agg c.toArray) (pu := fun _ => True) (L' := fun c => Rd e c z :: L) ?_ hd (fun u _ => k u)
  intro a w O ha hst hdom
  obtain ⟨c, hs, _, hc⟩ := he w O hst
  have hl : c.length = e.n := by
    obtain ⟨_, _, _, h, _⟩ := hs
    exact e.len h
  obtain ⟨ti, hi, _, hsz, _⟩ := hE
  have hca : CellsAt w (elemAddr v i e.n) c := fun j u hj => by
    have := hc j u hj
    have hsp : (elemAddr v i e.n).spot = none := by unfold elemAddr; split <;> rfl
    unfold Addr.add
    split
    · rename_i h0
      subst h0
      cases hh : elemAddr v i e.n
      rw [hh] at hsp this
      simp only at hsp this
      rw [hsp]; simpa using this
    · exact this
  refine ⟨c, w, O, ?_, trivial, hs, Rel.refl hdom⟩
  have := run_loadAgg ht hi (by rw [hsz, hl]) hca
  simp [execOp, ha.eval hx, Instr.loadAt, Instr.sureAddr, this]

/-! ### cuts -/
theorem SlP.cut {w : World} {O : Perm} {a0 : Option Addr} {cap lo hi c' : Nat} (h : SlP e w O (.slice a0 zs.length cap) zs) (h1 : lo ≤ hi) (h2 : hi ≤ zs.length) (h3 : hi ≤ c') (h4 : c' ≤ cap) :
    SlP e w O (.slice (if c' = lo then a0 else a0.map (·.add (lo * e.n))) (hi - lo) (c' - lo)) ((zs.take hi).drop lo) := by
  obtain ⟨a, cap', hv, g1, g2, g3⟩ := h
  simp only [Value.slice.injEq, true_and] at hv
  obtain ⟨rfl, rfl⟩ := hv
  have hlen : ((zs.take hi).drop lo).length = hi - lo := by simp; omega
  refine ⟨_, _, by rw [hlen], by rw [hlen]; omega, by omega, ?_⟩
  rcases g3 with ⟨ha, rfl⟩ | ⟨b, off, cs, rfl, hb, hr, hc⟩
  · left; constructor
    · rcases ha with rfl | ha
      · left; split <;> rfl
      · right; omega
    · simp
  · right
    by_cases hc' : c' = lo
    · rw [if_pos hc']
      have : (zs.take hi).drop lo = [] := List.eq_nil_of_length_eq_zero (by rw [hlen]; omega)
      rw [this]
      exact ⟨b, off, [], rfl, hb, rfl, fun j u hj => by simp at hj⟩
    · rw [if_neg hc']
      refine ⟨b, off + lo * e.n, (cs.take (hi * e.n)).drop (lo * e.n), ?_, hb, (hr.take hi).drop lo, fun j u hj => ?_⟩
      · simp only [Option.map_some, Option.some.injEq, Addr.add]
        split
        · rename_i h; rw [h, Nat.add_zero]
        · rfl
      · rw [List.getElem?_drop, List.getElem?_take] at hj
        split at hj
        · have := hc _ u hj
          rwa [← Nat.add_assoc] at this
        · cases hj

/-- v[lo:hi], v[lo:], v[:hi], within the length. -/
theorem s_slice {t : TypeId} {z0 : Value} {bt sz : Nat} {lo hi : Option Operand} {l h : Nat} (hu : X.P.underlying t = some (.slice E)) (hE : TI X.P E z0 sz bt) (hx : env.eval x = some v) (hp : Pick (Sl e v zs) L L1) (hsz0 : e.n = sz)
    (hlo : (lo = none ∧ l = 0) ∨ ∃ o K n, lo = some o ∧ env.eval o = some (.int K n) ∧ 0 ≤ n ∧ n.toNat = l)
    (hhi : (hi = none ∧ h = zs.length) ∨ ∃ o K n, hi = some o ∧ env.eval o = some (.int K n) ∧ 0 ≤ n ∧ n.toNat = h)
    (h1 : l ≤ h) (h2 : h ≤ zs.length) (hd : d < X.fn.ntmps)
    (k : ∀ u, Kont X ((d, u) :: env) (Sl e u ((zs.take h).drop l) :: Sl e v zs :: L1) K) :
    StepK X kk ⟨some d, .slice t x lo hi none, T, pos, af, none⟩ env L K := by
  subst hsz0
  refine s_main (γ := Value) (V := fun u => u) (pu := fun _ => True) (L' := fun u => Sl e u ((zs.take h).drop l) :: Sl e v zs :: L1) ?_ hd (fun u _ => k u)
  intro a w O ha hst hdom
  obtain ⟨O1, O2, s, hs1, hs2⟩ := hp w O hst
  have hs1' := hs1
  obtain ⟨a0, cap, rfl, g1, g2, g3⟩ := hs1'
  obtain ⟨ti, hi', _, hsz, _⟩ := hE
  have hcut : ∀ w O, (Sl e (.slice a0 zs.length cap) zs).h w O → (Sl e (.slice (if cap = l then a0 else a0.map (·.add (l * e.n))) (h - l) (cap - l)) ((zs.take h).drop l)).h w O := fun w O hh => SlP.cut hh h1 h2 (by omega) (Nat.le_refl _)
  refine ⟨.slice (if cap = l then a0 else a0.map (·.add (l * e.n))) (h - l) (cap - l), w, O, ?_, trivial, ?_, Rel.refl hdom⟩
  · have hbl : ∀ {o : Operand} {K : IntKind} {n : Int} {m : Nat} {c : BoundsCode}, env.eval o = some (.int K n) → 0 ≤ n → n.toNat ≤ m → (Instr.sliceBound (a.eval o) m c).run X.P w = .ok n.toNat w := by
      intro o K n m c ho h0 hm
      rw [ha.eval ho, run_sliceBound (w := w) K n m c h0 (by omega)]
    have hbd : (Instr.sliceBounds true zs.length cap (lo.map a.eval) (hi.map a.eval) none).run X.P w = .ok (l, h, cap) w := by
      rcases hlo with ⟨rfl, rfl⟩ | ⟨o1, K1, n1, rfl, ho1, hn1, rfl⟩ <;> rcases hhi with ⟨rfl, rfl⟩ | ⟨o2, K2, n2, rfl, ho2, hn2, rfl⟩
      · simp [Instr.sliceBounds]
      · simp [Instr.sliceBounds, hbl (m := cap) (c := .sliceAcap) ho2 hn2 (by omega)]
      · simp [Instr.sliceBounds, hbl (m := zs.length) (c := .sliceB) ho1 hn1 (by omega)]
      · simp [Instr.sliceBounds, hbl (m := cap) (c := .sliceAcap) ho2 hn2 (by omega), hbl (m := n2.toNat) (c := .sliceB) ho1 hn1 (by omega)]
    have hst : (Instr.sliceAt t (.slice a0 zs.length cap) (lo.map a.eval) (hi.map a.eval) none).run X.P w = .ok (.slice (if cap = l then a0 else a0.map (·.add (l * e.n))) (h - l) (cap - l)) w := by
      simp [Instr.sliceAt, Instr.slice, run_underlying hu, hbd, sizeOf, typeInfo, hi', hsz]
    simp [execOp, ha.eval hx, hst]
  · have := Lend.pick (L := Sl e (.slice a0 zs.length cap) zs :: L1) (b := Sl e (.slice (if cap = l then a0 else a0.map (·.add (l * e.n))) (h - l) (cap - l)) ((zs.take h).drop l)) Pick.here (Lend.dup (Sl.isDup e _ zs) hcut) w O ⟨O1, O2, s, hs1, hs2⟩
    exact this
end
end Go.SL
/- Blocks: variables in memory; made slices; append. -/
namespace Go.SL
open Go

theorem dom_zero {w : World} {O : Perm} (hdom : ∀ b, O b ≠ 0 → b < w.heap.size) : O w.heap.size = 0 := by
  rcases Nat.eq_zero_or_pos (O w.heap.size) with h | h
  · exact h
  · have := hdom w.heap.size (by omega); omega

/-- Behind an append or a make: one row of one's own may have turned. -/
theorem rel_grown {w w' : World} {O : Perm} {row : Option Nat} (hg : w.grownBy w' row) (hrow : ∀ k, row = some k → 2 ≤ O k) (new : Nat → Nat)
    (hnew : ∀ b, new b ≠ 0 → w.heap.size ≤ b ∧ b < w'.heap.size) : Rel w O w' fun b => if b < w.heap.size then O b else new b := by
  refine ⟨hg.os, hg.tape, hg.output, hg.size, fun b hb hlt => hg.block b hb fun h => ?_, fun b hb => ?_, fun b hb => ?_⟩
  · have := hrow b h.symm; omega
  · simp only [if_pos hb]; exact Nat.le_refl _
  · by_cases h : b < w.heap.size
    · have := hg.size; omega
    · simp only [if_neg h] at hb; exact (hnew b hb).2

section
variable {K : Act → World → Prop} {X : Cx} {ops : Array Oper} {rest : List Oper} {kk : List Item} {env : Env} {L L1 L2 : List A} {d : Nat} {T : TypeId} {pos : String} {af : Array Edge} {x y : Operand}

theorem blk_new (w : World) (cs : List Value) (t : TypeId) : (Blk w.heap.size t cs).h (w.alloc (.cells cs.toArray t)) fun b => if b = w.heap.size then 2 else 0 :=
  ⟨by simp, heap_alloc w _⟩

/-- A new variable. -/
theorem s_alloc {t : TypeId} {z : Value} {n bt : Nat} (ht : TI X.P t z n bt) (hd : d < X.fn.ntmps)
    (k : ∀ b, Kont X ((d, .pointer (some ⟨b, 0, none⟩)) :: env) (Blk b t z.cells.toList :: L) K) : StepK X kk ⟨some d, .alloc t, T, pos, af, none⟩ env L K := by
  refine s_main (γ := Nat) (V := fun b => .pointer (some ⟨b, 0, none⟩)) (pu := fun _ => True) (L' := fun b => Blk b t z.cells.toList :: L) ?_ hd (fun b _ => k b)
  intro a w O ha hst hdom
  obtain ⟨i, hi, hz, _, _⟩ := ht
  refine ⟨w.heap.size, w.alloc (.cells z.cells.toList.toArray t), fresh w O, ?_, trivial, stars_alloc _ hdom hst (blk_new w _ t), rel_alloc _ hdom⟩
  simp [execOp, Instr.alloc, zeroValue, typeInfo, hi, hz, newVar, newRow, newObj, Sem.run]
/-- A new variable that holds a value. -/
theorem s_box {t : TypeId} {u : Value} (hx : env.eval x = some u) (hd : d < X.fn.ntmps)
    (k : ∀ b, Kont X ((d, .pointer (some ⟨b, 0, none⟩)) :: env) (Blk b t u.cells.toList :: L) K) : StepK X kk ⟨some d, .box t x, T, pos, af, none⟩ env L K := by
  refine s_main (γ := Nat) (V := fun b => .pointer (some ⟨b, 0, none⟩)) (pu := fun _ => True) (L' := fun b => Blk b t u.cells.toList :: L) ?_ hd (fun b _ => k b)
  intro a w O ha hst hdom
  refine ⟨w.heap.size, w.alloc (.cells u.cells.toList.toArray t), fresh w O, ?_, trivial, stars_alloc _ hdom hst (blk_new w _ t), rel_alloc _ hdom⟩
  simp [execOp, Instr.box, ha.eval hx, newVar, newRow, newObj, Sem.run]

theorem v_fieldAddr {t : TypeId} {fs : Array Field} {f : Field} {i : Nat} {p : Addr} {z : Value} {n bt : Nat} (hu : X.P.underlying t = some (.struct fs)) (hf : fs[i]? = some f) (ht : TI X.P f.type z n bt) (hn : n ≠ 0)
    (hx : env.eval x = some (.pointer (some p))) : Val X env L (.fieldAddr t x i) T (.pointer (some (p.add f.offset))) :=
  fun _ _ _ _ a w O ha _ => by
    obtain ⟨ti, hi, _, hsz, _⟩ := ht
    have : ti.size ≠ 0 := by omega
    simp [execOp, ha.eval hx, Instr.fieldAt, Instr.sureAddr, run_underlying hu, hf, fieldPlace, sizeOf, typeInfo, hi, this]
theorem v_nilCheck {p : Addr} (hx : env.eval x = some (.pointer (some p))) : Val X env L (.nilCheck x) T (.pointer (some p)) :=
  fun _ _ _ _ a w O ha _ => by simp [execOp, ha.eval hx]
theorem blk_cell {w : World} {b : Nat} {t : TypeId} {cs : Array Value} {fz : Nat × Nat} (h : w.heap[b]? = some (.cells cs t fz)) (off : Nat) : w.cell? ⟨b, off, none⟩ = cs[off]? := by
  simp [World.cell?, h]
/-- A cell of a block is read. -/
theorem v_load {t : TypeId} {b off : Nat} {bt : TypeId} {cs : List Value} {u : Value} (ht : Lone X.P t) (hx : env.eval x = some (.pointer (some ⟨b, off, none⟩)))
    (hb : Has L (BlkR b bt cs)) (hc : cs[off]? = some u) : Val X env L (.load t x) T (u) :=
  fun _ _ _ _ a w O ha hl => by
    obtain ⟨_, fz, hh⟩ := hb w O hl
    have : w.cell? ⟨b, off, none⟩ = some u := by rw [blk_cell hh]; simpa using hc
    simp [execOp, ha.eval hx, Instr.loadAt, Instr.sureAddr, run_loadLone ht this]
/-- A struct in a block is read. -/
theorem v_load_blk_agg {t : TypeId} {b off n : Nat} {bt : TypeId} {cs : List Value} {z0 : Value} {nb : Nat} (ht : ∃ fs, X.P.underlying t = some (.struct fs)) (hE : TI X.P t z0 n nb) (hx : env.eval x = some (.pointer (some ⟨b, off, none⟩)))
    (hb : Has L (BlkR b bt cs)) (hc : off + n ≤ cs.length) : Val X env L (.load t x) T (.agg ((cs.drop off).take n).toArray) :=
  fun _ _ _ _ a w O ha hl => by
    obtain ⟨_, fz, hh⟩ := hb w O hl
    obtain ⟨ti, hi, _, hsz, _⟩ := hE
    have : CellsAt w ⟨b, off, none⟩ ((cs.drop off).take n) := fun j u hj => by
      have hadd : (⟨b, off, none⟩ : Addr).add j = ⟨b, off + j, none⟩ := by
        unfold Addr.add; split
        · rename_i h; rw [h, Nat.add_zero]
        · rfl
      rw [hadd, blk_cell hh]
      rw [List.getElem?_take] at hj
      split at hj
      · rw [List.getElem?_drop] at hj; simpa using hj
      · cases hj
    have hrun := run_loadAgg ht hi (by rw [hsz]; simp; omega) this
    simp [execOp, ha.eval hx, Instr.loadAt, Instr.sureAddr, hrun]

theorem setCell_heap_self {w : World} {b off : Nat} {t : TypeId} {cs : List Value} {u : Value} (h : w.heap[b]? = some (.cells cs.toArray t (0, 0))) :
    (w.setCell ⟨b, off, none⟩ u).heap[b]? = some (.cells (cs.set off u).toArray t (0, 0)) := by
  simp [World.setCell, Array.getElem?_modify, h]
theorem setCell_rel {w : World} {O : Perm} {b off : Nat} {u : Value} (hb : 2 ≤ O b) (hdom : ∀ b, O b ≠ 0 → b < w.heap.size) : Rel w O (w.setCell ⟨b, off, none⟩ u) O := by
  refine ⟨rfl, rfl, rfl, by simp [World.setCell], fun c _ hlt => ?_, fun _ _ => Nat.le_refl _, fun c hc => ?_⟩
  · simp only [World.setCell, Array.getElem?_modify]
    rw [if_neg (by intro h; subst h; omega)]
  · have := hdom c hc; simpa [World.setCell] using this
/-- A step that turns what is picked alone. -/
theorem step_at {w w' : World} {O O1 O2 O' : Perm} {L' L2 : List A} (hdom : ∀ b, O b ≠ 0 → b < w.heap.size) (s : Split O O1 O2) (h2 : Stars L2 w O2) (hr : Rel w O1 w' O') (h' : Stars L' w' O') :
    ∃ P, Stars (L' ++ L2) w' P ∧ Rel w O w' P := by
  obtain ⟨s', h2', hrel⟩ := frame hdom s h2 hr
  exact ⟨_, Stars.app s' h' h2', hrel⟩

/-- A cell of a block of one's own is written. -/
theorem s_store {t : TypeId} {b off : Nat} {bt : TypeId} {cs cs' : List Value} {u : Value} {z : Value} {nb : Nat} (ht : TI X.P t z 1 nb) (hx : env.eval x = some (.pointer (some ⟨b, off, none⟩))) (hy : env.eval y = some u) (h1 : u.oneCell' = true)
    (hp : Pick (Blk b bt cs) L L1) (hlt : off < cs.length) (hset : cs.set off u = cs') (k : Kont X env (Blk b bt cs' :: L1) K) : StepK X kk ⟨none, .store t x y, T, pos, af, none⟩ env L K := by
  refine s_skip (γ := Unit) (pu := fun _ => True) (L' := fun _ => Blk b bt cs' :: L1) ?_ (fun _ _ => k)
  intro a w O ha hst hdom
  obtain ⟨O1, O2, s, ⟨hb2, hh⟩, hs2⟩ := hp w O hst
  have hdom1 : ∀ b, O1 b ≠ 0 → b < w.heap.size := fun b hb => hdom b (by have := s.l b; omega)
  obtain ⟨P, hP, hrel⟩ := step_at hdom s hs2 (setCell_rel (off := off) (u := u) hb2 hdom1) (L' := [Blk b bt cs']) ⟨O1, fun _ => 0, ⟨fun _ => Nat.le_refl _, fun _ => Nat.zero_le _, fun _ _ => rfl, fun _ h => by omega⟩, ⟨hb2, by rw [setCell_heap_self hh, hset]⟩, trivial⟩
  refine ⟨(), _, P, ?_, trivial, hP, hrel⟩
  obtain ⟨ti, hi, _, hsz, _⟩ := ht
  have hc : u.cells = #[u] := by cases u <;> first | rfl | cases h1
  have hcell : w.cell? ⟨b, off, none⟩ = some cs[off] := by rw [blk_cell hh]; simp [hlt]
  have hfr : w.frozen? ⟨b, off, none⟩ = false := by simp [World.frozen?, hh]
  have hst := run_store X.P w ⟨b, off, none⟩ u .plain h1
  rw [hcell] at hst
  simp only [hfr, Bool.false_eq_true, if_false] at hst
  have hadd : (⟨b, off, none⟩ : Addr).add 0 = ⟨b, off, none⟩ := rfl
  simp [execOp, ha.eval hx, ha.eval hy, Instr.storeAt, Instr.sureAddr, storeVar, hc, sizeOf, typeInfo, hi, hsz, storeCells, hadd, hst]

/-! ### append -/
variable {α : Type} {e : Enc α} {v u : Value} {zs ys : List α} {E : TypeId}
theorem Own.of_row {w' : World} {O1 P2 : Perm} {v' : Value} {cs : List Value} {zs' : List α} (hrow : w'.ownsRow 0 E e.n v' zs'.length cs) (hr : Rows e w' P2 cs zs') (hdisj : ∀ b, v'.ownBlock = some b → P2 b = 0) (hP : ∀ b, P2 b ≤ 1)
    (hO : ∀ b, P2 b ≤ O1 b) (hown : ∀ b, v'.ownBlock = some b → 2 ≤ O1 b) : (Own e E v' zs').h w' O1 := by
  refine ⟨fun b => if v'.ownBlock = some b then O1 b else 0, P2, cs, ⟨fun b => ?_, hO, fun b hb => ?_, fun b hb => ?_⟩, hrow, fun b hb => ?_, hr⟩
  · show (if _ then _ else _) ≤ _; split <;> omega
  · by_cases h : v'.ownBlock = some b
    · exact hdisj b h
    · simp [h] at hb
  · have := hP b; omega
  · simp only [hb, if_true]; exact hown b hb

/-- What append comes to. -/
theorem append_core {P : Program} {w : World} {t : TypeId} {ti : TypeInfo} {z : Value} {size nb : Nat} (hu : P.underlying t = some (.slice E)) (hi : P.info? E = some ti) (hz : ti.zero = some z) (hsz : ti.size = size) (hbt : ti.bytes = nb)
    (hzs : z.cells.size = size) (hn : 0 < size) {v : Value} {n : Nat} {cs : List Value} (g1 : w.ownsRow 0 E size v n cs) {a0 : Option Addr} {m cap : Nat} {cs' : List Value}
    (hsrc : (a0 = none ∧ m = 0 ∧ cs' = []) ∨ ∃ a, a0 = some a ∧ cs'.length = m * size ∧ (∀ j u, cs'[j]? = some u → w.cell? (a.add j) = some u) ∧ ∀ u ∈ cs', u.oneCell' = true)
    (hb : (n + m) * nb ≤ 140737488355328) (hb2 : n + m ≤ maxLen) :
    ∃ v' w', (Builtin.append_ #[t, t] T #[v, .slice a0 m cap]).run P w = .ok v' w' ∧ w'.ownsRow 0 E size v' (n + m) (cs ++ cs') ∧ w.grownBy w' v.ownBlock ∧
      ∀ b, v'.ownBlock = some b → b < w'.heap.size ∧ (v.ownBlock = some b ∨ w.heap.size ≤ b) := by
  have hblk : ∀ {w' : World} {v' : Value} {base n : Nat} {xs : List Value}, w'.ownsRow base E size v' n xs → ∀ b, v'.ownBlock = some b → b < w'.heap.size ∧ base ≤ b := by
    intro w' v' base n xs h b hb
    rcases h.2 with ⟨rfl, _⟩ | ⟨g, cap, cur, rfl, hbase, hg, _⟩
    · simp [Value.ownBlock] at hb
    · simp only [Value.ownBlock, Option.some.injEq] at hb
      subst hb
      refine ⟨?_, hbase⟩
      rcases Nat.lt_or_ge g w'.heap.size with h | h
      · exact h
      · rw [Array.getElem?_eq_none h] at hg; cases hg
  have weak : ∀ {w' : World} {v' : Value} {base n : Nat} {xs : List Value}, w'.ownsRow base E size v' n xs → w'.ownsRow 0 E size v' n xs := by
    intro w' v' base n xs h
    exact ⟨h.1, h.2.imp id fun ⟨g, cap, cur, e, _, r⟩ => ⟨g, cap, cur, e, Nat.zero_le _, r⟩⟩
  rcases hsrc with ⟨rfl, rfl, rfl⟩ | ⟨a, rfl, hl, hnews, h1⟩
  · refine ⟨v, w, ?_, by simpa using g1, ⟨rfl, rfl, rfl, Nat.le_refl _, fun _ _ _ => rfl⟩, fun b hb => ⟨(hblk g1 b hb).1, .inl hb⟩⟩
    rcases g1.2 with ⟨rfl, h0⟩ | ⟨g, cap, cur, rfl, _, _, hnc, _⟩
    · simp [Builtin.append_, run_underlying hu, sizeOf, typeInfo, hi, Builtin.lenOf, Builtin.firstCells]
    · simp [Builtin.append_, run_underlying hu, sizeOf, typeInfo, hi, Builtin.lenOf, Builtin.firstCells, hnc, storeCells]
  · rcases g1.2 with ⟨rfl, h0⟩ | ⟨g, cap', cur, rfl, hbg, hg, hnc, hcm, hcs, htake⟩
    · subst h0
      have g1' : w.ownsRow w.heap.size E size (.slice none 0 0) 0 cs := ⟨g1.1, .inl ⟨rfl, rfl⟩⟩
      obtain ⟨v', w', hrun, hown', hgr, _⟩ := run_append_own (P := P) w w.heap.size t T E ti z size nb hu hi hz hsz hbt hzs hn _ 0 cs g1' a m cap cs' hl hnews h1 hb2 hb (Nat.le_refl _)
      exact ⟨v', w', hrun, weak hown', hgr, fun b hb => ⟨(hblk hown' b hb).1, .inr (hblk hown' b hb).2⟩⟩
    · by_cases hroom : n + m ≤ cap'
      · have hfit : n * ti.size + cs'.length ≤ cur.size := by rw [hl, hcs, hsz, ← Nat.add_mul]; exact Nat.mul_le_mul_right _ hroom
        have hr := run_append_room (P := P) w t T E ti hu hi g n cap' cur hg a m cap cs' (by rw [hsz]; exact hl) hnews h1 hroom hfit
        have hlen : (cs ++ cs').length = (n + m) * size := by rw [List.length_append, g1.1, hl, Nat.add_mul]
        have hown' : (w.setRow g (cur.toList.take (n * ti.size) ++ cs' ++ cur.toList.drop (n * ti.size + cs'.length)).toArray).ownsRow 0 E size (.slice (some ⟨g, 0, none⟩) (n + m) cap') (n + m) (cs ++ cs') := by
          refine ⟨hlen, .inr ⟨g, cap', _, rfl, hbg, setRow_heap w g cur _ E _ hg, hroom, hcm, ?_, ?_⟩⟩
          · simp only [List.size_toArray, List.length_append, List.length_take, List.length_drop, Array.length_toList]
            omega
          · rw [hsz, htake, ← hlen]
            exact List.take_left
        refine ⟨_, _, hr, hown', ⟨rfl, rfl, rfl, by simp, fun k _ hk => setRow_other w g k _ (fun e => hk (by simp [Value.ownBlock, e]))⟩, fun b hb => ⟨(hblk hown' b hb).1, .inl hb⟩⟩
      · have holds : ∀ j u, cs[j]? = some u → w.cell? ((⟨g, 0, none⟩ : Addr).add j) = some u := by
          intro j u hj
          have hadd : (⟨g, 0, none⟩ : Addr).add j = ⟨g, j, none⟩ := by
            unfold Addr.add; split
            · rename_i h; rw [h]
            · simp
          have hjl := cell_in hj
          rw [g1.1] at hjl
          rw [hadd, blk_cell hg]
          rw [← htake, List.getElem?_take, if_pos hjl] at hj
          simpa using hj
        obtain ⟨v', w', hrun, hown', hgr⟩ := run_append_arg_grows (P := P) (w := w) t T E ti z size nb hu hi hz hsz hbt hzs hn ⟨g, 0, none⟩ n cap' cs g1.1 holds a m cap cs' hl hnews (by omega) hb2 hb
        exact ⟨v', w', hrun, weak hown', ⟨hgr.os, hgr.tape, hgr.output, hgr.size, fun k hk _ => hgr.block k hk (by simp)⟩, fun b hb => ⟨(hblk hown' b hb).1, .inr (hblk hown' b hb).2⟩⟩

/-- What follows for the assertions. -/
theorem own_grow {w w' : World} {O O1 O2 O3 O4 : Perm} {v v' : Value} {cs' : List Value} {a' : A} (hdom : ∀ b, O b ≠ 0 → b < w.heap.size) (s : Split O O1 O2) (hO : (Own e E v zs).h w O1)
    (s3 : Split O2 O3 O4) (hsl : a'.h w (fun b => min (O3 b) 1)) (hs4 : Stars L2 w O4) (hr : Rows e w (fun b => min (O3 b) 1) cs' ys)
    (hcs : ∀ P1 P2 c0, Split O1 P1 P2 → w.ownsRow 0 E e.n v zs.length c0 → Rows e w P2 c0 zs → w'.ownsRow 0 E e.n v' (zs.length + ys.length) (c0 ++ cs'))
    (hg : w.grownBy w' v.ownBlock) (hv' : ∀ b, v'.ownBlock = some b → b < w'.heap.size ∧ (v.ownBlock = some b ∨ w.heap.size ≤ b)) :
    ∃ P, Stars (Own e E v' (zs ++ ys) :: a' :: L2) w' P ∧ Rel w O w' P := by
  obtain ⟨P1, P2, c0, t1, g1, g2, g3⟩ := hO
  have hrow := hcs P1 P2 c0 t1 g1 g3
  have d1 : ∀ b, O1 b ≠ 0 → b < w.heap.size := fun b hb => hdom b (by have := s.l b; omega)
  have d2 : ∀ b, O2 b ≠ 0 → b < w.heap.size := fun b hb => hdom b (by have := s.r b; omega)
  have hrel1 : Rel w O1 w' (fun b => if b < w.heap.size then O1 b else if w.heap.size ≤ b ∧ v'.ownBlock = some b then 2 else 0) :=
    rel_grown hg (fun k hk => Nat.le_trans (g2 k hk) (t1.l k)) _ (fun b hb => by
      by_cases h : w.heap.size ≤ b ∧ v'.ownBlock = some b
      · exact ⟨h.1, (hv' b h.2).1⟩
      · simp [h] at hb)
  generalize hN : (fun b => if b < w.heap.size then O1 b else if w.heap.size ≤ b ∧ v'.ownBlock = some b then 2 else 0) = N at hrel1
  have hNo : ∀ b, b < w.heap.size → N b = O1 b := fun b hb => by rw [← hN]; simp [hb]
  have hNn : ∀ b, w.heap.size ≤ b → v'.ownBlock = some b → N b = 2 := fun b hb h => by rw [← hN]; simp [h, hb]; omega
  have hs2 : Stars (a' :: L2) w O2 := ⟨fun b => min (O3 b) 1, O4, ⟨fun b => by have := s3.l b; show min _ _ ≤ _; omega, s3.r, fun b hb => by have h' : 2 ≤ min (O3 b) 1 := hb; omega, fun b hb => by have := s3.rl b hb; show min _ _ = _; omega⟩, hsl, hs4⟩
  obtain ⟨sf, hs2', hrel⟩ := frame hdom s hs2 hrel1
  -- the rows
  have hloc : ∀ (Q : Perm), (∀ b, Q b ≠ 0 → b < w.heap.size ∧ v.ownBlock ≠ some b) → ∀ b, Q b ≠ 0 → w'.heap[b]? = w.heap[b]? := fun Q hQ b hb => hg.block b (hQ b hb).1 (fun h => (hQ b hb).2 h.symm)
  have hP2 : ∀ b, P2 b ≠ 0 → b < w.heap.size ∧ v.ownBlock ≠ some b := fun b hb => ⟨d1 b (by have := t1.r b; omega), fun h => hb (t1.lr b (g2 b h))⟩
  have hO3 : ∀ b, O3 b ≠ 0 → b < w.heap.size ∧ v.ownBlock ≠ some b := fun b hb => ⟨d2 b (by have := s3.l b; omega), fun h => by
    have h1 := g2 b h
    have h2 := t1.l b
    have h3 := s.lr b (by omega)
    have h4 := s3.l b
    omega⟩
  have hr1 : Rows e w' (fun b => max (min (P2 b) 1) (min (O3 b) 1)) c0 zs := (g3.dup.loc (hloc _ fun b hb => hP2 b (by intro h; rw [h] at hb; exact hb rfl))).mono fun b => by show min _ 1 ≤ max _ _; omega
  have hr2 : Rows e w' (fun b => max (min (P2 b) 1) (min (O3 b) 1)) cs' ys := (hr.loc (hloc _ fun b hb => hO3 b (by intro h; rw [h] at hb; exact hb rfl))).mono fun b => by show min _ 1 ≤ max _ _; omega
  have hlen : (zs ++ ys).length = zs.length + ys.length := List.length_append
  have hown : (Own e E v' (zs ++ ys)).h w' (fun b => max (N b) (min (O3 b) 1)) := by
    refine Own.of_row (by rw [hlen]; exact hrow) (hr1.append hr2) (fun b hb => ?_) (fun b => by show max _ _ ≤ 1; omega) (fun b => ?_) (fun b hb => ?_)
    · rcases (hv' b hb).2 with h | h
      · have h1 : P2 b = 0 := t1.lr b (g2 b h)
        have h2 : O3 b = 0 := by
          rcases Nat.eq_zero_or_pos (O3 b) with h3 | h3
          · exact h3
          · exact absurd h (hO3 b (by omega)).2
        show max _ _ = _; omega
      · have h1 : P2 b = 0 := by
          rcases Nat.eq_zero_or_pos (P2 b) with h3 | h3
          · exact h3
          · have := (hP2 b (by omega)).1; omega
        have h2 : O3 b = 0 := by
          rcases Nat.eq_zero_or_pos (O3 b) with h3 | h3
          · exact h3
          · have := (hO3 b (by omega)).1; omega
        show max _ _ = _; omega
    · show max (min (P2 b) 1) (min (O3 b) 1) ≤ max (N b) (min (O3 b) 1)
      rcases Nat.eq_zero_or_pos (P2 b) with h3 | h3
      · omega
      · have h4 := (hP2 b (by omega)).1
        have h5 := hNo b h4
        have := t1.r b
        omega
    · show 2 ≤ max _ _
      rcases (hv' b hb).2 with h | h
      · have h1 := g2 b h
        have h2 := t1.l b
        have h3 := d1 b (by omega)
        have h4 := hNo b h3
        omega
      · have := hNn b h hb; omega
  obtain ⟨Q3, Q4, u1, k1, k2⟩ := hs2'
  refine ⟨fun b => max (N b) (O2 b), ⟨fun b => max (N b) (min (O3 b) 1), fun b => max (min (O3 b) 1) (O4 b), ⟨fun b => ?_, fun b => ?_, fun b hb => ?_, fun b hb => ?_⟩, hown, fun b => min (O3 b) 1, O4, ⟨fun b => ?_, fun b => ?_, fun b hb => ?_, fun b hb => ?_⟩,
    a'.loc hsl (hloc _ fun b hb => hO3 b (by intro h; rw [h] at hb; exact hb rfl)), hs4.loc fun b hb => ?_⟩, hrel⟩
  · have := s3.l b; show max _ _ ≤ max _ _; omega
  · have := s3.l b; have := s3.r b; show max _ _ ≤ max _ _; omega
  · have h1 : 2 ≤ N b := by have h' : 2 ≤ max (N b) (min (O3 b) 1) := hb; omega
    have := sf.lr b h1; have := s3.l b; have := s3.r b; show max _ _ = 0; omega
  · have h1 : 2 ≤ O4 b := by have h' : 2 ≤ max (min (O3 b) 1) (O4 b) := hb; omega
    have h2 := s3.rl b h1
    have h3 := s3.r b
    have h4 := sf.rl b (by omega)
    show max _ _ = 0; omega
  · show _ ≤ max _ _; omega
  · show _ ≤ max _ _; omega
  · have h' : 2 ≤ min (O3 b) 1 := hb; omega
  · have := s3.rl b hb; show min _ _ = 0; omega
  · have h1 := s3.r b
    refine hg.block b (d2 b (by omega)) fun h => ?_
    have h3 := g2 b h.symm
    have h4 := t1.l b
    have h5 := s.lr b (by omega)
    omega

/-- append(x, y...), x a row of one's own. -/
theorem s_append {t : TypeId} {z : Value} {nb sz : Nat} (hu : X.P.underlying t = some (.slice E)) (hE : TI X.P E z sz nb) (hzs : z.cells.size = sz) (hn : 0 < sz)
    (hx : env.eval x = some v) (hy : env.eval y = some u) (hd : d < X.fn.ntmps) (hp : Pick (Own e E v zs) L L1) (hq : Pick (Sl e u ys) L1 L2) (hsz0 : e.n = sz) (hb : (zs.length + ys.length) * nb ≤ 140737488355328)
    (hb2 : zs.length + ys.length ≤ maxLen)
    (k : ∀ v', Kont X ((d, v') :: env) (Own e E v' (zs ++ ys) :: Sl e u ys :: L2) K) :
    StepK X kk ⟨some d, .call ⟨.builtin .append, #[x, y], #[t, t]⟩, T, pos, af, none⟩ env L K := by
  subst hsz0
  refine s_main (γ := Value) (V := fun u => u) (pu := fun _ => True) (L' := fun v' => Own e E v' (zs ++ ys) :: Sl e u ys :: L2) ?_ hd (fun u _ => k u)
  intro a w O ha hst hdom
  obtain ⟨O1, O2, s, hO, hs2⟩ := hp w O hst
  obtain ⟨O3, O4, s3, hsl, hs4⟩ := hq w O2 hs2
  have hslD := SlP.dup hsl
  obtain ⟨ti, hi, hz0, hsz, hbt⟩ := hE
  obtain ⟨a0, cap, rfl, q1, q2, q3⟩ := id hslD
  obtain ⟨P1, P2, cs, t1, g1, g2, g3⟩ := id hO
  have hadd : ∀ b off j : Nat, (⟨b, off, none⟩ : Addr).add j = ⟨b, off + j, none⟩ := fun b off j => by
    unfold Addr.add; split
    · rename_i h; rw [h, Nat.add_zero]
    · rfl
  obtain ⟨cs', hsrc, hr⟩ : ∃ cs', ((a0 = none ∧ ys.length = 0 ∧ cs' = []) ∨ ∃ a, a0 = some a ∧ cs'.length = ys.length * e.n ∧ (∀ j u, cs'[j]? = some u → w.cell? (a.add j) = some u) ∧ ∀ u ∈ cs', u.oneCell' = true) ∧
      Rows e w (fun b => min (O3 b) 1) cs' ys := by
    rcases q3 with ⟨_, rfl⟩ | ⟨b, off, cs', rfl, hb1, hr, hc⟩
    · cases a0 with
      | none => exact ⟨[], .inl ⟨rfl, rfl, rfl⟩, rfl⟩
      | some a => exact ⟨[], .inr ⟨a, rfl, by simp, fun j u hj => by simp at hj, fun u hu => by cases hu⟩, rfl⟩
    · exact ⟨cs', .inr ⟨_, rfl, hr.length, fun j u hj => by rw [hadd]; exact hc j u hj, hr.one⟩, hr⟩
  obtain ⟨v', w', hrun, hown', hgr, hv'⟩ := append_core (P := X.P) (T := T) (t := t) (cap := cap) hu hi hz0 hsz hbt hzs hn g1 hsrc hb hb2
  obtain ⟨P, hP, hrel⟩ := own_grow (a' := Sl e (.slice a0 ys.length cap) ys) (v' := v') (cs' := cs') hdom s hO s3 hslD hs4 hr (fun Q1 Q2 c0 _ h1 _ => by
    have : c0 = cs := by
      rcases h1.2 with ⟨rfl, h0⟩ | ⟨g, cap, cur, rfl, _, hg, _, _, _, htk⟩
      · have e1 := h1.1; have e2 := g1.1
        rw [h0, Nat.zero_mul] at e1 e2
        rw [List.eq_nil_of_length_eq_zero e1, List.eq_nil_of_length_eq_zero e2]
      · rcases g1.2 with ⟨h, _⟩ | ⟨g', cap', cur', h', _, hg', _, _, _, htk'⟩
        · cases h
        · cases h'
          rw [hg] at hg'; cases hg'
          rw [← htk, ← htk']
    rw [this]; exact hown') hgr hv'
  refine ⟨v', w', P, ?_, trivial, hP, hrel⟩
  have hruns : (Builtin.append_ #[t, t] T #[a.eval x, a.eval y]).run X.P w = .ok v' w' := by rw [ha.eval hx, ha.eval hy]; exact hrun
  simp [execOp, resolve, invoke, builtin, hruns]
end
end Go.SL
/- Regions that draw their order. -/
namespace Go.SL
open Go

theorem draw_stars {L : List A} {w : World} {O : Perm} (h : Stars L w O) : Stars L { w with drawn := w.drawn + 1 } O := h.loc fun _ _ => rfl
theorem draw_rel {w0 w : World} {O0 O : Perm} (h : Rel w0 O0 w O) : Rel w0 O0 { w with drawn := w.drawn + 1 } O := ⟨h.os, h.tape, h.output, h.size, h.old, h.perm, h.dom⟩

theorem ok_any {X : Cx} {k : List Item} {ops : Array Oper} {id : Nat} {a : Act} {w : World} (hm : X.P.follows .mixedOrders = true) (hnd : noDefer ops.toList = true)
    (h : wpAny X.P .any ops (Qn X k) ops.size (Array.replicate ops.size false) a { w with drawn := w.drawn + 1 }) : Ok X (.code (.region id ops true) :: k) a w := by
  intro b hb hk hro cs
  have hst := stepR_region_draw (P := X.P) (b := b) (a := a) (k := k) (cs := cs) (w := w) (ops := ops) (id := id)
  have h2 : wpOps X.P ops (Qn X k) (Region.schedule (X.P.follows .mixedOrders) ops (w.tape w.drawn (.order b.fn id))) a { w with drawn := w.drawn + 1 } := by
    simp only [Region.schedule, hm, Bool.true_or, if_true]
    exact wpAny_sound ops.size _ _ a _ h
  obtain ⟨v, w', fr, O', hR, hrel, hst', hf⟩ := ok_ops hnd _ _ _ h2 b hb hk hro cs
  exact ⟨v, w', fr, O', hR, hrel, (Steps.one hst).trans hst', hf⟩

/-- The worlds in which L holds. -/
def QC (X : Cx) (L : List A) : World → Prop := fun w => ∃ O, Stars L w O ∧ Rel X.w0 X.O0 w O
def Qops (X : Cx) (ops : Array Oper) (l : List Oper) (k : List Item) (env : Env) (L : List A) : Prop :=
  ∀ a, Holds X env a → wpQuiet X.P ops (QC X L) (fun a' => ∀ w', QC X L w' → Qn X k .normal a' w') l a

section
variable {X : Cx} {ops : Array Oper} {rest : List Oper} {kk : List Item} {env env' : Env} {L L1 : List A}
/-- A region that draws its order and only reads. -/
theorem c_quiet {id : Nat} {l : List Oper} (hm : X.P.follows .mixedOrders = true) (hB : Region.lexB .any l.toArray = true) (h : Qops X l.toArray l kk env L) (hnd : noDefer l = true := by rfl) : Cfg X (.code (.region id l.toArray true) :: kk) env L := by
  intro a w O ha hs hr
  simp only [Region.lexB, Bool.and_eq_true] at hB
  refine ok_any hm (by simpa using hnd) (wpAny_of_quiet (Q := fun a' => ∀ w', QC X L w' → Qn X kk .normal a' w') (fun _ w' hw' h => h w' hw') _ _ _ _ ⟨O, draw_stars hs, draw_rel hr⟩ ?_)
  have := wpAnyQ_lex (C := QC X L) (md := .any) hB.1 l 0 (Array.replicate l.length false) a (by simp) (by simpa using hB.2) (h a ha)
  simpa using this
theorem q_nil (h : Cfg X kk env L) : Qops X ops [] kk env L := fun a ha w' ⟨O, hs, hr⟩ => ⟨rfl, h a w' O ha hs hr⟩
theorem q_val {v : Value} {d : Nat} {op : Op} {T : TypeId} {pos : String} {af : Array Edge} (h : Val X env L op T v) (hd : d < X.fn.ntmps) (k : Qops X ops rest kk ((d, v) :: env) L) :
    Qops X ops (⟨some d, op, T, pos, af, none⟩ :: rest) kk env L := by
  intro a ha
  simp only [wpQuiet, Region.wanted, if_true]
  refine ⟨v, fun w ⟨O, hs, _⟩ => ?_, k _ (ha.put hd v)⟩
  simp only [Oper.quietAt, h (some d) pos af none a w O ha hs, Oper.quietUpon, and_self]
theorem q_call {γ : Type} {ret : γ → Value} {pu : γ → Prop} {g : FuncId} {xs : List Operand} {args : List Value} {ts : Array TypeId} {Lp : List A} {d : Nat} {T : TypeId} {pos : String} {af : Array Edge} {v : Value}
    (hc : Callable X.P g) (spec : Con X.P g args Lp ret pu fun _ => []) (hv : ∀ g, pu g → ret g = v) (hx : evalAll env xs = some args) (hd : d < X.fn.ntmps) (hp : Picks Lp L L)
    (k : Qops X ops rest kk ((d, v) :: env) L) :
    Qops X ops (⟨some d, .call ⟨.value (.func g), xs.toArray, ts⟩, T, pos, af, none⟩ :: rest) kk env L := by
  intro a ha
  simp only [wpQuiet, Region.wanted, if_true]
  refine ⟨v, fun w ⟨O, hs, hr⟩ => ?_, k _ (ha.put hd v)⟩
  have hrun : (execOp a.eval ⟨some d, .call ⟨.value (.func g), xs.toArray, ts⟩, T, pos, af, none⟩).run X.P w = .ok (.enter g args.toArray) w := by
    have h1 := ha.all hx
    have h2 : Env.eval env (.func g) = some (.func (.func g) #[] #[]) := rfl
    simp only [execOp, resolve, ha.eval h2, Deferred.ofValue, pure_bind, invoke, List.map_toArray, h1]
    have hargs : #[] ++ args.toArray ++ #[] = args.toArray := by simp
    rw [hargs]
    exact hc _ _
  simp only [Oper.quietAt, hrun, Oper.quietUpon, true_and]
  obtain ⟨O1, O2, s, h1, h2⟩ := hp.split w O hs
  refine (spec w O1 h1 (fun b hb => hr.dom b (by have := s.l b; omega))).mono ?_
  rintro e w' ⟨g, O', rfl, hpu, _, hrel⟩
  obtain ⟨s', h2', hrel'⟩ := frame hr.dom s h2 hrel
  exact ⟨by rw [hv g hpu], _, h2'.mono s'.r, hr.trans hrel'⟩
theorem q_guard {j s : Nat} {t want : Bool} {d : Option Nat} {op : Op} {T : TypeId} {pos : String} {af : Array Edge}
    (hj : (ops[j]?).bind (·.dst) = some s) (ht : env.look s = some (.bool t))
    (hy : t = want → Qops X ops (⟨d, op, T, pos, af, none⟩ :: rest) kk ((s, .bool want) :: env) L)
    (hn : t = !want → Qops X ops (⟨d, op, T, pos, af, some (j, want)⟩ :: rest) kk ((s, .bool (!want)) :: env) L) :
    Qops X ops (⟨d, op, T, pos, af, some (j, want)⟩ :: rest) kk env L := by
  intro a ha
  have hy1 : yielded ops a.tmps j = some t := by simp [yielded, hj, ha.look s _ ht]
  by_cases e : t = want
  · subst e
    have ha' : Holds X ((s, .bool t) :: env) a := ⟨ha.size, ha.defers, fun u v hu => by
      rcases Env.look_cons hu with ⟨rfl, rfl⟩ | ⟨_, hu⟩
      · exact ha.look _ _ ht
      · exact ha.look _ _ hu⟩
    have := hy rfl a ha'
    simp only [wpQuiet, Region.wanted, hy1, beq_self_eq_true, if_true] at this ⊢
    exact this
  · have e' : t = !want := by cases t <;> cases want <;> simp_all
    refine hn e' a ⟨ha.size, ha.defers, fun u v hu => ?_⟩
    rcases Env.look_cons hu with ⟨rfl, rfl⟩ | ⟨_, hu⟩
    · rw [← e']; exact ha.look _ _ ht
    · exact ha.look _ _ hu
theorem q_on {j s : Nat} {want : Bool} {d : Option Nat} {op : Op} {T : TypeId} {pos : String} {af : Array Edge}
    (hj : (ops[j]?).bind (·.dst) = some s) (ht : env.look s = some (.bool want))
    (h : Qops X ops (⟨d, op, T, pos, af, none⟩ :: rest) kk env L) : Qops X ops (⟨d, op, T, pos, af, some (j, want)⟩ :: rest) kk env L := by
  intro a ha
  have hy1 : yielded ops a.tmps j = some want := by simp [yielded, hj, ha.look s _ ht]
  have := h a ha
  simp only [wpQuiet, Region.wanted, hy1, beq_self_eq_true, if_true] at this ⊢
  exact this
theorem q_off {j s : Nat} {t want : Bool} {d : Nat} {op : Op} {T : TypeId} {pos : String} {af : Array Edge}
    (hj : (ops[j]?).bind (·.dst) = some s) (ht : env.look s = some (.bool t)) (hne : t = !want) (hd : d < X.fn.ntmps)
    (h : Qops X ops rest kk ((d, undef) :: env) L) : Qops X ops (⟨some d, op, T, pos, af, some (j, want)⟩ :: rest) kk env L := by
  intro a ha
  have hy1 : yielded ops a.tmps j = some t := by simp [yielded, hj, ha.look s _ ht]
  have hw : (some t == some want) = false := by subst hne; cases want <;> rfl
  simp only [wpQuiet, Region.wanted, hy1, hw, Bool.false_eq_true, if_false]
  exact h _ (ha.put hd _)

/-! ### a region that draws its order and writes: what only reads first -/
def Any (X : Cx) (ops : Array Oper) (S : List A) (fuel : Nat) (listed : Array Bool) (k : List Item) (env : Env) (L : List A) : Prop :=
  Kont X env L fun a w => wpAnyH X.P .any ops (Qn X k) (fun w => ∃ O, Stars S w O) fuel listed a w
theorem c_held {id : Nat} {l : List Oper} (S : List A) (hm : X.P.follows .mixedOrders = true) (h : Any X l.toArray S l.length (Array.replicate l.length false) kk env L) (hnd : noDefer l = true := by rfl) : Cfg X (.code (.region id l.toArray true) :: kk) env L := by
  intro a w O ha hs hr
  refine ok_any hm (by simpa using hnd) (wpAny_of_held (S := fun w => ∃ O, Stars S w O) _ _ _ _ ?_)
  simpa using h a _ O ha (draw_stars hs) (draw_rel hr)
theorem a_take {S : List A} {fuel : Nat} {listed : Array Bool} (i : Nat) {v : Value} {d : Nat} {op : Op} {T : TypeId} {pos : String} {af : Array Edge} (hi : ops[i]? = some ⟨some d, op, T, pos, af, none⟩) (hs : Region.noSelect ops = true)
    (hf : Region.free .any ops listed i = true) (hr : (Region.ready .any ops listed).contains i = true) (hv : Val X env S op T v) (hS : Ent L S) (hd : d < X.fn.ntmps)
    (k : Any X ops S fuel (listed.setIfInBounds i true) kk ((d, v) :: env) L) : Any X ops S (fuel + 1) listed kk env L := by
  intro a w O ha hst hrel
  exact wpAnyH_take hi hs hf hr (fun _ _ _ h => by cases h.1) (.inl ⟨rfl, fun w ⟨O, hs'⟩ => hv _ _ _ _ a w O ha hs'⟩) ⟨O, hS w O hst⟩ (k _ w O (ha.put hd v) hst hrel)
/-- The one operation that may come up. -/
theorem a_one {S : List A} {fuel : Nat} {listed : Array Bool} (i : Nat) {d : Option Nat} {op : Op} {T : TypeId} {pos : String} {af : Array Edge} (hi : ops[i]? = some ⟨d, op, T, pos, af, none⟩) (hr : Region.ready .any ops listed = [i])
    (h : StepK X kk ⟨d, op, T, pos, af, none⟩ env L fun a w => (∃ O, Stars S w O) ∧ wpAnyH X.P .any ops (Qn X kk) (fun w => ∃ O, Stars S w O) fuel (listed.setIfInBounds i true) a w) : Any X ops S (fuel + 1) listed kk env L := by
  intro a w O ha hst hrel
  refine wpAnyH_all hr (by simp) fun j hj => ?_
  obtain rfl : j = i := by simpa using hj
  simp only [wpOp, hi, Region.wanted, if_true]
  exact .inl (h a w O ha hst hrel)
/-- On. -/
theorem a_on {S : List A} {fuel : Nat} {listed : Array Bool} (hS : Ent L S) (h : Any X ops S fuel listed kk env L) : Kont X env L fun a w => (∃ O, Stars S w O) ∧ wpAnyH X.P .any ops (Qn X kk) (fun w => ∃ O, Stars S w O) fuel listed a w :=
  fun a w O ha hst hrel => ⟨⟨O, hS w O hst⟩, h a w O ha hst hrel⟩
theorem a_done {S : List A} {listed : Array Bool} (hr : Region.ready .any ops listed = []) (h : Cfg X kk env L) (fuel : Nat) : Any X ops S fuel listed kk env L :=
  fun a w O ha hst hrel => wpAnyH_done hr ⟨rfl, h a w O ha hst hrel⟩ fuel
end
end Go.SL
/- Made slices; bytes and strings; values inside a step. -/
namespace Go.SL
open Go

def eByte : Enc UInt8 := eMap (fun b => (b.toNat : Int)) (eInt .u8)
theorem eByte_rows {w : World} {O : Perm} {cs : List Value} {l : List UInt8} : Rows eByte w O cs l ↔ cs = l.map fun b => .int .u8 b.toNat := by
  induction l generalizing cs with
  | nil => simp [Rows]
  | cons b l ih =>
    simp only [Rows, List.map_cons]
    constructor
    · rintro ⟨c1, c2, rfl, h1, h2⟩
      rw [ih] at h2
      have h1' : c1 = [.int .u8 b.toNat] := h1
      rw [h1', h2]; rfl
    · rintro rfl
      exact ⟨[.int .u8 b.toNat], _, rfl, rfl, ih.2 rfl⟩

section
variable {K : Act → World → Prop} {X : Cx} {ops : Array Oper} {rest : List Oper} {kk : List Item} {env : Env} {L L1 L2 : List A} {d : Nat} {T : TypeId} {pos : String} {af : Array Edge} {x y : Operand}
variable {α : Type} {e : Enc α} {v u : Value} {zs ys : List α} {E : TypeId}

theorem s_val {v : Value} {op : Op} (h : Val X env L op T v) (hd : d < X.fn.ntmps) (k : Kont X ((d, v) :: env) L K) : StepK X kk ⟨some d, op, T, pos, af, none⟩ env L K :=
  s_main (γ := Unit) (V := fun _ => v) (pu := fun _ => True) (L' := fun _ => L) (fun a w O ha hs hdom => ⟨(), w, O, h _ _ _ _ a w O ha hs, trivial, hs, Rel.refl hdom⟩) hd (fun _ _ => k)

theorem v_conv_bytes {sT dT : TypeId} {l : List UInt8} (hs : X.P.underlying sT = some (.slice E)) (he : X.P.underlying E = some (.int .u8)) (hu : X.P.underlying dT = some .string) (hx : env.eval x = some v) (hl : Has L (Sl eByte v l)) :
    Val X env L (.convert sT dT x) T (.string ⟨l.toArray⟩) :=
  fun _ _ _ _ a w O ha hst => by
    obtain ⟨a0, cap, rfl, _, _, h3⟩ := hl w O hst
    have hrun : (convert sT dT (.slice a0 l.length cap)).run X.P w = .ok (.string ⟨l.toArray⟩) w := by
      rcases h3 with ⟨_, rfl⟩ | ⟨b, off, cs, rfl, _, hr, hc⟩
      · cases a0 with
        | some a => simp [convert, run_underlying hs, run_underlying hu, run_underlying he, loadCells, loadCellsFrom, Conv.bytesToString]; rfl
        | none =>
        rw [List.length_nil, run_convert_bytes_nil w sT E hs he]
        · rfl
        · exact hu
      · rw [eByte_rows] at hr
        subst hr
        rw [run_convert_bytes_arg w sT E hs he b off l.length cap (l.map fun b => (b.toNat : Int)) (by simp) ?_ dT hu]
        · congr 2
          simp [strOfNums, Function.comp_def]
        · intro i hi
          refine hc i _ ?_
          simp [hi]
    simp [execOp, ha.eval hx, hrun]

theorem o_guard_t {j s : Nat} {p : Prop} [Decidable p] {d : Option Nat} {op : Op} (hj : (ops[j]?).bind (·.dst) = some s) (ht : env.look s = some (.bool (decide p)))
    (hy : p → Ops X ops (⟨d, op, T, pos, af, none⟩ :: rest) kk ((s, .bool true) :: env) L)
    (hn : ¬ p → Ops X ops (⟨d, op, T, pos, af, some (j, true)⟩ :: rest) kk ((s, .bool false) :: env) L) : Ops X ops (⟨d, op, T, pos, af, some (j, true)⟩ :: rest) kk env L :=
  o_guard hj ht (fun h => hy (of_decide_eq_true h)) (fun h => hn (of_decide_eq_false h))
theorem o_guard_f {j s : Nat} {p : Prop} [Decidable p] {d : Option Nat} {op : Op} (hj : (ops[j]?).bind (·.dst) = some s) (ht : env.look s = some (.bool (decide p)))
    (hy : ¬ p → Ops X ops (⟨d, op, T, pos, af, none⟩ :: rest) kk ((s, .bool false) :: env) L)
    (hn : p → Ops X ops (⟨d, op, T, pos, af, some (j, false)⟩ :: rest) kk ((s, .bool true) :: env) L) : Ops X ops (⟨d, op, T, pos, af, some (j, false)⟩ :: rest) kk env L :=
  o_guard hj ht (fun h => hy (of_decide_eq_false h)) (fun h => hn (of_decide_eq_true h))
theorem q_guard_t {j s : Nat} {p : Prop} [Decidable p] {d : Option Nat} {op : Op} (hj : (ops[j]?).bind (·.dst) = some s) (ht : env.look s = some (.bool (decide p)))
    (hy : p → Qops X ops (⟨d, op, T, pos, af, none⟩ :: rest) kk ((s, .bool true) :: env) L)
    (hn : ¬ p → Qops X ops (⟨d, op, T, pos, af, some (j, true)⟩ :: rest) kk ((s, .bool false) :: env) L) : Qops X ops (⟨d, op, T, pos, af, some (j, true)⟩ :: rest) kk env L :=
  q_guard hj ht (fun h => hy (of_decide_eq_true h)) (fun h => hn (of_decide_eq_false h))
theorem q_guard_f {j s : Nat} {p : Prop} [Decidable p] {d : Option Nat} {op : Op} (hj : (ops[j]?).bind (·.dst) = some s) (ht : env.look s = some (.bool (decide p)))
    (hy : ¬ p → Qops X ops (⟨d, op, T, pos, af, none⟩ :: rest) kk ((s, .bool false) :: env) L)
    (hn : p → Qops X ops (⟨d, op, T, pos, af, some (j, false)⟩ :: rest) kk ((s, .bool true) :: env) L) : Qops X ops (⟨d, op, T, pos, af, some (j, false)⟩ :: rest) kk env L :=
  q_guard hj ht (fun h => hy (of_decide_eq_false h)) (fun h => hn (of_decide_eq_true h))

/-! ### slices that are written out -/
theorem fold_set (off : Nat) : ∀ (l : List Value) (k : Nat) (cells : Array Value), off + k + l.length ≤ cells.size →
    (l.zipIdx k).foldl (fun cs (x : Value × Nat) => cs.setIfInBounds (off + x.2) x.1) cells = (cells.toList.take (off + k) ++ l ++ cells.toList.drop (off + k + l.length)).toArray := by
  intro l
  induction l with
  | nil => intro k cells h; simp
  | cons c l ih =>
    intro k cells h
    simp only [List.length_cons] at h
    rw [List.zipIdx_cons, List.foldl_cons, ih (k + 1) _ (by simp; omega)]
    obtain ⟨C⟩ := cells
    simp only [List.size_toArray] at h
    have hlt : off + k < C.length := by omega
    congr 1
    simp only [List.setIfInBounds_toArray]
    rw [show off + (k + 1) = (off + k) + 1 by omega, List.drop_set_of_lt (by omega)]
    have h1 : (C.set (off + k) c).take (off + k + 1) = C.take (off + k) ++ [c] := by
      rw [List.take_succ_eq_append_getElem (by simpa using hlt), List.take_set_of_le (by omega)]
      simp
    rw [h1, List.length_cons, show off + k + 1 + l.length = off + k + (l.length + 1) by omega]
    simp
theorem fill_row (size : Nat) : ∀ (vs : List Value) (i : Nat) (cells : Array Value), (∀ v ∈ vs, v.cells.size = size) → cells.size = (i + vs.length) * size →
    Instr.fill (fun i => some (i * size, size)) cells ((vs.zipIdx i).map fun (x : Value × Nat) => (x.2, x.1)) = some (cells.toList.take (i * size) ++ (vs.map (fun u : Value => u.cells.toList)).flatten).toArray := by
  intro vs
  induction vs with
  | nil => intro i cells _ h; simp [Instr.fill]; rw [List.take_of_length_le (by simp [h])]
  | cons v vs ih =>
    intro i cells hv h
    have hsz := hv v List.mem_cons_self
    simp only [List.length_cons] at h
    have hle : i * size + size ≤ cells.size := by rw [h, Nat.add_mul, Nat.add_mul]; omega
    simp only [List.zipIdx_cons, List.map_cons, Instr.fill]
    rw [if_neg (by simp [hsz]; omega)]
    have hf := fold_set (i * size) v.cells.toList 0 cells (by simp [hsz]; omega)
    have e1 : (cells.toList.take (i * size)).length = i * size := by rw [List.length_take, Array.length_toList]; omega
    have e2 : v.cells.toList.length = size := by simp [hsz]
    have hcon : (v.cells.zipIdx.foldl (fun cs (x : Value × Nat) => cs.setIfInBounds (i * size + x.2) x.1) cells) = (cells.toList.take (i * size) ++ v.cells.toList ++ cells.toList.drop (i * size + size)).toArray := by
      rw [← Array.foldl_toList]
      simpa [hsz] using hf
    have hlen : ((cells.toList.take (i * size) ++ v.cells.toList ++ cells.toList.drop (i * size + size)).toArray).size = (i + 1 + vs.length) * size := by
      rw [List.size_toArray, List.length_append, List.length_append, e1, e2, List.length_drop, Array.length_toList, h]
      simp only [Nat.add_mul]; omega
    rw [hcon, ih (i + 1) _ (fun u hu => hv u (List.mem_cons_of_mem _ hu)) hlen]
    congr 2
    simp only [List.flatten_cons]
    rw [List.take_left' (by rw [List.length_append, e1, e2, Nat.add_mul]; omega), List.append_assoc]
/-- The values of a slice that is written out, in order. -/
def partsOf (env : Env) : Nat → List (Nat × Operand) → Option (List Value)
  | _, [] => some []
  | i, (j, x) :: ps => if i = j then match env.eval x, partsOf env (i + 1) ps with
      | some v, some vs => some (v :: vs)
      | _, _ => none
    else none
theorem partsOf_map {X : Cx} {env : Env} {a : Act} (ha : Holds X env a) : ∀ {ps : List (Nat × Operand)} {i : Nat} {vs : List Value}, partsOf env i ps = some vs → ps.map (fun (x : Nat × Operand) => (x.1, a.eval x.2)) = (vs.zipIdx i).map fun (x : Value × Nat) => (x.2, x.1) := by
  intro ps
  induction ps with
  | nil => intro i vs h; simp [partsOf] at h; simp [h]
  | cons p ps ih =>
    obtain ⟨j, x⟩ := p
    intro i vs h
    unfold partsOf at h
    split at h
    · rename_i hij
      subst hij
      split at h
      · rename_i v vs' h1 h2
        cases h
        simp only [List.map_cons, List.zipIdx_cons, ha.eval h1, ih h2]
      · cases h
    · cases h
/-- What such a slice's values read as. -/
def RowsA {α : Type} (e : Enc α) (vs : List Value) (xs : List α) : A := ⟨fun w O => Rows e w O (vs.map (fun u : Value => u.cells.toList)).flatten xs ∧ ∀ v ∈ vs, v.cells.size = e.n, fun h hO => ⟨h.1.mono hO, h.2⟩, fun h hw => ⟨h.1.loc hw, h.2⟩⟩
theorem RowsA.isDup {α : Type} (e : Enc α) (vs : List Value) (xs : List α) : (RowsA e vs xs).Dup := fun _ _ h => ⟨h.1.dup, h.2⟩
theorem Beside.pure {a : A} {L : List A} (h : ∀ w, a.h w fun _ => 0) : Beside a L := fun w O hs =>
  ⟨fun _ => 0, O, ⟨fun b => Nat.zero_le _, fun b => Nat.le_refl _, fun b h => by omega, fun b h => rfl⟩, h w, hs⟩
theorem run_buildSlice {P : Program} {t : TypeId} {z : Value} {n nb : Nat} {w : World} (hu : P.underlying t = some (.slice E)) (hE : TI P E z n nb) (hzs : z.cells.size = n) {vs : List Value} (hv : ∀ v ∈ vs, v.cells.size = n) (hn : vs.length * n ≤ 16777216) {parts : Array (Nat × Value)}
    (hp : parts.toList = (vs.zipIdx 0).map fun (x : Value × Nat) => (x.2, x.1)) :
    (Instr.buildSlice t vs.length parts).run P w = .ok (.slice (some ⟨w.heap.size, 0, none⟩) vs.length vs.length) (w.alloc (.cells (vs.map (fun u : Value => u.cells.toList)).flatten.toArray E)) := by
  obtain ⟨i, hi, hz, hsz, _⟩ := hE
  have hfill := fill_row n vs 0 ((Array.range (vs.length * n)).map (z.cells[· % z.cells.size]!)) hv (by simp)
  have hfill0 := fill_row n vs 0 ((Array.range (vs.length * n)).map ((#[] : Array Value)[· % (#[] : Array Value).size]!)) hv (by simp)
  simp only [Nat.zero_mul, List.take_zero, List.nil_append] at hfill hfill0
  have hne : ¬ (vs.length * n > 2 ^ 24) := by omega
  by_cases h0 : vs.length * n = 0
  · simp [Instr.buildSlice, run_underlying hu, sizeOf, typeInfo, hi, hsz, hp, h0, newRow, newObj, Sem.run]
    rw [h0] at hfill0
    simp at hfill0
    simp [hfill0, Sem.run]
  · simp [Instr.buildSlice, run_underlying hu, sizeOf, typeInfo, hi, hsz, hp, h0, hne, zeroValue, hz, newRow, newObj, Sem.run]
    simp [hfill, Sem.run]
theorem s_buildSlice {t : TypeId} {z : Value} {nb n sz : Nat} {parts : List (Nat × Operand)} {vs : List Value} (hu : X.P.underlying t = some (.slice E)) (hE : TI X.P E z sz nb) (hzs : z.cells.size = sz) (hp : partsOf env 0 parts = some vs) (hn : vs.length = n)
    (hn2 : n * sz ≤ 16777216) (hn3 : n ≤ 16777216) (hb : Beside (RowsA e vs zs) L) (hlen : zs.length = n) (hsz0 : e.n = sz) (hd : d < X.fn.ntmps)
    (k : ∀ u, Kont X ((d, u) :: env) (Own e E u zs :: L) K) : StepK X kk ⟨some d, .buildSlice t n parts.toArray, T, pos, af, none⟩ env L K := by
  subst hsz0
  refine s_main (γ := Value) (V := fun u => u) (pu := fun _ => True) (L' := fun u => Own e E u zs :: L) ?_ hd (fun u _ => k u)
  intro a w O ha hst hdom
  obtain ⟨O1, O2, s, ⟨hr, hv⟩, hs2⟩ := hb w O hst
  subst hn
  have hrun := run_buildSlice (P := X.P) (w := w) (t := t) (E := E) hu hE hzs hv hn2 (parts := (parts.map fun (x : Nat × Operand) => (x.1, a.eval x.2)).toArray) (by simpa using partsOf_map ha hp)
  have hl : (vs.map (fun u : Value => u.cells.toList)).flatten.length = vs.length * e.n := by rw [← hlen]; exact hr.length
  have hO1 : O1 w.heap.size = 0 := by have := dom_zero hdom; have := s.l w.heap.size; omega
  refine ⟨.slice (some ⟨w.heap.size, 0, none⟩) vs.length vs.length, w.alloc (.cells (vs.map (fun u : Value => u.cells.toList)).flatten.toArray E), fresh w O, by simp [execOp, hrun], trivial, ?_, rel_alloc _ hdom⟩
  refine ⟨fun b => if b = w.heap.size then 2 else min (O1 b) 1, O2, ⟨fun b => ?_, fun b => ?_, fun b hb => ?_, fun b hb => ?_⟩, ?_, hs2.loc fun b hb => ?_⟩
  · have := s.l b; have := Nat.min_le_left (O1 b) 1
    show (if _ then _ else _) ≤ (if _ then _ else _)
    split
    · exact Nat.le_refl _
    · exact Nat.le_trans (Nat.min_le_left _ _) (s.l b)
  · have := s.r b
    show _ ≤ (if _ then _ else _)
    split
    · rename_i h; have h2 := dom_zero hdom; rw [← h] at h2; omega
    · exact this
  · by_cases h : b = w.heap.size
    · have h2 := dom_zero hdom; have := s.r b; rw [← h] at h2; omega
    · have hb' : 2 ≤ (if b = w.heap.size then 2 else min (O1 b) 1) := hb
      have := Nat.min_le_right (O1 b) 1
      rw [if_neg h] at hb'; omega
  · show (if _ then _ else _) = 0
    have := s.rl b hb; have := Nat.min_le_left (O1 b) 1
    split
    · rename_i h; have h2 := dom_zero hdom; have := s.r b; rw [← h] at h2; omega
    · exact Nat.le_antisymm (Nat.le_trans (Nat.min_le_left _ _) (Nat.le_of_eq (s.rl b hb))) (Nat.zero_le _)
  · refine ⟨fun b => if b = w.heap.size then 2 else 0, fun b => min (O1 b) 1, (vs.map (fun u : Value => u.cells.toList)).flatten, ⟨fun b => ?_, fun b => ?_, fun b hb => ?_, fun b hb => ?_⟩, ?_, fun k hk => ?_, ?_⟩
    · show (if _ then _ else _) ≤ (if _ then _ else _); split <;> omega
    · have := Nat.min_le_right (O1 b) 1; show _ ≤ (if _ then _ else _); split
      · omega
      · exact Nat.le_refl _
    · by_cases h : b = w.heap.size
      · rw [h, hO1]; rfl
      · have hb' : 2 ≤ (if b = w.heap.size then 2 else 0) := hb
        rw [if_neg h] at hb'; omega
    · have : 2 ≤ min (O1 b) 1 := hb; have := Nat.min_le_right (O1 b) 1; omega
    · rw [hlen]
      exact World.ownsRow_lit w (vs.map (fun u : Value => u.cells.toList)).flatten.toArray vs.length (Nat.zero_le _) (by simp only [maxLen]; omega) (by simpa using hl)
    · simp only [Value.ownBlock, Option.some.injEq] at hk
      subst hk; simp
    · refine (hr.dup).loc fun b hb => ?_
      have hb' : O1 b ≠ 0 := by intro h; apply hb; show min (O1 b) 1 = 0; have := Nat.min_le_left (O1 b) 1; omega
      have := hdom b (by have := s.l b; omega)
      show (w.heap.push _)[b]? = _
      rw [Array.getElem?_push, if_neg (by omega)]
  · have := hdom b (by have := s.r b; omega)
    show (w.heap.push _)[b]? = _
    rw [Array.getElem?_push, if_neg (by omega)]
theorem Pick.own_sl {α : Type} {e : Enc α} {T : TypeId} {v : Value} {xs : List α} {L : List A} : Pick (Sl e v xs) (Own e T v xs :: L) L := Pick.of Pick.here fun _ _ h => Own.sl h
theorem rows_scalar {α : Type} {e : Enc α} {f : α → Value} (hf : ∀ w O x, e.rd w O [f x] x) (hc : ∀ x, (f x).cells = #[f x]) (w : World) (O : Perm) : ∀ xs : List α, Rows e w O ((xs.map f).map (fun u : Value => u.cells.toList)).flatten xs
  | [] => rfl
  | x :: xs => ⟨[f x], _, by simp [hc], hf w O x, rows_scalar hf hc w O xs⟩
theorem beside_scalar {α : Type} {e : Enc α} {f : α → Value} {L : List A} (h1 : e.n = 1) (hf : ∀ w O x, e.rd w O [f x] x) (hc : ∀ x, (f x).cells = #[f x]) (xs : List α) : Beside (RowsA e (xs.map f) xs) L :=
  Beside.pure fun w => ⟨rows_scalar hf hc w _ xs, fun v hv => by
    obtain ⟨x, _, rfl⟩ := List.mem_map.1 hv
    rw [hc, h1]; rfl⟩
theorem beside_str {L : List A} (xs : List ByteArray) : Beside (RowsA eStr (xs.map .string) xs) L := beside_scalar rfl (fun _ _ _ => rfl) (fun _ => rfl) xs
theorem beside_int {L : List A} (k : IntKind) (xs : List Int) : Beside (RowsA (eInt k) (xs.map (.int k)) xs) L := beside_scalar rfl (fun _ _ _ => rfl) (fun _ => rfl) xs
theorem beside_byte {L : List A} (xs : List UInt8) : Beside (RowsA eByte (xs.map fun b => .int .u8 b.toNat) xs) L := beside_scalar rfl (fun _ _ _ => rfl) (fun _ => rfl) xs
end
theorem sAt_nat (s : ByteArray) (k : Nat) (h : k < s.size) : sAt s (k : Int) = ((s.data.toList[k]'(by rw [← Lib.size_eq]; exact h)).toNat : Int) := by
  simp only [sAt, Int.toNat_natCast, List.getD_eq_getElem?_getD]
  rw [List.getElem?_eq_getElem (by rw [← Lib.size_eq]; exact h)]; rfl
theorem byte_of {b : UInt8} {n : Nat} (h : ((b.toNat : Nat) : Int) = (n : Int)) (hn : n < 256) : b = UInt8.ofNat n := by
  have : b.toNat = n := by omega
  rw [← this]; simp
end Go.SL
/- Cuts with explicit values; slices that may be appended to without being owned (their capacity is their length). -/
namespace Go.SL
open Go

section
variable {K : Act → World → Prop} {X : Cx} {ops : Array Oper} {rest : List Oper} {kk : List Item} {env : Env} {L L1 L2 : List A} {d : Nat} {T : TypeId} {pos : String} {af : Array Edge} {x y : Operand}
variable {α : Type} {e : Enc α} {v u : Value} {zs ys : List α} {E : TypeId}

def cutV (a0 : Option Addr) (l h c n : Nat) : Value := .slice (if c = l then a0 else a0.map (·.add (l * n))) (h - l) (c - l)
theorem v_slice {t : TypeId} {z0 : Value} {bt n len cap : Nat} {a0 : Option Addr} {lo hi mx : Option Operand} {l h c : Nat} (hu : X.P.underlying t = some (.slice E)) (hE : TI X.P E z0 n bt) (hx : env.eval x = some (.slice a0 len cap))
    (hlo : (lo = none ∧ l = 0) ∨ ∃ o K n, lo = some o ∧ env.eval o = some (.int K n) ∧ 0 ≤ n ∧ n.toNat = l)
    (hhi : (hi = none ∧ h = len ∧ mx = none) ∨ ∃ o K n, hi = some o ∧ env.eval o = some (.int K n) ∧ 0 ≤ n ∧ n.toNat = h)
    (hmx : (mx = none ∧ c = cap) ∨ ∃ o K n, mx = some o ∧ env.eval o = some (.int K n) ∧ 0 ≤ n ∧ n.toNat = c)
    (h1 : l ≤ h) (h2 : h ≤ c) (h3 : c ≤ cap) :
    Val X env L (.slice t x lo hi mx) T (cutV a0 l h c n) := by
  intro _ _ _ _ a w O ha _
  obtain ⟨ti, hi', _, hsz, _⟩ := hE
  have hbl : ∀ {o : Operand} {K : IntKind} {n : Int} {m : Nat} {c : BoundsCode}, env.eval o = some (.int K n) → 0 ≤ n → n.toNat ≤ m → (Instr.sliceBound (a.eval o) m c).run X.P w = .ok n.toNat w := by
    intro o K n m c ho h0 hm
    rw [ha.eval ho, run_sliceBound (w := w) K n m c h0 (by omega)]
  have hbd : (Instr.sliceBounds true len cap (lo.map a.eval) (hi.map a.eval) (mx.map a.eval)).run X.P w = .ok (l, h, c) w := by
    rcases hmx with ⟨rfl, rfl⟩ | ⟨o3, K3, n3, rfl, ho3, hn3, rfl⟩
    · rcases hlo with ⟨rfl, rfl⟩ | ⟨o1, K1, n1, rfl, ho1, hn1, rfl⟩ <;> rcases hhi with ⟨rfl, rfl, _⟩ | ⟨o2, K2, n2, rfl, ho2, hn2, rfl⟩
      · simp [Instr.sliceBounds]
      · simp [Instr.sliceBounds, hbl (m := c) (c := .sliceAcap) ho2 hn2 (by omega)]
      · simp [Instr.sliceBounds, hbl (m := h) (c := .sliceB) ho1 hn1 (by omega)]
      · simp [Instr.sliceBounds, hbl (m := c) (c := .sliceAcap) ho2 hn2 (by omega), hbl (m := n2.toNat) (c := .sliceB) ho1 hn1 (by omega)]
    · rcases hhi with ⟨_, _, h⟩ | ⟨o2, K2, n2, rfl, ho2, hn2, rfl⟩
      · cases h
      · rcases hlo with ⟨rfl, rfl⟩ | ⟨o1, K1, n1, rfl, ho1, hn1, rfl⟩
        · simp [Instr.sliceBounds, hbl (m := cap) (c := .slice3Acap) ho3 hn3 (by omega), hbl (m := n3.toNat) (c := .slice3B) ho2 hn2 (by omega)]
        · simp [Instr.sliceBounds, hbl (m := cap) (c := .slice3Acap) ho3 hn3 (by omega), hbl (m := n3.toNat) (c := .slice3B) ho2 hn2 (by omega), hbl (m := n2.toNat) (c := .slice3C) ho1 hn1 (by omega)]
  have hst : (Instr.sliceAt t (.slice a0 len cap) (lo.map a.eval) (hi.map a.eval) (mx.map a.eval)).run X.P w = .ok (cutV a0 l h c n) w := by
    simp [Instr.sliceAt, Instr.slice, run_underlying hu, hbd, sizeOf, typeInfo, hi', hsz, cutV]
  simp [execOp, ha.eval hx, hst]

theorem Sl.cutV {w : World} {O : Perm} {a0 : Option Addr} {cap lo hi c : Nat} (h : (Sl e (.slice a0 zs.length cap) zs).h w O) (h1 : lo ≤ hi) (h2 : hi ≤ zs.length) (h3 : hi ≤ c) (h4 : c ≤ cap) :
    (Sl e (cutV a0 lo hi c e.n) ((zs.take hi).drop lo)).h w O := SlP.cut h h1 h2 h3 h4
/-- A slice's explicit form. -/
theorem Sl.form {w : World} {O : Perm} (h : (Sl e v zs).h w O) : ∃ a0 cap, v = .slice a0 zs.length cap ∧ zs.length ≤ cap ∧ cap ≤ maxLen := by
  obtain ⟨a0, cap, hv, h1, h2, _⟩ := h
  exact ⟨a0, cap, hv, h1, h2⟩

/-- What may be appended to: a row of one's own, or one whose capacity is its length. -/
def Apd {α : Type} (e : Enc α) (T : TypeId) (v : Value) (xs : List α) : A where
  h := fun w O => (Own e T v xs).h w O ∨ ∃ a, v = .slice a xs.length xs.length ∧ SlP e w O v xs
  mono := fun h hO => h.imp (fun h => (Own e T v xs).mono h hO) (fun ⟨a, h1, h2⟩ => ⟨a, h1, h2.mono hO⟩)
  loc := fun h hw => h.imp (fun h => (Own e T v xs).loc h hw) (fun ⟨a, h1, h2⟩ => ⟨a, h1, h2.loc hw⟩)
theorem Apd.sl {w : World} {O : Perm} (h : (Apd e E v zs).h w O) : (Sl e v zs).h w O := by
  rcases h with h | ⟨_, _, h⟩
  · exact Own.sl h
  · exact h
theorem Own.apd {w : World} {O : Perm} (h : (Own e E v zs).h w O) : (Apd e E v zs).h w O := .inl h
theorem Has.sl_apd {α : Type} {e : Enc α} {T : TypeId} {v : Value} {xs : List α} {L : List A} : Has (Apd e T v xs :: L) (Sl e v xs) := Has.here.imp fun _ _ h => Apd.sl h

/-- A new row behind an append to what is not owned. -/
theorem tight_grow {w w' : World} {O O1 O2 O3 O4 : Perm} {v' : Value} {c0 cs' : List Value} {a' : A} (hdom : ∀ b, O b ≠ 0 → b < w.heap.size) (s : Split O O1 O2) (hO : Rows e w (fun b => min (O1 b) 1) c0 zs)
    (s3 : Split O2 O3 O4) (hsl : a'.h w (fun b => min (O3 b) 1)) (hs4 : Stars L2 w O4) (hr : Rows e w (fun b => min (O3 b) 1) cs' ys)
    (hrow : w'.ownsRow w.heap.size E e.n v' (zs.length + ys.length) (c0 ++ cs')) (hg : w.grownBy w' none) :
    ∃ P, Stars (Own e E v' (zs ++ ys) :: a' :: L2) w' P ∧ Rel w O w' P := by
  have hblk : ∀ b, v'.ownBlock = some b → b < w'.heap.size ∧ w.heap.size ≤ b := by
    intro b hb
    rcases hrow.2 with ⟨rfl, _⟩ | ⟨g, cap, cur, rfl, hbase, hgg, _⟩
    · simp [Value.ownBlock] at hb
    · simp only [Value.ownBlock, Option.some.injEq] at hb
      subst hb
      refine ⟨?_, hbase⟩
      rcases Nat.lt_or_ge g w'.heap.size with h | h
      · exact h
      · rw [Array.getElem?_eq_none h] at hgg; cases hgg
  have hold : ∀ b, b < w.heap.size → w'.heap[b]? = w.heap[b]? := fun b hb => hg.block b hb (by simp)
  have d1 : ∀ b, O1 b ≠ 0 → b < w.heap.size := fun b hb => hdom b (by have := s.l b; omega)
  have d2 : ∀ b, O2 b ≠ 0 → b < w.heap.size := fun b hb => hdom b (by have := s.r b; omega)
  have d3 : ∀ b, O3 b ≠ 0 → b < w.heap.size := fun b hb => d2 b (by have := s3.l b; omega)
  have d4 : ∀ b, O4 b ≠ 0 → b < w.heap.size := fun b hb => d2 b (by have := s3.r b; omega)
  have n1 : ∀ b, min (O1 b) 1 ≠ 0 → b < w.heap.size := fun b hb => d1 b (by intro h; rw [h] at hb; exact hb rfl)
  have n3 : ∀ b, min (O3 b) 1 ≠ 0 → b < w.heap.size := fun b hb => d3 b (by intro h; rw [h] at hb; exact hb rfl)
  have hr1 : Rows e w' (fun b => max (min (O1 b) 1) (min (O3 b) 1)) c0 zs := (hO.loc fun b hb => hold b (n1 b hb)).mono fun b => Nat.le_max_left _ _
  have hr2 : Rows e w' (fun b => max (min (O1 b) 1) (min (O3 b) 1)) cs' ys := (hr.loc fun b hb => hold b (n3 b hb)).mono fun b => Nat.le_max_right _ _
  have hlen : (zs ++ ys).length = zs.length + ys.length := List.length_append
  have hrow0 : w'.ownsRow 0 E e.n v' (zs ++ ys).length (c0 ++ cs') := by
    rw [hlen]; exact ⟨hrow.1, hrow.2.imp id fun ⟨g, cap, cur, e1, _, r⟩ => ⟨g, cap, cur, e1, Nat.zero_le _, r⟩⟩
  let NB : Perm := fun b => if v'.ownBlock = some b then 2 else 0
  have nb : ∀ b, NB b = if v'.ownBlock = some b then 2 else 0 := fun _ => rfl
  have nbo : ∀ b, b < w.heap.size → NB b = 0 := fun b hb => by
    rw [nb]
    by_cases h : v'.ownBlock = some b
    · have := (hblk b h).2; omega
    · rw [if_neg h]
  have m1 : ∀ b, min (O1 b) 1 ≤ O1 b := fun b => Nat.min_le_left _ _
  have m1' : ∀ b, min (O1 b) 1 ≤ 1 := fun b => Nat.min_le_right _ _
  have m3 : ∀ b, min (O3 b) 1 ≤ O3 b := fun b => Nat.min_le_left _ _
  have m3' : ∀ b, min (O3 b) 1 ≤ 1 := fun b => Nat.min_le_right _ _
  have hown : (Own e E v' (zs ++ ys)).h w' (fun b => max (NB b) (max (min (O1 b) 1) (min (O3 b) 1))) := by
    refine Own.of_row hrow0 (hr1.append hr2) (fun b hb => ?_) (fun b => ?_) (fun b => ?_) (fun b hb => ?_)
    · have h := (hblk b hb).2
      have h1 : min (O1 b) 1 = 0 := by
        rcases Nat.eq_zero_or_pos (min (O1 b) 1) with h0 | h0
        · exact h0
        · have := n1 b (by omega); omega
      have h3 : min (O3 b) 1 = 0 := by
        rcases Nat.eq_zero_or_pos (min (O3 b) 1) with h0 | h0
        · exact h0
        · have := n3 b (by omega); omega
      show max _ _ = 0; rw [h1, h3]; rfl
    · exact Nat.max_le.2 ⟨m1' b, m3' b⟩
    · exact Nat.le_max_right _ _
    · show 2 ≤ max _ _
      have : NB b = 2 := by rw [nb, if_pos hb]
      rw [this]; exact Nat.le_max_left _ _
  have hrel : Rel w O w' (fun b => max (NB b) (O b)) := by
    refine ⟨hg.os, hg.tape, hg.output, hg.size, fun b hb _ => hold b hb, fun b hb => ?_, fun b hb => ?_⟩
    · show max _ _ ≤ _; rw [nbo b hb]; omega
    · by_cases h : v'.ownBlock = some b
      · exact (hblk b h).1
      · have hb' : max (NB b) (O b) ≠ 0 := hb
        rw [nb, if_neg h] at hb'
        have := hdom b (by omega); have := hg.size; omega
  refine ⟨_, ⟨fun b => max (NB b) (max (min (O1 b) 1) (min (O3 b) 1)), fun b => max (min (O3 b) 1) (O4 b), ⟨fun b => ?_, fun b => ?_, fun b hb => ?_, fun b hb => ?_⟩, hown, fun b => min (O3 b) 1, O4, ⟨fun b => ?_, fun b => ?_, fun b hb => ?_, fun b hb => ?_⟩, a'.loc hsl fun b hb => hold b (n3 b hb), hs4.loc fun b hb => hold b (d4 b hb)⟩, hrel⟩
  · have := s.l b; have := s.r b; have := s3.l b; have := m1 b; have := m3 b
    show max _ (max _ _) ≤ max _ _
    refine Nat.max_le.2 ⟨Nat.le_max_left _ _, Nat.max_le.2 ⟨Nat.le_trans ?_ (Nat.le_max_right _ _), Nat.le_trans ?_ (Nat.le_max_right _ _)⟩⟩ <;> omega
  · have := s.r b; have := s3.l b; have := s3.r b; have := m3 b
    show max _ _ ≤ max _ _
    refine Nat.max_le.2 ⟨Nat.le_trans ?_ (Nat.le_max_right _ _), Nat.le_trans ?_ (Nat.le_max_right _ _)⟩ <;> omega
  · have h1 : v'.ownBlock = some b := by
      by_cases h : v'.ownBlock = some b
      · exact h
      · have hb' : 2 ≤ max (NB b) (max (min (O1 b) 1) (min (O3 b) 1)) := hb
        rw [nb, if_neg h] at hb'
        have := m1' b; have := m3' b
        have : max (min (O1 b) 1) (min (O3 b) 1) ≤ 1 := Nat.max_le.2 ⟨m1' b, m3' b⟩
        omega
    have h2 := (hblk b h1).2
    have h3 : min (O3 b) 1 = 0 := by
      rcases Nat.eq_zero_or_pos (min (O3 b) 1) with h0 | h0
      · exact h0
      · have := n3 b (by omega); omega
    have h4 : O4 b = 0 := by
      rcases Nat.eq_zero_or_pos (O4 b) with h0 | h0
      · exact h0
      · have := d4 b (by omega); omega
    show max _ _ = 0; rw [h3, h4]; rfl
  · have h1 : 2 ≤ O4 b := by
      have hb' : 2 ≤ max (min (O3 b) 1) (O4 b) := hb
      have := m3' b
      omega
    have h2 := s3.rl b h1
    have h3 := s3.r b
    have h4 := s.rl b (by omega)
    have h5 := nbo b (d4 b (by omega))
    show max _ (max _ _) = 0
    rw [h2, h4, h5]; rfl
  · exact Nat.le_max_left _ _
  · exact Nat.le_max_right _ _
  · have h' : 2 ≤ min (O3 b) 1 := hb; have := m3' b; omega
  · have h1 := s3.rl b hb
    show min _ _ = 0; rw [h1]; rfl

theorem add_off (b off j : Nat) : (⟨b, off, none⟩ : Addr).add j = ⟨b, off + j, none⟩ := by
  unfold Addr.add; split
  · rename_i h; rw [h, Nat.add_zero]
  · rfl
/-- append(x, y...) of what may be appended to. -/
theorem s_append_apd {t : TypeId} {z : Value} {nb sz : Nat} (hu : X.P.underlying t = some (.slice E)) (hE : TI X.P E z sz nb) (hzs : z.cells.size = sz) (hn : 0 < sz)
    (hx : env.eval x = some v) (hy : env.eval y = some u) (hd : d < X.fn.ntmps) (hp : Pick (Apd e E v zs) L L1) (hq : Pick (Sl e u ys) L1 L2) (hsz0 : e.n = sz) (hb : (zs.length + ys.length) * nb ≤ 140737488355328)
    (hb2 : zs.length + ys.length ≤ maxLen)
    (k : ∀ v', Kont X ((d, v') :: env) (Apd e E v' (zs ++ ys) :: Sl e u ys :: L2) K) :
    StepK X kk ⟨some d, .call ⟨.builtin .append, #[x, y], #[t, t]⟩, T, pos, af, none⟩ env L K := by
  subst hsz0
  intro a w O ha hst hrel
  obtain ⟨O1, O2, s, hO, hs2⟩ := hp w O hst
  rcases hO with hO | ⟨a1, rfl, hO⟩
  · have h1 : Stars (Own e E v zs :: L1) w O := ⟨O1, O2, s, hO, hs2⟩
    have := s_append (K := K) (X := X) (kk := kk) (T := T) (pos := pos) (af := af) (L := Own e E v zs :: L1) hu hE hzs hn hx hy hd Pick.here hq rfl hb hb2 (fun v' => fun a w O ha hs hr => k v' a w O ha (Ent.head (fun _ _ h => Own.apd h) w O hs) hr)
    exact this a w O ha h1 hrel
  · have main : StepK X kk ⟨some d, .call ⟨.builtin .append, #[x, y], #[t, t]⟩, T, pos, af, none⟩ env (Sl e (.slice a1 zs.length zs.length) zs :: L1) K := by
      refine s_main (γ := Value) (V := fun u => u) (pu := fun _ => True) (L' := fun v' => Apd e E v' (zs ++ ys) :: Sl e u ys :: L2) ?_ hd (fun u _ => k u)
      intro a w O ha hst hdom
      obtain ⟨O1, O2, s, hO, hs2⟩ := hst
      obtain ⟨O3, O4, s3, hsl, hs4⟩ := hq w O2 hs2
      have hOD := SlP.dup hO
      have hslD := SlP.dup hsl
      obtain ⟨ti, hi, hz0, hsz, hbt⟩ := hE
      obtain ⟨a0, cap, rfl, q1, q2, q3⟩ := id hslD
      obtain ⟨a2, cap2, hv2, p1, p2, p3⟩ := id hOD
      simp only [Value.slice.injEq] at hv2
      obtain ⟨rfl, _, rfl⟩ := hv2
      have keep : ys.length = 0 → ∃ P, Stars (Apd e E (.slice a1 zs.length zs.length) (zs ++ ys) :: Sl e (.slice a0 ys.length cap) ys :: L2) w P ∧ Rel w O w P := fun h0 => by
        have : ys = [] := List.eq_nil_of_length_eq_zero h0
        subst this
        refine ⟨O, ⟨O1, O2, s, .inr ⟨a1, by simp, by rw [List.append_nil]; exact hO⟩, ⟨O3, O4, s3, hsl, hs4⟩⟩, Rel.refl hdom⟩
      have hsrc : (a0 = none ∧ ys.length = 0) ∨ ∃ a cs', a0 = some a ∧ cs'.length = ys.length * e.n ∧ (∀ j u, cs'[j]? = some u → w.cell? (a.add j) = some u) ∧ (∀ u ∈ cs', u.oneCell' = true) ∧ Rows e w (fun b => min (O3 b) 1) cs' ys := by
        rcases q3 with ⟨_, rfl⟩ | ⟨b, off, cs', rfl, hb1, hr, hc⟩
        · cases a0 with
          | none => exact .inl ⟨rfl, rfl⟩
          | some a => exact .inr ⟨a, [], rfl, by simp, (fun j u hj => by simp at hj), (fun u hu => by cases hu), rfl⟩
        · exact .inr ⟨_, cs', rfl, hr.length, fun j u hj => by rw [add_off]; exact hc j u hj, hr.one, hr⟩
      have fin : ∀ {v' : Value} {w' : World} {P : Perm}, (Builtin.append_ #[t, t] T #[.slice a1 zs.length zs.length, .slice a0 ys.length cap]).run X.P w = .ok v' w' → Stars (Apd e E v' (zs ++ ys) :: Sl e (.slice a0 ys.length cap) ys :: L2) w' P → Rel w O w' P →
          ∃ g w' O', (execOp a.eval ⟨some d, .call ⟨.builtin .append, #[x, y], #[t, t]⟩, T, pos, af, none⟩).run X.P w = .ok (.value g) w' ∧ True ∧ Stars (Apd e E g (zs ++ ys) :: Sl e (.slice a0 ys.length cap) ys :: L2) w' O' ∧ Rel w O w' O' := by
        intro v' w' P hrun hs hr
        have hruns : (Builtin.append_ #[t, t] T #[a.eval x, a.eval y]).run X.P w = .ok v' w' := by rw [ha.eval hx, ha.eval hy]; exact hrun
        exact ⟨v', w', P, by simp [execOp, resolve, invoke, builtin, hruns], trivial, hs, hr⟩
      by_cases h0 : ys.length = 0
      · obtain ⟨P, hP, hR⟩ := keep h0
        refine fin ?_ hP hR
        rcases hsrc with ⟨rfl, _⟩ | ⟨a, cs', rfl, hl, _, _, _⟩
        · cases a1 <;> simp [Builtin.append_, run_underlying hu, sizeOf, typeInfo, hi, Builtin.lenOf, Builtin.firstCells, storeCells, h0]
        · cases a1 <;> simp [Builtin.append_, run_underlying hu, sizeOf, typeInfo, hi, Builtin.lenOf, Builtin.firstCells, storeCells, loadCells, loadCellsFrom, h0]
      · obtain ⟨a, cs', rfl, hl, hnews, h1, hr⟩ := hsrc.resolve_left (fun h => h0 h.2)
        have hgrow : ∃ v' w' c0, (Builtin.append_ #[t, t] T #[.slice a1 zs.length zs.length, .slice (some a) ys.length cap]).run X.P w = .ok v' w' ∧ w'.ownsRow w.heap.size E e.n v' (zs.length + ys.length) (c0 ++ cs') ∧ w.grownBy w' none ∧ Rows e w (fun b => min (O1 b) 1) c0 zs := by
          rcases p3 with ⟨_, rfl⟩ | ⟨b, off, c0, rfl, hb1, hr0, hc⟩
          · cases a1 with
            | some a1 =>
              obtain ⟨v', w', hrun, hown', hgr⟩ := run_append_arg_grows (P := X.P) (w := w) t T E ti z e.n nb hu hi hz0 hsz hbt hzs hn a1 0 0 [] (by simp) (fun j u hj => by simp at hj) a ys.length cap cs' hl hnews (Nat.lt_add_of_pos_right (Nat.pos_of_ne_zero h0)) (by simpa using hb2) (by simpa using hb)
              exact ⟨v', w', [], hrun, by simpa using hown', hgr, rfl⟩
            | none =>
            have g1' : w.ownsRow w.heap.size E e.n (.slice none 0 0) 0 [] := ⟨by simp, .inl ⟨rfl, rfl⟩⟩
            obtain ⟨v', w', hrun, hown', hgr, _⟩ := run_append_own (P := X.P) w w.heap.size t T E ti z e.n nb hu hi hz0 hsz hbt hzs hn _ 0 [] g1' a ys.length cap cs' hl hnews h1 (by simpa using hb2) (by simpa using hb) (Nat.le_refl _)
            exact ⟨v', w', [], hrun, by simpa using hown', hgr, rfl⟩
          · obtain ⟨v', w', hrun, hown', hgr⟩ := run_append_arg_grows (P := X.P) (w := w) t T E ti z e.n nb hu hi hz0 hsz hbt hzs hn ⟨b, off, none⟩ zs.length zs.length c0 hr0.length (fun j u hj => by rw [add_off]; exact hc j u hj) a ys.length cap cs' hl hnews (Nat.lt_add_of_pos_right (Nat.pos_of_ne_zero h0)) hb2 hb
            exact ⟨v', w', c0, hrun, hown', hgr, hr0⟩
        obtain ⟨v', w', c0, hrun, hown', hgr, hr0⟩ := hgrow
        obtain ⟨P, hP, hR⟩ := tight_grow (a' := Sl e (.slice (some a) ys.length cap) ys) hdom s hr0 s3 hslD hs4 hr hown' hgr
        exact fin hrun (Ent.head (fun _ _ h => Own.apd h) w' P hP) hR
    exact main a w O ha ⟨O1, O2, s, hO, hs2⟩ hrel
theorem Pick.beside {a : A} {L : List A} (h : ∀ w, a.h w fun _ => 0) : Pick a L L := fun w O hs =>
  ⟨fun _ => 0, O, ⟨fun b => Nat.zero_le _, fun b => Nat.le_refl _, fun b h => by omega, fun b h => rfl⟩, h w, hs⟩
theorem Pick.sl_nil {α : Type} {e : Enc α} {L : List A} : Pick (Sl e (.slice none 0 0) []) L L := Pick.beside fun w => Sl.nil e w _
theorem Pick.own_nil {α : Type} {e : Enc α} {T : TypeId} {L : List A} : Pick (Own e T (.slice none 0 0) []) L L := Pick.beside fun w => Own.nil e T w _
theorem Pick.apd_sl {α : Type} {e : Enc α} {T : TypeId} {v : Value} {xs : List α} {L : List A} : Pick (Sl e v xs) (Apd e T v xs :: L) L := Pick.of Pick.here fun _ _ h => Apd.sl h
theorem Has.sl_nil {α : Type} {e : Enc α} {L : List A} : Has L (Sl e (.slice none 0 0) []) := fun w O _ => Sl.nil e w O
theorem Ent.get {L L' : List A} {w : World} {O : Perm} (hs : Stars L w O) (h : Ent L L') : Stars L' w O := h w O hs
theorem stars_own_nil {α : Type} {e : Enc α} {T : TypeId} {w : World} {O : Perm} : Stars [Own e T (.slice none 0 0) ([] : List α)] w O := Ent.get (L := []) trivial (Ent.beside fun w _ _ => Own.nil e T w _)
end
end Go.SL

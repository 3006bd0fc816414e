/- The texts Q0, Q1, Q2, Q3, Q4, Q5, Q6, Q7, Q8, QA, QB, QR, QS, QM, QN, QK, QT, QV, QW, QX, QY, Q9, one behind the other. -/
import Derived.Calls
import Derived.Tactics
import Derived.OwnWalk
import Derived.AtR
import Derived.IntWalk
import Derived.Orders
import Derived.Laws.Strings
import Derived.Laws.Slices
import Derived.Laws.AppendOwn
import Derived.Laws.OwnMore
import Derived.Laws.MakeOwn
import Derived.Laws.Cells
import Derived.Laws.CopyRow
import Derived.Lib.AppendStr
import Derived.ArgAppend
import Derived.Deep.Quiet
import Derived.OrdersHeld
import Derived.Laws.BytesArg
import Derived.Lib.Strings
import Derived.Lib.UnsafeStr
import Derived.RangeFuncRecord
import Derived.RangeFuncLeaves
import Derived.WideLaws
import Derived.MapKept
import Derived.Maps.RangeRun
import Derived.Lib.SliceRun
import Derived.Laws.StructEq
import Derived.Laws.Externs
import Derived.Lib.AppendZerosOnto
import Derived.Lib.Overlaps
set_option linter.unusedVariables false
set_option linter.unusedSimpArgs false
/- A small separation logic over the machine: assertions, the judgements, the rules of control. -/
namespace Go.SL
open Go

/-- 0: nothing; 1: may be read; from 2 on: is one's own. -/
abbrev Perm := Nat → Nat

structure A where
  h : World → Perm → Prop
  mono : ∀ {w : World} {O O' : Perm}, h w O → (∀ b, O b ≤ O' b) → h w O'
  loc : ∀ {w w' : World} {O : Perm}, h w O → (∀ b, O b ≠ 0 → w'.heap[b]? = w.heap[b]?) → h w' O

structure Split (O O1 O2 : Perm) : Prop where
  l : ∀ b, O1 b ≤ O b
  r : ∀ b, O2 b ≤ O b
  lr : ∀ b, 2 ≤ O1 b → O2 b = 0
  rl : ∀ b, 2 ≤ O2 b → O1 b = 0

def Stars : List A → World → Perm → Prop
  | [], _, _ => True
  | a :: l, w, O => ∃ O1 O2, Split O O1 O2 ∧ a.h w O1 ∧ Stars l w O2

theorem Split.mono {O O' O1 O2 : Perm} (h : Split O O1 O2) (hO : ∀ b, O b ≤ O' b) : Split O' O1 O2 :=
  ⟨fun b => Nat.le_trans (h.l b) (hO b), fun b => Nat.le_trans (h.r b) (hO b), h.lr, h.rl⟩

theorem Stars.mono {l : List A} {w : World} {O O' : Perm} (h : Stars l w O) (hO : ∀ b, O b ≤ O' b) : Stars l w O' := by
  cases l with
  | nil => trivial
  | cons a l => obtain ⟨O1, O2, hs, h1, h2⟩ := h; exact ⟨O1, O2, hs.mono hO, h1, h2⟩

theorem Stars.loc {l : List A} {w w' : World} {O : Perm} (h : Stars l w O) (hw : ∀ b, O b ≠ 0 → w'.heap[b]? = w.heap[b]?) : Stars l w' O := by
  induction l generalizing O with
  | nil => trivial
  | cons a l ih =>
    obtain ⟨O1, O2, hs, h1, h2⟩ := h
    exact ⟨O1, O2, hs, a.loc h1 fun b hb => hw b (by have := hs.l b; omega), ih h2 fun b hb => hw b (by have := hs.r b; omega)⟩

/-- An assertion of a list, taken out. -/
def Pick (a : A) (l l' : List A) : Prop := ∀ w O, Stars l w O → ∃ O1 O2, Split O O1 O2 ∧ a.h w O1 ∧ Stars l' w O2

/-- Reading is enough. -/
def A.Dup (a : A) : Prop := ∀ w O, a.h w O → a.h w fun b => min (O b) 1

theorem Pick.here {a : A} {l : List A} : Pick a (a :: l) l := fun _ _ h => h

theorem Pick.there {a b : A} {l l' : List A} (h : Pick a l l') : Pick a (b :: l) (b :: l') := by
  intro w O hs
  obtain ⟨O1, O2, s, h1, h2⟩ := hs
  obtain ⟨P1, P2, t, g1, g2⟩ := h w O2 h2
  refine ⟨P1, fun b => max (O1 b) (P2 b), ⟨fun b => ?_, fun b => ?_, fun b => ?_, fun b => ?_⟩, g1, O1, P2, ⟨fun b => ?_, fun b => ?_, fun b => ?_, fun b => ?_⟩, h1, g2⟩ <;>
    (have := s.l b; have := s.r b; have := s.lr b; have := s.rl b; have := t.l b; have := t.r b; have := t.lr b; have := t.rl b; omega)

/-- What is only read may be taken and left. -/
theorem Pick.keep {a : A} {l : List A} (hd : a.Dup) : Pick a (a :: l) (a :: l) := by
  intro w O hs
  obtain ⟨O1, O2, s, h1, h2⟩ := hs
  refine ⟨fun b => min (O1 b) 1, fun b => max (min (O1 b) 1) (O2 b), ⟨fun b => ?_, fun b => ?_, fun b => ?_, fun b => ?_⟩, hd _ _ h1, fun b => min (O1 b) 1, O2, ⟨fun b => ?_, fun b => ?_, fun b => ?_, fun b => ?_⟩, hd _ _ h1, h2⟩ <;>
    (have := s.l b; have := s.r b; have := s.lr b; have := s.rl b; omega)

theorem Pick.of {a a' : A} {l l' : List A} (h : Pick a l l') (hi : ∀ w O, a.h w O → a'.h w O) : Pick a' l l' := by
  intro w O hs
  obtain ⟨O1, O2, s, h1, h2⟩ := h w O hs
  exact ⟨O1, O2, s, hi _ _ h1, h2⟩

inductive Picks : List A → List A → List A → Prop
  | nil {l : List A} : Picks [] l l
  | cons {a : A} {az l l1 l2 : List A} (h : Pick a l l1) (t : Picks az l1 l2) : Picks (a :: az) l l2

theorem Picks.split {az l l' : List A} (h : Picks az l l') : ∀ w O, Stars l w O → ∃ O1 O2, Split O O1 O2 ∧ Stars az w O1 ∧ Stars l' w O2 := by
  induction h with
  | nil => exact fun w O h => ⟨fun _ => 0, O, ⟨fun b => Nat.zero_le _, fun b => Nat.le_refl _, fun b h => by omega, fun b h => rfl⟩, trivial, h⟩
  | cons p t ih =>
    intro w O hs
    obtain ⟨O1, O2, s, h1, h2⟩ := p w O hs
    obtain ⟨P1, P2, t, g1, g2⟩ := ih w O2 h2
    refine ⟨fun b => max (O1 b) (P1 b), P2, ⟨fun b => ?_, fun b => ?_, fun b => ?_, fun b => ?_⟩, ⟨O1, P1, ⟨fun b => ?_, fun b => ?_, fun b => ?_, fun b => ?_⟩, h1, g1⟩, g2⟩ <;>
      (have := s.l b; have := s.r b; have := s.lr b; have := s.rl b; have := t.l b; have := t.r b; have := t.lr b; have := t.rl b; omega)

/-- A list gives another. -/
def Ent (l l' : List A) : Prop := ∀ w O, Stars l w O → Stars l' w O
theorem Ent.refl (l : List A) : Ent l l := fun _ _ h => h
theorem Ent.trans {a b c : List A} (h : Ent a b) (k : Ent b c) : Ent a c := fun w O s => k w O (h w O s)
theorem Picks.ent {az l l' : List A} (h : Picks az l l') : Ent l az := fun w O hs => by
  obtain ⟨O1, O2, s, h1, _⟩ := h.split w O hs
  exact h1.mono s.l
theorem Pick.ent {a : A} {l l' : List A} (h : Pick a l l') : Ent l (a :: l') := fun w O hs => h w O hs
/-- What a list says of one assertion, nothing being given away. -/
def Has (l : List A) (a : A) : Prop := ∀ w O, Stars l w O → a.h w O
theorem Has.of {l l' : List A} {a : A} (h : Pick a l l') : Has l a := fun w O hs => by
  obtain ⟨O1, O2, s, h1, _⟩ := h w O hs
  exact a.mono h1 s.l
theorem Has.here {a : A} {l : List A} : Has (a :: l) a := Has.of Pick.here
theorem Has.there {a b : A} {l : List A} (h : Has l a) : Has (b :: l) a := fun w O hs => by
  obtain ⟨O1, O2, s, _, h2⟩ := hs
  exact a.mono (h w O2 h2) s.r
theorem Has.imp {a a' : A} {l : List A} (h : Has l a) (hi : ∀ w O, a.h w O → a'.h w O) : Has l a' := fun w O hs => hi w O (h w O hs)

/-! ### what a step may do -/
structure Rel (w0 : World) (O0 : Perm) (w : World) (O : Perm) : Prop where
  os : w.os = w0.os
  tape : w.tape = w0.tape
  output : w.output = w0.output
  size : w0.heap.size ≤ w.heap.size
  old : ∀ b, b < w0.heap.size → O0 b < 2 → w.heap[b]? = w0.heap[b]?
  perm : ∀ b, b < w0.heap.size → O b ≤ O0 b
  dom : ∀ b, O b ≠ 0 → b < w.heap.size

theorem Rel.refl {w : World} {O : Perm} (h : ∀ b, O b ≠ 0 → b < w.heap.size) : Rel w O w O := ⟨rfl, rfl, rfl, Nat.le_refl _, fun _ _ _ => rfl, fun _ _ => Nat.le_refl _, h⟩
theorem Rel.trans {w0 w1 w2 : World} {O0 O1 O2 : Perm} (h : Rel w0 O0 w1 O1) (k : Rel w1 O1 w2 O2) : Rel w0 O0 w2 O2 :=
  ⟨k.os.trans h.os, k.tape.trans h.tape, k.output.trans h.output, Nat.le_trans h.size k.size,
   fun b hb h2 => (k.old b (by have := h.size; omega) (by have := h.perm b hb; omega)).trans (h.old b hb h2),
   fun b hb => Nat.le_trans (k.perm b (by have := h.size; omega)) (h.perm b hb), k.dom⟩
end Go.SL
/- The judgements over the machine's configurations, and the rules of control. -/
namespace Go.SL
open Go

/-- Known slots, the newest first. -/
abbrev Env := List (Nat × Value)
def Env.look : Env → Nat → Option Value
  | [], _ => none
  | (k, v) :: e, t => bif Nat.beq k t then some v else Env.look e t
def Env.eval (e : Env) : Operand → Option Value
  | .tmp t => e.look t
  | .const v => some v
  | .global g => some (.pointer (some ⟨g, 0, none⟩))
  | .func f => some (.func (.func f) #[] #[])

theorem Env.look_cons {k t : Nat} {v u : Value} {e : Env} (h : Env.look ((k, v) :: e) t = some u) : (k = t ∧ v = u) ∨ (k ≠ t ∧ e.look t = some u) := by
  unfold Env.look at h
  cases hb : Nat.beq k t with
  | true => rw [hb] at h; exact .inl ⟨Nat.eq_of_beq_eq_true hb, by simpa using h⟩
  | false => rw [hb] at h; exact .inr ⟨Nat.ne_of_beq_eq_false hb, by simpa using h⟩
def Env.Le : Env → Env → Prop
  | [], _ => True
  | (t, v) :: e, e' => e'.look t = some v ∧ Env.Le e e'
theorem Env.Le.look {e e' : Env} (h : Env.Le e e') {t : Nat} {v : Value} (hl : e.look t = some v) : e'.look t = some v := by
  induction e with
  | nil => simp [Env.look] at hl
  | cons p e ih =>
    obtain ⟨k, u⟩ := p
    rcases Env.look_cons hl with ⟨rfl, rfl⟩ | ⟨_, hl⟩
    · exact h.1
    · exact ih h.2 hl

structure Cx where
  P : Program
  f : FuncId
  fn : Func
  R : Value → World → Perm → Prop
  w0 : World
  O0 : Perm
  /-- A round of a loop over a function: the loop's record. -/
  rd : Option Nat := none
  /-- The marks of the loops over functions that have been begun. -/
  defs : List Deferred := []

structure Holds (X : Cx) (env : Env) (a : Act) : Prop where
  size : a.tmps.size = X.fn.ntmps
  defers : a.defers = X.defs
  look : ∀ t v, env.look t = some v → a.tmps[t]? = some v

theorem Holds.le {X : Cx} {e e' : Env} {a : Act} (h : Holds X e' a) (hl : Env.Le e e') : Holds X e a := ⟨h.size, h.defers, fun t v ht => h.look t v (hl.look ht)⟩
theorem Holds.eval {X : Cx} {e : Env} {a : Act} (h : Holds X e a) {x : Operand} {v : Value} (hv : e.eval x = some v) : a.eval x = v := by
  cases x with
  | tmp t => have := h.look t v hv; simp [Act.eval, Array.getD_eq_getD_getElem?, this]
  | const c => exact Option.some.inj hv
  | global g => exact Option.some.inj hv
  | func f => exact Option.some.inj hv
theorem Holds.put {X : Cx} {e : Env} {a : Act} (h : Holds X e a) {d : Nat} (hd : d < X.fn.ntmps) (v : Value) : Holds X ((d, v) :: e) (a.put (some d) v) := by
  refine ⟨by simp [Act.put, h.size], h.defers, fun t u ht => ?_⟩
  simp only [Act.put]
  rcases Env.look_cons ht with ⟨rfl, rfl⟩ | ⟨hne, ht⟩
  · rw [Array.getElem?_setIfInBounds_self]; simp [h.size, hd]
  · rw [Array.getElem?_setIfInBounds_ne hne]; exact h.look t u ht
theorem Holds.put_none {X : Cx} {e : Env} {a : Act} (h : Holds X e a) (v : Value) : Holds X e (a.put none v) := h

/-- The end: a function leaves with its results; a round comes to its end (true), or leaves by a return (false) or by the exit of a block outside (that block's number). -/
def Fin (X : Cx) (fr : Frame) (w : World) (v : Value) : Prop :=
  match X.rd with
  | none => fr.fn = X.f ∧ fr.leaving X.P w (.returned v)
  | some l => ∃ (b : Frame) (a : Act), b.fn = X.f ∧ b.roundOf = some l ∧ b.kind = .normal ∧ ((v = .bool true ∧ fr = b.atR a []) ∨ (∃ k, v = .bool false ∧ fr = b.atR a (.code .ret :: k)) ∨ ∃ id k, v = .int .i64 (id : Nat) ∧ exitTo id k = none ∧ fr = b.atR a (.code (.exit id) :: k))
def Ok (X : Cx) (k : List Item) (a : Act) (w : World) : Prop :=
  ∀ (b : Frame), b.fn = X.f → b.kind = .normal → b.roundOf = X.rd → ∀ cs, ∃ v w' fr O', X.R v w' O' ∧ Rel X.w0 X.O0 w' O' ∧
    Steps X.P (lone (b.atR a k) cs w) (lone fr cs w') ∧ Fin X fr w' v

theorem Ok.step {X : Cx} {k k' : List Item} {a a' : Act} {w w' : World}
    (hs : ∀ (b : Frame) cs, b.roundOf = X.rd → Steps X.P (lone (b.atR a k) cs w) (lone (b.atR a' k') cs w')) (h : Ok X k' a' w') : Ok X k a w := by
  intro b hb hk hr cs
  obtain ⟨v, w1, fr, O', hR, hrel, hst, r⟩ := h b hb hk hr cs
  exact ⟨v, w1, fr, O', hR, hrel, (hs b cs hr).trans hst, r⟩

def Cfg (X : Cx) (k : List Item) (env : Env) (L : List A) : Prop :=
  ∀ a w O, Holds X env a → Stars L w O → Rel X.w0 X.O0 w O → Ok X k a w

section
variable {X : Cx} {k k' : List Item} {env env' : Env} {L L' : List A}

theorem c_use (h : Cfg X k env' L') (he : Env.Le env' env) (hl : Ent L L') : Cfg X k env L :=
  fun a w O ha hs hr => h a w O (ha.le he) (hl w O hs) hr
theorem c_ent (hl : Ent L L') (h : Cfg X k env L') : Cfg X k env L := fun a w O ha hs hr => h a w O ha (hl w O hs) hr
theorem c_env (he : Env.Le env' env) (h : Cfg X k env' L) : Cfg X k env L := fun a w O ha hs hr => h a w O (ha.le he) hs hr

theorem c_seq {x y : Code} (h : Cfg X (.code x :: .code y :: k) env L) : Cfg X (.code (.seq x y) :: k) env L :=
  fun a w O ha hs hr => (h a w O ha hs hr).step fun _ _ _ => .one stepR_seq
theorem c_skip (h : Cfg X k env L) : Cfg X (.code .skip :: k) env L := fun a w O ha hs hr => (h a w O ha hs hr).step fun _ _ _ => .one stepR_skip
theorem c_inBlock {id : Nat} (h : Cfg X k env L) : Cfg X (.inBlock id :: k) env L := fun a w O ha hs hr => (h a w O ha hs hr).step fun _ _ _ => .one stepR_inBlock
theorem c_block {id : Nat} {c : Code} (h : Cfg X (.code c :: .inBlock id :: k) env L) : Cfg X (.code (.block id c) :: k) env L :=
  fun a w O ha hs hr => (h a w O ha hs hr).step fun _ _ _ => .one stepR_block
theorem c_exit {id : Nat} (he : exitTo id k = some k') (h : Cfg X k' env L) : Cfg X (.code (.exit id) :: k) env L :=
  fun a w O ha hs hr => (h a w O ha hs hr).step fun _ _ _ => .one (stepR_exit he)
theorem c_cond {c : Operand} {x y : Code} {t : Bool} (hc : env.eval c = some (.bool t)) (ht : t = true → Cfg X (.code x :: k) env L) (hf : t = false → Cfg X (.code y :: k) env L) :
    Cfg X (.code (.cond c x y) :: k) env L := by
  intro a w O ha hs hr
  cases t with
  | true => exact (ht rfl a w O ha hs hr).step fun b cs _ => .one (by have := stepR_cond (P := X.P) (b := b) (k := k) (cs := cs) (w := w) (x := x) (y := y) (ha.eval hc); simpa using this)
  | false => exact (hf rfl a w O ha hs hr).step fun b cs _ => .one (by have := stepR_cond (P := X.P) (b := b) (k := k) (cs := cs) (w := w) (x := x) (y := y) (ha.eval hc); simpa using this)
theorem c_cond_t {c : Operand} {x y : Code} (hc : env.eval c = some (.bool true)) (h : Cfg X (.code x :: k) env L) : Cfg X (.code (.cond c x y) :: k) env L :=
  c_cond hc (fun _ => h) (fun e => by cases e)
theorem c_cond_f {c : Operand} {x y : Code} (hc : env.eval c = some (.bool false)) (h : Cfg X (.code y :: k) env L) : Cfg X (.code (.cond c x y) :: k) env L :=
  c_cond hc (fun e => by cases e) (fun _ => h)
/-- A test of a proposition. -/
theorem c_cond_p {c : Operand} {x y : Code} {p : Prop} [Decidable p] (hc : env.eval c = some (.bool (decide p))) (ht : p → Cfg X (.code x :: k) env L) (hf : ¬ p → Cfg X (.code y :: k) env L) :
    Cfg X (.code (.cond c x y) :: k) env L :=
  c_cond hc (fun e => ht (of_decide_eq_true e)) (fun e => hf (of_decide_eq_false e))

/-- A loop: g is what is known at each round's head; the rounds lower μ. -/
theorem c_loop {c : Code} {γ : Type} (μ : γ → Nat) (J : γ → Prop) (E : γ → Env) (LL : γ → List A) (g : γ) (hJ : J g) (hE : Env.Le (E g) env) (hL : Ent L (LL g))
    (round : ∀ g, J g → (∀ g', μ g' < μ g → J g' → Cfg X (.inLoop c :: k) (E g') (LL g')) → Cfg X (.code c :: .inLoop c :: k) (E g) (LL g)) :
    Cfg X (.code (.loop c) :: k) env L := by
  have key : ∀ n g, μ g = n → J g → Cfg X (.inLoop c :: k) (E g) (LL g) := by
    intro n
    induction n using Nat.strongRecOn with
    | _ n ih =>
      intro g hn hg a w O ha hs hr
      refine (round g hg (fun g' hlt hg' => ih (μ g') (hn ▸ hlt) g' rfl hg') a w O ha hs hr).step fun _ _ _ => .one stepR_inLoop
  intro a w O ha hs hr
  refine (round g hJ (fun g' _ hg' => key _ g' rfl hg') a w O (ha.le hE) (hL w O hs) hr).step fun _ _ _ => .one stepR_loop

theorem c_ret_any (hr : ∀ a w O, Holds X env a → Stars L w O → (∀ b, O b ≠ 0 → b < w.heap.size) → ∃ v, (results X.fn a.tmps).run X.P w = .ok v w ∧ X.R v w O)
    (hf : X.P.funcs[X.f]? = some X.fn) (hrd : X.rd = none) (hdf : X.defs = []) (hk : ∀ (a : Act) (w : World) (b : Frame) (cs : List Frame), b.kind = .normal → b.roundOf = none → Steps X.P (lone (b.atR a k) cs w) (lone { b.atR a k with mode := .returning } cs w)) : Cfg X k env L := by
  intro a w O ha hs hrel b hb hkd hro cs
  obtain ⟨v, hv, hR⟩ := hr a w O ha hs hrel.dom
  refine ⟨v, w, { b.atR a k with mode := .returning }, O, hR, hrel, hk a w b cs hkd (hro.trans hrd), ?_⟩
  unfold Fin
  rw [hrd]
  exact ⟨hb, rfl, ha.defers.trans hdf, hkd, X.fn, by simpa [Frame.atR, hb] using hf, by simpa [Frame.atR] using hv⟩

theorem steps_ret {b : Frame} {P : Program} {a : Act} {w : World} {cs : List Frame} (hb : b.roundOf = none) : Steps P (lone (b.atR a (.code .ret :: k)) cs w) (lone { b.atR a (.code .ret :: k) with mode := .returning } cs w) := .one (stepR_ret hb)

theorem getD_of {tmps : Array Value} {t : Nat} {v : Value} (h : tmps[t]? = some v) : tmps.getD t undef = v := by simp [Array.getD_eq_getD_getElem?, h]
theorem results_one {fn : Func} {t : Nat} {tmps : Array Value} {P : Program} {w : World} {v : Value} (h : fn.results = #[.tmp t]) (hv : tmps[t]? = some v) : (results fn tmps).run P w = .ok v w := by
  rw [results_tmp h, getD_of hv]
theorem results_two {fn : Func} {s t : Nat} {tmps : Array Value} {P : Program} {w : World} {u v : Value} (h : fn.results = #[.tmp s, .tmp t]) (hu : tmps[s]? = some u) (hv : tmps[t]? = some v) :
    (results fn tmps).run P w = .ok (.tuple #[u, v]) w := by
  rw [results_tmp2 h, getD_of hu, getD_of hv]
theorem results_three {fn : Func} {s t r : Nat} {tmps : Array Value} {P : Program} {w : World} {u v x : Value} (h : fn.results = #[.tmp s, .tmp t, .tmp r]) (hu : tmps[s]? = some u) (hv : tmps[t]? = some v) (hx : tmps[r]? = some x) :
    (results fn tmps).run P w = .ok (.tuple #[u, v, x]) w := by
  rw [results_tmp3 h, getD_of hu, getD_of hv, getD_of hx]
theorem results_no {fn : Func} {tmps : Array Value} {P : Program} {w : World} (h : fn.results = #[]) : (results fn tmps).run P w = .ok (.tuple #[]) w := results_none h _ _ _

theorem c_end0 (hf : X.P.funcs[X.f]? = some X.fn) (h : X.fn.results = #[]) (fin : ∀ w O, Stars L w O → X.R (.tuple #[]) w O) (hrd : X.rd = none := by rfl) (hdf : X.defs = [] := by rfl) : Cfg X [] env L :=
  c_ret_any (fun _ w O _ hs _ => ⟨_, results_no h, fin w O hs⟩) hf hrd hdf fun _ _ _ _ _ hb => .one (stepR_end hb)
theorem c_ret1 {t : Nat} {v : Value} (hf : X.P.funcs[X.f]? = some X.fn) (h : X.fn.results = #[.tmp t]) (hv : env.look t = some v) (fin : ∀ w O, Stars L w O → X.R v w O) (hrd : X.rd = none := by rfl) (hdf : X.defs = [] := by rfl) : Cfg X (.code .ret :: k) env L :=
  c_ret_any (fun _ w O ha hs _ => ⟨_, results_one h (ha.look t v hv), fin w O hs⟩) hf hrd hdf fun _ _ _ _ _ hb => steps_ret hb
theorem c_ret2 {s t : Nat} {u v : Value} (hf : X.P.funcs[X.f]? = some X.fn) (h : X.fn.results = #[.tmp s, .tmp t]) (hu : env.look s = some u) (hv : env.look t = some v) (fin : ∀ w O, Stars L w O → X.R (.tuple #[u, v]) w O) (hrd : X.rd = none := by rfl) (hdf : X.defs = [] := by rfl) :
    Cfg X (.code .ret :: k) env L :=
  c_ret_any (fun _ w O ha hs _ => ⟨_, results_two h (ha.look s u hu) (ha.look t v hv), fin w O hs⟩) hf hrd hdf fun _ _ _ _ _ hb => steps_ret hb
theorem c_ret3 {s t r : Nat} {u v x : Value} (hf : X.P.funcs[X.f]? = some X.fn) (h : X.fn.results = #[.tmp s, .tmp t, .tmp r]) (hu : env.look s = some u) (hv : env.look t = some v) (hx : env.look r = some x)
    (fin : ∀ w O, Stars L w O → X.R (.tuple #[u, v, x]) w O) (hrd : X.rd = none := by rfl) (hdf : X.defs = [] := by rfl) : Cfg X (.code .ret :: k) env L :=
  c_ret_any (fun _ w O ha hs _ => ⟨_, results_three h (ha.look s u hu) (ha.look t v hv) (ha.look r x hx), fin w O hs⟩) hf hrd hdf fun _ _ _ _ _ hb => steps_ret hb
end

/-! ### contracts -/
/-- A function's contract: in any world in which L holds, whatever is left aside, it returns one of 'ret g'; then pu g, and L' g holds. -/
def Con (P : Program) (f : FuncId) (args : List Value) (L : List A) {γ : Type} (ret : γ → Value) (pu : γ → Prop) (L' : γ → List A) : Prop :=
  ∀ w O, Stars L w O → (∀ b, O b ≠ 0 → b < w.heap.size) →
    Calls P f args.toArray w fun e w' => ∃ g O', e = .returned (ret g) ∧ pu g ∧ Stars (L' g) w' O' ∧ Rel w O w' O'

def initEnv : Nat → List Value → Env
  | _, [] => []
  | i, v :: vs => (i, v) :: initEnv (i + 1) vs
theorem initEnv_look {vs : List Value} {i t : Nat} {v : Value} (h : (initEnv i vs).look t = some v) : i ≤ t ∧ vs[t - i]? = some v := by
  induction vs generalizing i with
  | nil => simp [initEnv, Env.look] at h
  | cons u vs ih =>
    rcases Env.look_cons h with ⟨rfl, rfl⟩ | ⟨_, h⟩
    · simp
    · obtain ⟨h1, h2⟩ := ih h
      refine ⟨by omega, ?_⟩
      rw [show t - i = (t - (i + 1)) + 1 by omega]
      simpa using h2

theorem con_of {P : Program} {f : FuncId} {fn : Func} {c : Code} {args : List Value} {L : List A} {γ : Type} {ret : γ → Value} {pu : γ → Prop} {L' : γ → List A}
    (hf : P.funcs[f]? = some fn) (hb : fn.body = some c) (hn : args.length ≤ fn.ntmps)
    (h : ∀ w0 O0, Cfg { P := P, f := f, fn := fn, R := fun v w O => ∃ g, v = ret g ∧ pu g ∧ Stars (L' g) w O, w0 := w0, O0 := O0 } [.code c] (initEnv 0 args) L) : Con P f args L ret pu L' := by
  intro w O hs hdom cs
  have henter : Frame.enter P f args.toArray .normal =
      ({ (default : Frame) with fn := f, kind := .normal, roundOf := none } : Frame).atR { tmps := args.toArray ++ Array.replicate (fn.ntmps - args.toArray.size) undef, defers := [] } [.code c] := by
    simp [Frame.enter, Frame.atR, hf, hb]
  obtain ⟨v, w', fr, O', ⟨g, rfl, hpu, hL⟩, hrel, hst, hfn, hlv⟩ := h w O { tmps := args.toArray ++ Array.replicate (fn.ntmps - args.toArray.size) undef, defers := [] } w O
    ⟨by simp; omega, rfl, fun t v ht => by
      obtain ⟨_, h2⟩ := initEnv_look ht
      have h3 : t < args.length := by
        rcases Nat.lt_or_ge t args.length with h | h
        · exact h
        · rw [Nat.sub_zero, List.getElem?_eq_none (by omega)] at h2; cases h2
      rw [Array.getElem?_append_left (by simpa using h3)]
      simpa using h2⟩ hs (Rel.refl hdom) { (default : Frame) with fn := f, kind := .normal, roundOf := none } rfl rfl rfl cs
  rw [← henter] at hst
  exact ⟨.returned (ret g), w', fr, ⟨g, O', rfl, hpu, hL, hrel⟩, hst, hfn, hlv⟩

end Go.SL
/- Regions, and the rules of the operations that touch no memory; calls. -/
namespace Go.SL
open Go

def Qn (X : Cx) (k : List Item) : Exit → Act → World → Prop := fun e a w => e = .normal ∧ Ok X k a w

/-- A round of a loop over a function, called: it comes back to the frame that called. -/
def Round (P : Program) (l : Nat) (f : FuncId) (tmps : Array Value) (assign body : Code) (w : World) (R : Value → World → Prop) : Prop :=
  ∀ (c : Frame) (cs : List Frame), ∃ v w', R v w' ∧ Steps P (lone (Frame.round l f tmps assign body .normal) (c :: cs) w) (lone (c.finish v) cs w')
theorem Round.mono {P : Program} {l : Nat} {f : FuncId} {tmps : Array Value} {assign body : Code} {w : World} {R R' : Value → World → Prop} (h : Round P l f tmps assign body w R) (hR : ∀ v w, R v w → R' v w) : Round P l f tmps assign body w R' := fun c cs => by
  obtain ⟨v, w', h1, h2⟩ := h c cs
  exact ⟨v, w', hR _ _ h1, h2⟩
/-- An operation that calls a round. -/
def yields (P : Program) (o : Oper) (a : Act) (w : World) (next : Act → World → Prop) : Prop :=
  ∃ l f tmps assign body w', (execOp a.eval o).run P w = .ok (.round l f tmps assign body) w' ∧ Round P l f tmps assign body w' fun v w'' => next (a.put o.dst v) w''
/-- The operations of a region, in the order of the text. -/
def wpl (P : Program) (ops : Array Oper) (Q : Exit → Act → World → Prop) : List Oper → Act → World → Prop
  | [], a, w => Q .normal a w
  | o :: rest, a, w => if Region.wanted o (yielded ops a.tmps) then o.wp P a w (wpl P ops Q rest) Q ∨ yields P o a w (wpl P ops Q rest) else wpl P ops Q rest (a.put o.dst undef) w

def noDefer (l : List Oper) : Bool := l.all fun o => match o.op with | .defer _ => false | _ => true
theorem noDefer_get {l : List Oper} {i : Nat} {o : Oper} (h : noDefer l = true) (ho : l[i]? = some o) : ∀ c, o.op ≠ .defer c := by
  intro c hc
  have := List.all_eq_true.1 h o (List.mem_of_getElem? ho)
  rw [hc] at this
  cases this

section
variable {X : Cx} {k : List Item} {ops : Array Oper}
/-- One operation, carried out. -/
theorem ok_oper {i : Nat} {rest : List Nat} {o : Oper} {a : Act} {w : World} (ho : ops[i]? = some o) (hnd : ∀ c, o.op ≠ .defer c) (hw : Region.wanted o (yielded ops a.tmps) = true)
    {next : Act → World → Prop} (hn : ∀ a w, next a w → Ok X (.inRegion ops rest :: k) a w) (h : o.wp X.P a w next (Qn X k) ∨ yields X.P o a w next) : Ok X (.inRegion ops (i :: rest) :: k) a w := by
  intro b hb hk hro cs
  have hg := stepGR_op (P := X.P) (b := b) (k := k) (cs := cs) (w := w) (rest := rest) ho hw
  rw [Oper.semAt_eq _ _ _ hnd] at hg
  have hfin : ∀ v, (b.atR a (.inRegion ops (i :: rest) :: k)).finish v = b.atR (a.put o.dst v) (.inRegion ops rest :: k) := by
    intro v; rw [Frame.finish_atR, ho]; rfl
  have go : ∀ {a' : Act} {w' : World}, next a' w' → Steps X.P (lone (b.atR a (.inRegion ops (i :: rest) :: k)) cs w) (lone (b.atR a' (.inRegion ops rest :: k)) cs w') →
      ∃ v w' fr O', X.R v w' O' ∧ Rel X.w0 X.O0 w' O' ∧ Steps X.P (lone (b.atR a (.inRegion ops (i :: rest) :: k)) cs w) (lone fr cs w') ∧ Fin X fr w' v := by
    intro a' w' hnx hst
    obtain ⟨v, w1, fr, O', hR, hrel, hst', hf⟩ := hn a' w' hnx b hb hk hro cs
    exact ⟨v, w1, fr, O', hR, hrel, hst.trans hst', hf⟩
  rcases h with h | ⟨l, f, tmps, assign, body, w', hrun, hround⟩
  · unfold Oper.wp at h
    generalize hrun : (execOp a.eval o).run X.P w = r at h
    unfold Oper.upon at h
    split at h
    · refine go h (.one (step_lone_go ?_))
      rw [hg, ← hfin]; simp [stepG.apply, hrun]
    · refine go h (.one (step_lone_go ?_))
      rw [hg, ← hfin]; simp [stepG.apply, hrun]
    · rename_i d w'
      refine go h (.one (step_lone_go ?_))
      have : ({ b.atR a (.inRegion ops (i :: rest) :: k) with defers := d :: a.defers } : Frame).finish undef = b.atR ({ a with defers := d :: a.defers }.put o.dst undef) (.inRegion ops rest :: k) := by
        have := Frame.finish_atR b { a with defers := d :: a.defers } ops i rest k undef
        rw [ho] at this; exact this
      rw [hg]; simp only [stepG.apply, Sem.runT_eq, hrun, GStep.bare_after]
      exact congrArg (fun fr => GStep.go { frame := fr, callers := cs, status := .running, dying := none } w') this
    · rename_i f args w'
      have henter : step X.P (lone (b.atR a (.inRegion ops (i :: rest) :: k)) cs w) = .next (lone (Frame.enter X.P f args .normal) (b.atR a (.inRegion ops (i :: rest) :: k) :: cs) w') :=
        step_lone_go (by rw [hg]; simp [stepG.apply, hrun, Frame.atR])
      obtain ⟨e, w'', fr, hR, hcomes, hfn, hleave⟩ := h (b.atR a (.inRegion ops (i :: rest) :: k) :: cs)
      cases e with
      | returned v =>
        refine go hR ((Steps.one henter).trans (Steps.trans hcomes (.one ?_)))
        rw [← hfin]; exact step_leave_returned hleave
      | panicked chain => exact absurd hR.1 (by simp)
      | outgrown => obtain ⟨_, _, hq⟩ := hR; exact absurd hq.1 (by simp)
    · rename_i row args w'
      have henter : step X.P (lone (b.atR a (.inRegion ops (i :: rest) :: k)) cs w) = .next (lone (Frame.ofRow X.P row args .normal) (b.atR a (.inRegion ops (i :: rest) :: k) :: cs) w') :=
        step_lone_go (by rw [hg]; simp [stepG.apply, hrun, Frame.atR])
      obtain ⟨v, w'', hR, hst⟩ := h (b.atR a (.inRegion ops (i :: rest) :: k)) cs
      rw [hfin] at hst
      exact go hR ((Steps.one henter).trans hst)
    · exact absurd h.1 (by simp)
    · exact h.elim
  · have henter : step X.P (lone (b.atR a (.inRegion ops (i :: rest) :: k)) cs w) = .next (lone (Frame.round l f tmps assign body .normal) (b.atR a (.inRegion ops (i :: rest) :: k) :: cs) w') :=
      step_lone_go (by rw [hg]; simp [stepG.apply, hrun, Frame.atR])
    obtain ⟨v, w'', hR, hst⟩ := hround (b.atR a (.inRegion ops (i :: rest) :: k)) cs
    rw [hfin] at hst
    exact go hR ((Steps.one henter).trans hst)
theorem ok_skip {i : Nat} {rest : List Nat} {o : Oper} {a : Act} {w : World} (ho : ops[i]? = some o) (hw : ¬ Region.wanted o (yielded ops a.tmps) = true) (h : Ok X (.inRegion ops rest :: k) (a.put o.dst undef) w) : Ok X (.inRegion ops (i :: rest) :: k) a w :=
  h.step fun b cs _ => .one (by
    have hs := stepR_op_skip (P := X.P) (b := b) (a := a) (k := k) (cs := cs) (w := w) (ops := ops) (i := i) (rest := rest) (by simp [ho]; simpa using hw)
    simp only [ho, Option.bind_some] at hs
    exact hs)
theorem ok_nil {a : Act} {w : World} (h : Ok X k a w) : Ok X (.inRegion ops [] :: k) a w := h.step fun _ _ _ => .one stepR_region_end
/-- The operations in the order of the text. -/
theorem ok_wpl (hnd : noDefer ops.toList = true) : ∀ (n i : Nat) (a : Act) (w : World), i + n = ops.size → wpl X.P ops (Qn X k) (ops.toList.drop i) a w → Ok X (.inRegion ops (List.range' i n) :: k) a w := by
  intro n
  induction n with
  | zero =>
    intro i a w hi h
    rw [List.drop_eq_nil_of_le (by simp; omega)] at h
    exact ok_nil h.2
  | succ n ih =>
    intro i a w hi h
    have hlt : i < ops.size := by omega
    have hd : ops.toList.drop i = ops[i] :: ops.toList.drop (i + 1) := by
      rw [List.drop_eq_getElem_cons (by simpa using hlt)]; rfl
    have ho : ops[i]? = some ops[i] := Array.getElem?_eq_getElem hlt
    rw [hd] at h
    rw [List.range'_succ]
    simp only [wpl] at h
    split at h
    · rename_i hw
      exact ok_oper ho (noDefer_get hnd (by rw [Array.getElem?_toList]; exact ho)) hw (fun a w h => ih (i + 1) a w (by omega) h) h
    · rename_i hw
      exact ok_skip ho hw (ih (i + 1) _ _ (by omega) h)
/-- The operations in a drawn order. -/
theorem ok_ops (hnd : noDefer ops.toList = true) : ∀ (l : List Nat) (a : Act) (w : World), wpOps X.P ops (Qn X k) l a w → Ok X (.inRegion ops l :: k) a w := by
  intro l
  induction l with
  | nil => intro a w h; exact ok_nil h.2
  | cons i rest ih =>
    intro a w h
    simp only [wpOps] at h
    cases ho : ops[i]? with
    | none =>
      simp only [ho] at h
      refine (ih a w h).step fun b cs _ => .one ?_
      have hs := stepR_op_skip (P := X.P) (b := b) (a := a) (k := k) (cs := cs) (w := w) (ops := ops) (i := i) (rest := rest) (by simp [ho])
      simp only [ho, Option.bind_none, Act.put] at hs
      exact hs
    | some o =>
      simp only [ho] at h
      split at h
      · rename_i hw
        rcases h with h | ⟨_, _, _, hq⟩
        · exact ok_oper ho (noDefer_get hnd (by rw [Array.getElem?_toList]; exact ho)) hw (fun a w h => ih a w h) (.inl h)
        · exact absurd hq.1 (by simp)
      · rename_i hw
        exact ok_skip ho hw (ih _ _ h)
end

/-- What is left is K. -/
def Kont (X : Cx) (env : Env) (L : List A) (K : Act → World → Prop) : Prop := ∀ a w O, Holds X env a → Stars L w O → Rel X.w0 X.O0 w O → K a w
abbrev Ops (X : Cx) (ops : Array Oper) (l : List Oper) (k : List Item) (env : Env) (L : List A) : Prop := Kont X env L (wpl X.P ops (Qn X k) l)
/-- One operation, and then K. -/
def StepK (X : Cx) (k : List Item) (o : Oper) (env : Env) (L : List A) (K : Act → World → Prop) : Prop := Kont X env L fun a w => o.wp X.P a w K (Qn X k)

section
variable {X : Cx} {ops : Array Oper} {rest : List Oper} {kk : List Item} {env env' : Env} {L L1 : List A}

theorem c_region {id : Nat} {l : List Oper} (h : Ops X l.toArray l kk env L) (hnd : noDefer l = true := by rfl) : Cfg X (.code (.region id l.toArray false) :: kk) env L := by
  intro a w O ha hs hr
  have := ok_wpl (X := X) (k := kk) (ops := l.toArray) (by simpa using hnd) l.length 0 a w (by simp) (by simpa using h a w O ha hs hr)
  refine Ok.step (fun b cs _ => .one stepR_region) ?_
  simpa [List.range_eq_range'] using this
theorem o_nil (h : Cfg X kk env L) : Ops X ops [] kk env L := fun a w O ha hs hr => ⟨rfl, h a w O ha hs hr⟩
theorem o_ent (hl : Ent L L1) (h : Ops X ops rest kk env L1) : Ops X ops rest kk env L := fun a w O ha hs hr => h a w O ha (hl w O hs) hr
theorem o_step {d : Option Tmp} {op : Op} {T : TypeId} {pos : String} {af : Array Edge} (h : StepK X kk ⟨d, op, T, pos, af, none⟩ env L (wpl X.P ops (Qn X kk) rest)) : Ops X ops (⟨d, op, T, pos, af, none⟩ :: rest) kk env L := by
  intro a w O ha hs hr
  simp only [wpl, Region.wanted, if_true]
  exact .inl (h a w O ha hs hr)
/-- What every operation that tells a value comes to. -/
theorem s_main {K : Act → World → Prop} {γ : Type} {V : γ → Value} {pu : γ → Prop} {L' : γ → List A} {d : Nat} {op : Op} {T : TypeId} {pos : String} {af : Array Edge}
    (h : ∀ a w O, Holds X env a → Stars L w O → (∀ b, O b ≠ 0 → b < w.heap.size) →
      ∃ g w' O', (execOp a.eval ⟨some d, op, T, pos, af, none⟩).run X.P w = .ok (.value (V g)) w' ∧ pu g ∧ Stars (L' g) w' O' ∧ Rel w O w' O')
    (hd : d < X.fn.ntmps) (k : ∀ g, pu g → Kont X ((d, V g) :: env) (L' g) K) : StepK X kk ⟨some d, op, T, pos, af, none⟩ env L K := by
  intro a w O ha hs hr
  obtain ⟨g, w', O', hrun, hpu, hs', hrel⟩ := h a w O ha hs hr.dom
  simp only [Oper.wp, hrun, Oper.upon]
  exact k g hpu _ w' O' (ha.put hd _) hs' (hr.trans hrel)
/-- The same at one that tells nothing. -/
theorem s_skip {K : Act → World → Prop} {γ : Type} {pu : γ → Prop} {L' : γ → List A} {op : Op} {T : TypeId} {pos : String} {af : Array Edge}
    (h : ∀ a w O, Holds X env a → Stars L w O → (∀ b, O b ≠ 0 → b < w.heap.size) →
      ∃ g w' O', (execOp a.eval ⟨none, op, T, pos, af, none⟩).run X.P w = .ok .skip w' ∧ pu g ∧ Stars (L' g) w' O' ∧ Rel w O w' O')
    (k : ∀ g, pu g → Kont X env (L' g) K) : StepK X kk ⟨none, op, T, pos, af, none⟩ env L K := by
  intro a w O ha hs hr
  obtain ⟨g, w', O', hrun, hpu, hs', hrel⟩ := h a w O ha hs hr.dom
  simp only [Oper.wp, hrun, Oper.upon]
  exact k g hpu _ w' O' (ha.put_none _) hs' (hr.trans hrel)
/-- An operation that turns no memory, and what it tells. -/
def Val (X : Cx) (env : Env) (L : List A) (op : Op) (T : TypeId) (v : Value) : Prop :=
  ∀ (dst : Option Tmp) (pos : String) (af : Array Edge) (g : Option (Nat × Bool)) (a : Act) (w : World) (O : Perm), Holds X env a → Stars L w O → (execOp a.eval ⟨dst, op, T, pos, af, g⟩).run X.P w = .ok (.value v) w
theorem o_val {v : Value} {d : Nat} {op : Op} {T : TypeId} {pos : String} {af : Array Edge} (h : Val X env L op T v)
    (hd : d < X.fn.ntmps) (k : Ops X ops rest kk ((d, v) :: env) L) : Ops X ops (⟨some d, op, T, pos, af, none⟩ :: rest) kk env L :=
  o_step <| s_main (γ := Unit) (V := fun _ => v) (pu := fun _ => True) (L' := fun _ => L) (fun a w O ha hs hdom => ⟨(), w, O, h _ _ _ _ a w O ha hs, trivial, hs, Rel.refl hdom⟩) hd (fun _ _ => k)
theorem Val.ent {v : Value} {op : Op} {T : TypeId} (h : Val X env L1 op T v) (he : Ent L L1) : Val X env L op T v := fun d p af g a w O ha hs => h d p af g a w O ha (he w O hs)

/-! ### guards -/
theorem o_guard {j s : Nat} {t want : Bool} {d : Option Nat} {op : Op} {T : TypeId} {pos : String} {af : Array Edge}
    (hj : (ops[j]?).bind (·.dst) = some s) (ht : env.look s = some (.bool t))
    (hy : t = want → Ops X ops (⟨d, op, T, pos, af, none⟩ :: rest) kk ((s, .bool want) :: env) L)
    (hn : t = !want → Ops X ops (⟨d, op, T, pos, af, some (j, want)⟩ :: rest) kk ((s, .bool (!want)) :: env) L) :
    Ops X ops (⟨d, op, T, pos, af, some (j, want)⟩ :: rest) kk env L := by
  intro a w O ha hs hr
  have hy1 : yielded ops a.tmps j = some t := by simp [yielded, hj, ha.look s _ ht]
  by_cases e : t = want
  · subst e
    have ha' : Holds X ((s, .bool t) :: env) a := ⟨ha.size, ha.defers, fun u v hu => by
      rcases Env.look_cons hu with ⟨rfl, rfl⟩ | ⟨_, hu⟩
      · exact ha.look _ _ ht
      · exact ha.look _ _ hu⟩
    have := hy rfl a w O ha' hs hr
    simp only [wpl, Region.wanted, hy1, beq_self_eq_true, if_true] at this ⊢
    exact this
  · have e' : t = !want := by cases t <;> cases want <;> simp_all
    refine hn e' a w O ⟨ha.size, ha.defers, fun u v hu => ?_⟩ hs hr
    rcases Env.look_cons hu with ⟨rfl, rfl⟩ | ⟨_, hu⟩
    · rw [← e']; exact ha.look _ _ ht
    · exact ha.look _ _ hu
theorem o_on {j s : Nat} {want : Bool} {d : Option Nat} {op : Op} {T : TypeId} {pos : String} {af : Array Edge}
    (hj : (ops[j]?).bind (·.dst) = some s) (ht : env.look s = some (.bool want))
    (h : Ops X ops (⟨d, op, T, pos, af, none⟩ :: rest) kk env L) : Ops X ops (⟨d, op, T, pos, af, some (j, want)⟩ :: rest) kk env L := by
  intro a w O ha hs hr
  have hy1 : yielded ops a.tmps j = some want := by simp [yielded, hj, ha.look s _ ht]
  have := h a w O ha hs hr
  simp only [wpl, Region.wanted, hy1, beq_self_eq_true, if_true] at this ⊢
  exact this
theorem o_off {j s : Nat} {t want : Bool} {d : Nat} {op : Op} {T : TypeId} {pos : String} {af : Array Edge}
    (hj : (ops[j]?).bind (·.dst) = some s) (ht : env.look s = some (.bool t)) (hne : t = !want) (hd : d < X.fn.ntmps)
    (h : Ops X ops rest kk ((d, undef) :: env) L) : Ops X ops (⟨some d, op, T, pos, af, some (j, want)⟩ :: rest) kk env L := by
  intro a w O ha hs hr
  have hy1 : yielded ops a.tmps j = some t := by simp [yielded, hj, ha.look s _ ht]
  have hw : (some t == some want) = false := by subst hne; cases want <;> rfl
  simp only [wpl, Region.wanted, hy1, hw, Bool.false_eq_true, if_false]
  exact h _ w O (ha.put hd _) hs hr
/-! ### values -/
section
variable {T : TypeId}
theorem v_move {x : Operand} {v : Value} (hx : env.eval x = some v) : Val X env L (.move x) T (v) :=
  fun _ _ _ _ a w O ha _ => by simp [execOp, ha.eval hx]
theorem v_assign {x : Operand} {v : Value} (hx : env.eval x = some v) : Val X env L (.assign x) T (v) :=
  fun _ _ _ _ a w O ha _ => by simp [execOp, ha.eval hx]
theorem v_pick_t {c x y : Operand} {v : Value} (hc : env.eval c = some (.bool true)) (hx : env.eval x = some v) : Val X env L (.pick c x y) T (v) :=
  fun _ _ _ _ a w O ha _ => by simp [execOp, ha.eval hc, ha.eval hx, asBool]
theorem v_pick_f {c x y : Operand} {v : Value} (hc : env.eval c = some (.bool false)) (hy : env.eval y = some v) : Val X env L (.pick c x y) T (v) :=
  fun _ _ _ _ a w O ha _ => by simp [execOp, ha.eval hc, ha.eval hy, asBool]
theorem v_extract {x : Operand} {vs : Array Value} {i : Nat} {v : Value} (hx : env.eval x = some (.tuple vs)) (hv : vs[i]? = some v) : Val X env L (.extract x i) T (v) :=
  fun _ _ _ _ a w O ha _ => by simp [execOp, ha.eval hx, Instr.extract, hv]
theorem v_not {t : Bool} {xT : TypeId} {x : Operand} (hx : env.eval x = some (.bool t)) : Val X env L (.unOp .not xT x) T (.bool (!t)) :=
  fun _ _ _ _ a w O ha _ => by simp [execOp, ha.eval hx, Op.unary]

/-! ### whole numbers -/
variable {x y : Operand} {xT yT : TypeId} {m n : Int}
theorem v_add {K : IntKind} (hx : env.eval x = some (.int K m)) (hy : env.eval y = some (.int K n)) : Val X env L (.binOp .add xT x y yT) T (.int K (K.wrap (m + n))) :=
  fun _ _ _ _ a w O ha _ => by simp [execOp, ha.eval hx, ha.eval hy, eqGuard, binOp, Op.intArith]
theorem v_sub {K : IntKind} (hx : env.eval x = some (.int K m)) (hy : env.eval y = some (.int K n)) : Val X env L (.binOp .sub xT x y yT) T (.int K (K.wrap (m - n))) :=
  fun _ _ _ _ a w O ha _ => by simp [execOp, ha.eval hx, ha.eval hy, eqGuard, binOp, Op.intArith]
theorem v_mul {K : IntKind} (hx : env.eval x = some (.int K m)) (hy : env.eval y = some (.int K n)) : Val X env L (.binOp .mul xT x y yT) T (.int K (K.wrap (m * n))) :=
  fun _ _ _ _ a w O ha _ => by simp [execOp, ha.eval hx, ha.eval hy, eqGuard, binOp, Op.intArith]
/-- Sums that fit. -/
theorem v_add64 (hx : env.eval x = some (.int .i64 m)) (hy : env.eval y = some (.int .i64 n)) (hb : -9223372036854775808 ≤ m + n ∧ m + n ≤ 9223372036854775807) : Val X env L (.binOp .add xT x y yT) T (.int .i64 (m + n)) := by
  have := v_add (X := X) (L := L) (T := T) (xT := xT) (yT := yT) hx hy; rwa [IntWalk.i64_in _ hb] at this
theorem v_sub64 (hx : env.eval x = some (.int .i64 m)) (hy : env.eval y = some (.int .i64 n)) (hb : -9223372036854775808 ≤ m - n ∧ m - n ≤ 9223372036854775807) : Val X env L (.binOp .sub xT x y yT) T (.int .i64 (m - n)) := by
  have := v_sub (X := X) (L := L) (T := T) (xT := xT) (yT := yT) hx hy; rwa [IntWalk.i64_in _ hb] at this
theorem v_mul64 (hx : env.eval x = some (.int .i64 m)) (hy : env.eval y = some (.int .i64 n)) (hb : -9223372036854775808 ≤ m * n ∧ m * n ≤ 9223372036854775807) : Val X env L (.binOp .mul xT x y yT) T (.int .i64 (m * n)) := by
  have := v_mul (X := X) (L := L) (T := T) (xT := xT) (yT := yT) hx hy; rwa [IntWalk.i64_in _ hb] at this
theorem v_lt {K : IntKind} (hx : env.eval x = some (.int K m)) (hy : env.eval y = some (.int K n)) : Val X env L (.binOp .lss xT x y yT) T (.bool (decide (m < n))) :=
  fun _ _ _ _ a w O ha _ => by simp [execOp, ha.eval hx, ha.eval hy, eqGuard, binOp, Op.intCmp]
theorem v_le {K : IntKind} (hx : env.eval x = some (.int K m)) (hy : env.eval y = some (.int K n)) : Val X env L (.binOp .leq xT x y yT) T (.bool (decide (m ≤ n))) :=
  fun _ _ _ _ a w O ha _ => by simp [execOp, ha.eval hx, ha.eval hy, eqGuard, binOp, Op.intCmp]
theorem v_gt {K : IntKind} (hx : env.eval x = some (.int K m)) (hy : env.eval y = some (.int K n)) : Val X env L (.binOp .gtr xT x y yT) T (.bool (decide (n < m))) :=
  fun _ _ _ _ a w O ha _ => by simp [execOp, ha.eval hx, ha.eval hy, eqGuard, binOp, Op.intCmp]
theorem v_ge {K : IntKind} (hx : env.eval x = some (.int K m)) (hy : env.eval y = some (.int K n)) : Val X env L (.binOp .geq xT x y yT) T (.bool (decide (n ≤ m))) :=
  fun _ _ _ _ a w O ha _ => by simp [execOp, ha.eval hx, ha.eval hy, eqGuard, binOp, Op.intCmp]
theorem beq_dec {α : Type} [BEq α] [LawfulBEq α] [DecidableEq α] (a b : α) : (a == b) = decide (a = b) := by
  by_cases h : a = b <;> simp [h]
theorem v_eq {K : IntKind} (hx : env.eval x = some (.int K m)) (hy : env.eval y = some (.int K n)) : Val X env L (.binOp .eql xT x y yT) T (.bool (decide (m = n))) :=
  fun _ _ _ _ a w O ha _ => by simp [execOp, ha.eval hx, ha.eval hy, eqGuard, binOp, Op.intCmp, beq_dec]
theorem v_ne {K : IntKind} (hx : env.eval x = some (.int K m)) (hy : env.eval y = some (.int K n)) : Val X env L (.binOp .neq xT x y yT) T (.bool (decide (m ≠ n))) :=
  fun _ _ _ _ a w O ha _ => by simp [execOp, ha.eval hx, ha.eval hy, eqGuard, binOp, Op.intCmp, bne, beq_dec]
theorem v_quo {K : IntKind} (hx : env.eval x = some (.int K m)) (hy : env.eval y = some (.int K n)) (h0 : n ≠ 0) : Val X env L (.binOp .quo xT x y yT) T (.int K (K.wrap (m.tdiv n))) :=
  fun _ _ _ _ a w O ha _ => by simp [execOp, ha.eval hx, ha.eval hy, eqGuard, binOp, Op.intDiv, h0]
theorem v_rem {K : IntKind} (hx : env.eval x = some (.int K m)) (hy : env.eval y = some (.int K n)) (h0 : n ≠ 0) : Val X env L (.binOp .rem xT x y yT) T (.int K (m.tmod n)) :=
  fun _ _ _ _ a w O ha _ => by simp [execOp, ha.eval hx, ha.eval hy, eqGuard, binOp, Op.intDiv, h0]

/-! ### bools, strings -/
theorem run_equal_bool {P : Program} {t : TypeId} {s u : Bool} {w : World} (hu : P.underlying t = some .bool) : (Op.equal t (.bool s) (.bool u)).run P w = .ok (s == u) w := by
  show (Op.equalIn (9999 + 1) t (.bool s) (.bool u)).run P w = _
  rw [Op.equalIn]
  simp only [Sem.run_bind, run_underlying hu, Result.andThen_ok]
  rfl
theorem run_eqb {P : Program} {op : BinOp} {a : Act} {s u : Bool} {w : World} {d : Option Tmp} {pos : String} {af : Array Edge} {g : Option (Nat × Bool)} (hx : a.eval x = .bool s) (hy : a.eval y = .bool u) (_ : True = True) (hu : P.underlying xT = some .bool)
    (hop : op = .eql ∨ op = .neq := by first | exact .inl rfl | exact .inr rfl) :
    (execOp a.eval ⟨d, .binOp op xT x y yT, T, pos, af, g⟩).run P w = .ok (.value (.bool (if op = .eql then decide (s = u) else decide (s ≠ u)))) w := by
  have he := run_equal_bool (s := s) (u := u) (w := w) hu
  rcases hop with rfl | rfl
  · simp only [execOp, hx, hy]
    simp only [show binOp .eql xT (.bool s) (.bool u) = (do pure (.bool (← Op.equal xT (.bool s) (.bool u)))) from rfl, show eqGuard .eql xT x y (.bool s) (.bool u) = pure () from rfl]
    simp [he, beq_dec]
  · simp only [execOp, hx, hy]
    simp only [show binOp .neq xT (.bool s) (.bool u) = (do pure (.bool (!(← Op.equal xT (.bool s) (.bool u))))) from rfl, show eqGuard .neq xT x y (.bool s) (.bool u) = pure () from rfl]
    simp [he, beq_dec]
theorem v_beq {s t : Bool} (hu : X.P.underlying xT = some .bool) (hx : env.eval x = some (.bool s)) (hy : env.eval y = some (.bool t)) : Val X env L (.binOp .eql xT x y yT) T (.bool (decide (s = t))) :=
  fun _ _ _ _ a w O ha _ => by rw [run_eqb (op := .eql) (ha.eval hx) (ha.eval hy) rfl hu]; simp
theorem v_bne {s t : Bool} (hu : X.P.underlying xT = some .bool) (hx : env.eval x = some (.bool s)) (hy : env.eval y = some (.bool t)) : Val X env L (.binOp .neq xT x y yT) T (.bool (decide (s ≠ t))) :=
  fun _ _ _ _ a w O ha _ => by rw [run_eqb (op := .neq) (ha.eval hx) (ha.eval hy) rfl hu]; simp
theorem str_beq (a b : ByteArray) : (a.toList == b.toList) = decide (a = b) := by
  rw [beq_dec, ByteArray.toList_eq, ByteArray.toList_eq]
  congr 1
  refine propext ⟨fun h => ?_, fun h => by rw [h]⟩
  cases a; cases b; simp only at h; congr 1; exact Array.ext' h
theorem v_seq {s t : ByteArray} (hx : env.eval x = some (.string s)) (hy : env.eval y = some (.string t)) : Val X env L (.binOp .eql xT x y yT) T (.bool (decide (s = t))) :=
  fun _ _ _ _ a w O ha _ => by simp only [execOp, ha.eval hx, ha.eval hy, binOp, Op.stringOp, str_beq]; simp [eqGuard]
theorem v_sne {s t : ByteArray} (hx : env.eval x = some (.string s)) (hy : env.eval y = some (.string t)) : Val X env L (.binOp .neq xT x y yT) T (.bool (decide (s ≠ t))) :=
  fun _ _ _ _ a w O ha _ => by simp only [execOp, ha.eval hx, ha.eval hy, binOp, Op.stringOp, str_beq]; simp [eqGuard]
theorem v_sle {s t : ByteArray} (hx : env.eval x = some (.string s)) (hy : env.eval y = some (.string t)) : Val X env L (.binOp .leq xT x y yT) T (.bool (Op.bytesLess s.data.toList t.data.toList || decide (s = t))) :=
  fun _ _ _ _ a w O ha _ => by simp only [execOp, ha.eval hx, ha.eval hy, binOp, Op.stringOp, str_beq]; simp [eqGuard, ByteArray.toList_eq]
theorem v_cat {s t : ByteArray} (hx : env.eval x = some (.string s)) (hy : env.eval y = some (.string t)) (hb : s.size + t.size ≤ 9223372036854775807) : Val X env L (.binOp .add xT x y yT) T (.string (s ++ t)) :=
  fun _ _ _ _ a w O ha _ => by
    have hm : ¬ (IntKind.i64.max < ((s.size + t.size : Nat) : Int)) := by simp [IntKind.max, IntKind.bits, IntKind.signed]; omega
    simp only [execOp, ha.eval hx, ha.eval hy, binOp, Op.stringOp, gt_iff_lt, if_neg hm]; simp [eqGuard]
theorem v_len_str {s : ByteArray} {t : TypeId} (hu : X.P.underlying t = some .string) (hx : env.eval x = some (.string s)) : Val X env L (.call ⟨.builtin .len, #[x], #[t]⟩) T (.int .i64 s.size) :=
  fun _ _ _ _ a w O ha _ => by simp [execOp, resolve, invoke, builtin, Builtin.len_, ha.eval hx, run_underlying hu, goInt]
/-- A byte of a string. -/
def sAt (s : ByteArray) (i : Int) : Int := (s.data.toList.getD i.toNat 0).toNat
theorem v_index_str {s : ByteArray} {K : IntKind} (hu : X.P.underlying xT = some .string) (hx : env.eval x = some (.string s)) (hy : env.eval y = some (.int K n)) (hb : 0 ≤ n ∧ n < s.size) : Val X env L (.index xT x y) T (.int .u8 (sAt s n)) :=
  fun _ _ _ _ a w O ha _ => by
    have h1 : n.toNat < s.size := by omega
    have h2 : s[n.toNat]? = some s[n.toNat] := by simp [h1]
    have h3 : sAt s n = s[n.toNat].toNat := by
      simp only [sAt, List.getD_eq_getElem?_getD]
      rw [List.getElem?_eq_getElem (by simpa using h1)]; rfl
    simp [execOp, ha.eval hx, ha.eval hy, Instr.index, asIntOf, run_underlying hu, hb.1, h2, h3]
theorem v_min (hx : env.eval x = some (.int .i64 m)) (hy : env.eval y = some (.int .i64 n)) {ts : Array TypeId} : Val X env L (.call ⟨.builtin .min, #[x, y], ts⟩) T (.int .i64 (min m n)) :=
  fun _ _ _ _ a w O ha _ => by
    have h : (if n < m then n else m) = min m n := by rw [Int.min_def]; split <;> split <;> omega
    simp [execOp, resolve, invoke, builtin, Builtin.min_, ha.eval hx, ha.eval hy, Builtin.min2, h]
theorem v_max (hx : env.eval x = some (.int .i64 m)) (hy : env.eval y = some (.int .i64 n)) {ts : Array TypeId} : Val X env L (.call ⟨.builtin .max, #[x, y], ts⟩) T (.int .i64 (max m n)) :=
  fun _ _ _ _ a w O ha _ => by
    have h : (if m < n then n else m) = max m n := by rw [Int.max_def]; split <;> split <;> omega
    simp [execOp, resolve, invoke, builtin, Builtin.max_, ha.eval hx, ha.eval hy, Builtin.max2, h]
/-! cuts of strings -/
theorem v_cut {s : ByteArray} {K K' : IntKind} {lo hi : Operand} (hu : X.P.underlying xT = some .string) (hx : env.eval x = some (.string s)) (hl : env.eval lo = some (.int K m)) (hh : env.eval hi = some (.int K' n)) (hb : 0 ≤ m ∧ m ≤ n ∧ n ≤ s.size) :
    Val X env L (.slice xT x (some lo) (some hi) none) T (.string (s.extract m.toNat n.toNat)) :=
  fun _ _ _ _ a w O ha _ => by
    have h1 := run_sliceBound (P := X.P) (w := w) K' n s.size .sliceAlen (by omega) hb.2.2
    have h2 := run_sliceBound (P := X.P) (w := w) K m n.toNat .sliceB hb.1 (by omega)
    simp [execOp, ha.eval hx, ha.eval hl, ha.eval hh, Instr.sliceAt, run_underlying hu, Instr.slice, Instr.sliceBounds, h1, h2]
theorem v_conv_int {sT dT : TypeId} {dsc : TypeDesc} {K K' : IntKind} (hs : X.P.underlying sT = some dsc) (hu : X.P.underlying dT = some (.int K')) (hx : env.eval x = some (.int K m)) : Val X env L (.convert sT dT x) T (.int K' (K'.wrap m)) :=
  fun _ _ _ _ a w O ha _ => by simp [execOp, ha.eval hx, convert, run_underlying hs, run_underlying hu, Conv.intToInt]
end
end
end Go.SL
/- Readings of memory: encodings, slices, rows of one's own, blocks. -/
namespace Go.SL
open Go

/-- How a value of α lies in cells. -/
structure Enc (α : Type) where
  n : Nat
  rd : World → Perm → List Value → α → Prop
  len : ∀ {w O cs x}, rd w O cs x → cs.length = n
  one : ∀ {w O cs x}, rd w O cs x → ∀ u ∈ cs, u.oneCell' = true
  mono : ∀ {w O O' cs x}, rd w O cs x → (∀ b, O b ≤ O' b) → rd w O' cs x
  loc : ∀ {w w' : World} {O : Perm} {cs x}, rd w O cs x → (∀ b, O b ≠ 0 → w'.heap[b]? = w.heap[b]?) → rd w' O cs x
  dup : ∀ {w O cs x}, rd w O cs x → rd w (fun b => min (O b) 1) cs x

def Rows {α : Type} (e : Enc α) (w : World) (O : Perm) : List Value → List α → Prop
  | cs, [] => cs = []
  | cs, x :: xs => ∃ c1 c2, cs = c1 ++ c2 ∧ e.rd w O c1 x ∧ Rows e w O c2 xs

section
variable {α : Type} {e : Enc α} {w w' : World} {O O' : Perm} {cs : List Value} {xs : List α}
theorem Rows.mono (h : Rows e w O cs xs) (hO : ∀ b, O b ≤ O' b) : Rows e w O' cs xs := by
  induction xs generalizing cs with
  | nil => exact h
  | cons x xs ih => obtain ⟨c1, c2, rfl, h1, h2⟩ := h; exact ⟨c1, c2, rfl, e.mono h1 hO, ih h2⟩
theorem Rows.loc (h : Rows e w O cs xs) (hw : ∀ b, O b ≠ 0 → w'.heap[b]? = w.heap[b]?) : Rows e w' O cs xs := by
  induction xs generalizing cs with
  | nil => exact h
  | cons x xs ih => obtain ⟨c1, c2, rfl, h1, h2⟩ := h; exact ⟨c1, c2, rfl, e.loc h1 hw, ih h2⟩
theorem Rows.dup (h : Rows e w O cs xs) : Rows e w (fun b => min (O b) 1) cs xs := by
  induction xs generalizing cs with
  | nil => exact h
  | cons x xs ih => obtain ⟨c1, c2, rfl, h1, h2⟩ := h; exact ⟨c1, c2, rfl, e.dup h1, ih h2⟩
theorem Rows.length (h : Rows e w O cs xs) : cs.length = xs.length * e.n := by
  induction xs generalizing cs with
  | nil => cases h; simp
  | cons x xs ih => obtain ⟨c1, c2, rfl, h1, h2⟩ := h; rw [List.length_append, e.len h1, ih h2, List.length_cons, Nat.add_mul]; omega
theorem Rows.one (h : Rows e w O cs xs) : ∀ u ∈ cs, u.oneCell' = true := by
  induction xs generalizing cs with
  | nil => cases h; simp
  | cons x xs ih =>
    obtain ⟨c1, c2, rfl, h1, h2⟩ := h
    intro u hu
    rcases List.mem_append.1 hu with hu | hu
    · exact e.one h1 u hu
    · exact ih h2 u hu
theorem Rows.append {ds : List Value} {ys : List α} (h : Rows e w O cs xs) (k : Rows e w O ds ys) : Rows e w O (cs ++ ds) (xs ++ ys) := by
  induction xs generalizing cs with
  | nil => cases h; exact k
  | cons x xs ih => obtain ⟨c1, c2, rfl, h1, h2⟩ := h; exact ⟨c1, c2 ++ ds, by simp, h1, ih h2⟩
theorem Rows.take (h : Rows e w O cs xs) (k : Nat) : Rows e w O (cs.take (k * e.n)) (xs.take k) := by
  induction xs generalizing cs k with
  | nil => cases h; simp [Rows]
  | cons x xs ih =>
    obtain ⟨c1, c2, rfl, h1, h2⟩ := h
    cases k with
    | zero => simp [Rows]
    | succ k =>
      have hl := e.len h1
      refine ⟨c1, c2.take (k * e.n), ?_, h1, ih h2 k⟩
      rw [List.take_append, hl, show (k + 1) * e.n - e.n = k * e.n by rw [Nat.add_mul]; omega, List.take_of_length_le (by rw [hl, Nat.add_mul]; omega)]
theorem Rows.drop (h : Rows e w O cs xs) (k : Nat) : Rows e w O (cs.drop (k * e.n)) (xs.drop k) := by
  induction xs generalizing cs k with
  | nil => cases h; simp [Rows]
  | cons x xs ih =>
    cases k with
    | zero => simpa using h
    | succ k =>
      obtain ⟨c1, c2, rfl, h1, h2⟩ := h
      have hl := e.len h1
      rw [List.drop_append, hl, show (k + 1) * e.n - e.n = k * e.n by rw [Nat.add_mul]; omega, List.drop_of_length_le (by rw [hl, Nat.add_mul]; omega)]
      exact ih h2 k
theorem Rows.get (h : Rows e w O cs xs) {i : Nat} {x : α} (hx : xs[i]? = some x) : ∃ c, e.rd w O c x ∧ ∀ j u, c[j]? = some u → cs[i * e.n + j]? = some u := by
  induction xs generalizing cs i with
  | nil => simp at hx
  | cons y xs ih =>
    obtain ⟨c1, c2, rfl, h1, h2⟩ := h
    cases i with
    | zero =>
      simp only [List.getElem?_cons_zero, Option.some.injEq] at hx
      subst hx
      refine ⟨c1, h1, fun j u hj => ?_⟩
      have : j < c1.length := by
        rcases Nat.lt_or_ge j c1.length with h | h
        · exact h
        · rw [List.getElem?_eq_none h] at hj; cases hj
      rw [Nat.zero_mul, Nat.zero_add, List.getElem?_append_left this]; exact hj
    | succ i =>
      obtain ⟨c, hc, hj⟩ := ih h2 (i := i) (by simpa using hx)
      refine ⟨c, hc, fun j u hu => ?_⟩
      have hl := e.len h1
      rw [List.getElem?_append_right (by rw [hl, Nat.add_mul]; omega), hl, show (i + 1) * e.n + j - e.n = i * e.n + j by rw [Nat.add_mul]; omega]
      exact hj j u hu
theorem Rows.set (h : Rows e w O cs xs) {i : Nat} {x : α} {c : List Value} (hc : e.rd w O c x) (hi : i < xs.length) : Rows e w O (cs.take (i * e.n) ++ c ++ cs.drop ((i + 1) * e.n)) (xs.set i x) := by
  have h1 := h.take i
  have h2 := h.drop (i + 1)
  rw [List.set_eq_take_append_cons_drop, if_pos hi, List.append_assoc]
  exact h1.append ⟨c, cs.drop ((i + 1) * e.n), rfl, hc, h2⟩
end

/-! ### slices that are read -/
def SlP {α : Type} (e : Enc α) (w : World) (O : Perm) (v : Value) (xs : List α) : Prop :=
  ∃ a cap, v = .slice a xs.length cap ∧ xs.length ≤ cap ∧ cap ≤ maxLen ∧
    (((a = none ∨ cap = 0) ∧ xs = []) ∨ ∃ b off cs, a = some ⟨b, off, none⟩ ∧ 1 ≤ O b ∧ Rows e w O cs xs ∧ ∀ j u, cs[j]? = some u → w.cell? ⟨b, off + j, none⟩ = some u)

theorem SlP.mono {α : Type} {e : Enc α} {w : World} {O O' : Perm} {v : Value} {xs : List α} (h : SlP e w O v xs) (hO : ∀ b, O b ≤ O' b) : SlP e w O' v xs := by
  obtain ⟨a, cap, rfl, h1, h2, h3⟩ := h
  refine ⟨a, cap, rfl, h1, h2, h3.imp id ?_⟩
  rintro ⟨b, off, cs, rfl, hb, hr, hc⟩
  exact ⟨b, off, cs, rfl, Nat.le_trans hb (hO b), hr.mono hO, hc⟩
theorem SlP.loc {α : Type} {e : Enc α} {w w' : World} {O : Perm} {v : Value} {xs : List α} (h : SlP e w O v xs) (hw : ∀ b, O b ≠ 0 → w'.heap[b]? = w.heap[b]?) : SlP e w' O v xs := by
  obtain ⟨a, cap, rfl, h1, h2, h3⟩ := h
  refine ⟨a, cap, rfl, h1, h2, h3.imp id ?_⟩
  rintro ⟨b, off, cs, rfl, hb, hr, hc⟩
  refine ⟨b, off, cs, rfl, hb, hr.loc hw, fun j u hj => ?_⟩
  rw [World.cell?_of_block (w := w) (hw b (by omega))]
  exact hc j u hj
theorem SlP.dup {α : Type} {e : Enc α} {w : World} {O : Perm} {v : Value} {xs : List α} (h : SlP e w O v xs) : SlP e w (fun b => min (O b) 1) v xs := by
  obtain ⟨a, cap, rfl, h1, h2, h3⟩ := h
  refine ⟨a, cap, rfl, h1, h2, h3.imp id ?_⟩
  rintro ⟨b, off, cs, rfl, hb, hr, hc⟩
  exact ⟨b, off, cs, rfl, by show 1 ≤ min (O b) 1; omega, hr.dup, hc⟩

/-- v reads as xs. -/
def Sl {α : Type} (e : Enc α) (v : Value) (xs : List α) : A := ⟨fun w O => SlP e w O v xs, SlP.mono, SlP.loc⟩
theorem Sl.isDup {α : Type} (e : Enc α) (v : Value) (xs : List α) : (Sl e v xs).Dup := fun _ _ h => SlP.dup h

/-! ### rows of one's own -/
/-- v is a row of one's own (elements of type T): it may be appended to; what its elements lead to is read. -/
def Own {α : Type} (e : Enc α) (T : TypeId) (v : Value) (xs : List α) : A where
  h := fun w O => ∃ O1 O2 cs, Split O O1 O2 ∧ w.ownsRow 0 T e.n v xs.length cs ∧ (∀ k, v.ownBlock = some k → 2 ≤ O1 k) ∧ Rows e w O2 cs xs
  mono := fun ⟨O1, O2, cs, s, h1, h2, h3⟩ hO => ⟨O1, O2, cs, s.mono hO, h1, h2, h3⟩
  loc := fun {w w' O} ⟨O1, O2, cs, s, h1, h2, h3⟩ hw => by
    refine ⟨O1, O2, cs, s, ⟨h1.1, h1.2.imp id ?_⟩, h2, h3.loc fun b hb => hw b (by have := s.r b; omega)⟩
    rintro ⟨g, cap, cur, rfl, hg, hh, r⟩
    have := h2 g (by simp [Value.ownBlock])
    exact ⟨g, cap, cur, rfl, hg, (hw g (by have := s.l g; omega)).trans hh, r⟩

theorem Own.sl {α : Type} {e : Enc α} {T : TypeId} {v : Value} {xs : List α} {w : World} {O : Perm} (h : (Own e T v xs).h w O) : (Sl e v xs).h w O := by
  obtain ⟨O1, O2, cs, s, h1, h2, h3⟩ := h
  rcases h1.2 with ⟨rfl, h0⟩ | ⟨g, cap, cur, rfl, _, hg, hle, hmx, hcs, htk⟩
  · have : xs = [] := List.eq_nil_of_length_eq_zero h0
    subst this
    exact ⟨none, 0, rfl, Nat.le_refl _, Nat.zero_le _, .inl ⟨.inl rfl, rfl⟩⟩
  · refine ⟨some ⟨g, 0, none⟩, cap, rfl, hle, hmx, .inr ⟨g, 0, cs, rfl, by have := h2 g (by simp [Value.ownBlock]); have := s.l g; omega, h3.mono s.r, fun j u hj => ?_⟩⟩
    have hjl : j < xs.length * e.n := by
      rcases Nat.lt_or_ge j cs.length with h | h
      · rw [h3.length] at h; exact h
      · rw [List.getElem?_eq_none h] at hj; cases hj
    simp only [World.cell?, hg, Nat.zero_add]
    rw [← htk, List.getElem?_take, if_pos hjl] at hj
    simpa using hj
theorem Own.nil {α : Type} (e : Enc α) (T : TypeId) (w : World) (O : Perm) : (Own e T (.slice none 0 0) ([] : List α)).h w O :=
  ⟨fun _ => 0, fun _ => 0, [], ⟨fun _ => Nat.zero_le _, fun _ => Nat.zero_le _, fun _ _ => rfl, fun _ _ => rfl⟩, ⟨by simp, .inl ⟨rfl, rfl⟩⟩, fun k hk => by simp [Value.ownBlock] at hk, rfl⟩
theorem Sl.nil {α : Type} (e : Enc α) (w : World) (O : Perm) : (Sl e (.slice none 0 0) ([] : List α)).h w O := Own.sl (T := 0) (Own.nil e 0 w O)

/-! ### blocks -/
/-- Block b is one's own, of type T, and holds just cs. -/
def Blk (b : Nat) (T : TypeId) (cs : List Value) : A where
  h := fun w O => 2 ≤ O b ∧ w.heap[b]? = some (.cells cs.toArray T (0, 0))
  mono := fun ⟨h1, h2⟩ hO => ⟨Nat.le_trans h1 (hO b), h2⟩
  loc := fun ⟨h1, h2⟩ hw => ⟨h1, (hw b (by omega)).trans h2⟩
/-- Block b may be read, and holds just cs. -/
def BlkR (b : Nat) (T : TypeId) (cs : List Value) : A where
  h := fun w O => 1 ≤ O b ∧ ∃ fz, w.heap[b]? = some (.cells cs.toArray T fz)
  mono := fun ⟨h1, h2⟩ hO => ⟨Nat.le_trans h1 (hO b), h2⟩
  loc := fun ⟨h1, fz, h2⟩ hw => ⟨h1, fz, (hw b (by omega)).trans h2⟩
theorem BlkR.isDup (b : Nat) (T : TypeId) (cs : List Value) : (BlkR b T cs).Dup := fun _ _ ⟨h1, h2⟩ => ⟨by show 1 ≤ min _ 1; omega, h2⟩
theorem Blk.r {b : Nat} {T : TypeId} {cs : List Value} {w : World} {O : Perm} (h : (Blk b T cs).h w O) : (BlkR b T cs).h w O := ⟨by have := h.1; omega, _, h.2⟩
/-- Cells that read as x. -/
def Rd {α : Type} (e : Enc α) (cs : List Value) (x : α) : A := ⟨fun w O => e.rd w O cs x, e.mono, e.loc⟩
theorem Rd.isDup {α : Type} (e : Enc α) (cs : List Value) (x : α) : (Rd e cs x).Dup := fun _ _ h => e.dup h
def Pu (p : Prop) : A := ⟨fun _ _ => p, fun h _ => h, fun h _ => h⟩
def ExA {γ : Type} (f : γ → A) : A := ⟨fun w O => ∃ g, (f g).h w O, fun ⟨g, h⟩ hO => ⟨g, (f g).mono h hO⟩, fun ⟨g, h⟩ hw => ⟨g, (f g).loc h hw⟩⟩
/-- Several in one. -/
def AllA (l : List A) : A := ⟨fun w O => Stars l w O, Stars.mono, Stars.loc⟩

/-! ### encodings -/
def eInt (K : IntKind) : Enc Int where
  n := 1
  rd := fun _ _ cs x => cs = [.int K x]
  len := fun h => by rw [h]; rfl
  one := fun h u hu => by rw [h] at hu; simp at hu; rw [hu]; rfl
  mono := fun h _ => h
  loc := fun h _ => h
  dup := fun h => h
def eBool : Enc Bool where
  n := 1
  rd := fun _ _ cs x => cs = [.bool x]
  len := fun h => by rw [h]; rfl
  one := fun h u hu => by rw [h] at hu; simp at hu; rw [hu]; rfl
  mono := fun h _ => h
  loc := fun h _ => h
  dup := fun h => h
def eStr : Enc ByteArray where
  n := 1
  rd := fun _ _ cs x => cs = [.string x]
  len := fun h => by rw [h]; rfl
  one := fun h u hu => by rw [h] at hu; simp at hu; rw [hu]; rfl
  mono := fun h _ => h
  loc := fun h _ => h
  dup := fun h => h
def ePair {α β : Type} (e : Enc α) (f : Enc β) : Enc (α × β) where
  n := e.n + f.n
  rd := fun w O cs x => ∃ c1 c2, cs = c1 ++ c2 ∧ e.rd w O c1 x.1 ∧ f.rd w O c2 x.2
  len := fun ⟨c1, c2, h, h1, h2⟩ => by rw [h, List.length_append, e.len h1, f.len h2]
  one := fun ⟨c1, c2, h, h1, h2⟩ u hu => by
    rw [h] at hu
    rcases List.mem_append.1 hu with hu | hu
    · exact e.one h1 u hu
    · exact f.one h2 u hu
  mono := fun ⟨c1, c2, h, h1, h2⟩ hO => ⟨c1, c2, h, e.mono h1 hO, f.mono h2 hO⟩
  loc := fun ⟨c1, c2, h, h1, h2⟩ hw => ⟨c1, c2, h, e.loc h1 hw, f.loc h2 hw⟩
  dup := fun ⟨c1, c2, h, h1, h2⟩ => ⟨c1, c2, h, e.dup h1, f.dup h2⟩
def eMap {α β : Type} (g : α → β) (e : Enc β) : Enc α where
  n := e.n
  rd := fun w O cs x => e.rd w O cs (g x)
  len := fun h => e.len h
  one := fun h => e.one h
  mono := fun h hO => e.mono h hO
  loc := fun h hw => e.loc h hw
  dup := fun h => e.dup h
def eSl {α : Type} (e : Enc α) : Enc (List α) where
  n := 1
  rd := fun w O cs xs => ∃ v, cs = [v] ∧ SlP e w O v xs
  len := fun ⟨_, h, _⟩ => by rw [h]; rfl
  one := fun ⟨v, h, a, cap, hv, _⟩ u hu => by rw [h] at hu; simp at hu; rw [hu, hv]; rfl
  mono := fun ⟨v, h, h1⟩ hO => ⟨v, h, h1.mono hO⟩
  loc := fun ⟨v, h, h1⟩ hw => ⟨v, h, h1.loc hw⟩
  dup := fun ⟨v, h, h1⟩ => ⟨v, h, h1.dup⟩

/-! ### elements -/
/-- Where element i of a slice lies. -/
def elemAddr : Value → Nat → Nat → Addr
  | .slice (some a) _ _, i, n => ⟨a.block, a.off + i * n, none⟩
  | _, _, _ => ⟨0, 0, none⟩
/-- Element i of v reads as z: its cells, with what they lead to beside. -/
def Elem {α : Type} (L : List A) (e : Enc α) (v : Value) (i : Nat) (z : α) : Prop :=
  ∀ w O, Stars L w O → ∃ c, Stars (Rd e c z :: L) w O ∧ (∃ b, 1 ≤ O b ∧ (elemAddr v i e.n).block = b) ∧ ∀ j u, c[j]? = some u → w.cell? ⟨(elemAddr v i e.n).block, (elemAddr v i e.n).off + j, none⟩ = some u
/-- What may be lent. -/
def Lend (a b : A) : Prop := ∀ w O, a.h w O → ∃ O1 O2, Split O O1 O2 ∧ a.h w O1 ∧ b.h w O2 ∧ ∀ q, O2 q ≤ 1
theorem Lend.dup {a b : A} (hd : a.Dup) (h : ∀ w O, a.h w O → b.h w O) : Lend a b := fun w O ha =>
  ⟨fun b => min (O b) 1, fun b => min (O b) 1, ⟨fun _ => by show min _ _ ≤ _; omega, fun _ => by show min _ _ ≤ _; omega, fun _ h => by have h' : 2 ≤ min _ 1 := h; omega, fun _ h => by have h' : 2 ≤ min _ 1 := h; omega⟩, hd w O ha, h _ _ (hd w O ha), fun _ => by show min _ 1 ≤ 1; omega⟩
theorem Lend.pick {a b : A} {L L' : List A} (hp : Pick a L L') (hl : Lend a b) : ∀ w O, Stars L w O → Stars (b :: a :: L') w O := by
  intro w O hs
  obtain ⟨O1, O2, s, h1, h2⟩ := hp w O hs
  obtain ⟨P1, P2, t, g1, g2, _⟩ := hl w O1 h1
  refine ⟨P2, fun b => max (P1 b) (O2 b), ⟨fun b => ?_, fun b => ?_, fun b => ?_, fun b => ?_⟩, g2, P1, O2, ⟨fun b => ?_, fun b => ?_, fun b => ?_, fun b => ?_⟩, g1, h2⟩ <;>
    (have := s.l b; have := s.r b; have := s.lr b; have := s.rl b; have := t.l b; have := t.r b; have := t.lr b; have := t.rl b; omega)
/-- Something lent lies beside the list itself. -/
def Beside (b : A) (L : List A) : Prop := ∀ w O, Stars L w O → Stars (b :: L) w O
theorem Beside.here {a b : A} {L : List A} (hl : Lend a b) : Beside b (a :: L) := Lend.pick Pick.here hl
theorem Beside.there {a b : A} {L : List A} (h : Beside b L) : Beside b (a :: L) := by
  intro w O hs
  obtain ⟨O1, O2, s, h1, h2⟩ := hs
  obtain ⟨P1, P2, t, g1, g2⟩ := h w O2 h2
  refine ⟨P1, fun b => max (O1 b) (P2 b), ⟨fun b => ?_, fun b => ?_, fun b => ?_, fun b => ?_⟩, g1, O1, P2, ⟨fun b => ?_, fun b => ?_, fun b => ?_, fun b => ?_⟩, h1, g2⟩ <;>
    (have := s.l b; have := s.r b; have := s.lr b; have := s.rl b; have := t.l b; have := t.r b; have := t.lr b; have := t.rl b; omega)

theorem cell_in {cs : List Value} {j : Nat} {u : Value} (h : cs[j]? = some u) : j < cs.length := by
  rcases Nat.lt_or_ge j cs.length with h' | h'
  · exact h'
  · rw [List.getElem?_eq_none h'] at h; cases h

theorem SlP.elem {α : Type} {e : Enc α} {w : World} {O : Perm} {v : Value} {zs : List α} (h : SlP e w O v zs) {i : Nat} {z : α} (hz : zs[i]? = some z) :
    ∃ c, e.rd w O c z ∧ 1 ≤ O (elemAddr v i e.n).block ∧ ∀ j u, c[j]? = some u → w.cell? ⟨(elemAddr v i e.n).block, (elemAddr v i e.n).off + j, none⟩ = some u := by
  obtain ⟨a, cap, rfl, h1, h2, h3⟩ := h
  rcases h3 with ⟨_, rfl⟩ | ⟨b, off, cs, rfl, hb, hr, hc⟩
  · simp at hz
  · obtain ⟨c, hc1, hc2⟩ := hr.get hz
    refine ⟨c, hc1, hb, fun j u hj => ?_⟩
    have := hc _ u (hc2 j u hj)
    simpa [elemAddr, Nat.add_assoc] using this

theorem Elem.sl {α : Type} {e : Enc α} {v : Value} {zs : List α} {L : List A} {i : Nat} {z : α} (hz : zs[i]? = some z) : Elem (Sl e v zs :: L) e v i z := by
  intro w O hs
  obtain ⟨O1, O2, s, h1, h2⟩ := hs
  have hd := SlP.dup h1
  obtain ⟨c, hc, hb, hcell⟩ := SlP.elem hd hz
  refine ⟨c, ⟨fun b => min (O1 b) 1, fun b => max (min (O1 b) 1) (O2 b), ⟨fun b => ?_, fun b => ?_, fun b => ?_, fun b => ?_⟩, hc, fun b => min (O1 b) 1, O2, ⟨fun b => ?_, fun b => ?_, fun b => ?_, fun b => ?_⟩, hd, h2⟩,
    ⟨_, Nat.le_trans (Nat.le_trans hb (by show min _ _ ≤ _; omega)) (s.l _), rfl⟩, hcell⟩ <;>
    (have := s.l b; have := s.r b; have := s.lr b; have := s.rl b; omega)
theorem Elem.own {α : Type} {e : Enc α} {T : TypeId} {v : Value} {zs : List α} {L : List A} {i : Nat} {z : α} (hz : zs[i]? = some z) : Elem (Own e T v zs :: L) e v i z := by
  intro w O hs
  obtain ⟨O1, O2, s, h1, h2⟩ := hs
  obtain ⟨c0, _, hb, hcell0⟩ := SlP.elem (Own.sl h1) hz
  obtain ⟨P1, P2, cs, t, g1, g2, g3⟩ := h1
  have hd := g3.dup
  obtain ⟨c, hc, hcj⟩ := hd.get hz
  have hcell : ∀ j u, c[j]? = some u → w.cell? ⟨(elemAddr v i e.n).block, (elemAddr v i e.n).off + j, none⟩ = some u := by
    intro j u hj
    have hcs := hcj j u hj
    rcases g1.2 with ⟨rfl, h0⟩ | ⟨g, cap, cur, rfl, _, hg, hle, hmx, hcs', htk⟩
    · have : zs = [] := List.eq_nil_of_length_eq_zero h0
      subst this; simp at hz
    · have hl := cell_in hcs
      rw [g3.length] at hl
      simp only [elemAddr, World.cell?, hg, Nat.zero_add]
      rw [← htk, List.getElem?_take, if_pos hl] at hcs
      simpa using hcs
  refine ⟨c, ⟨fun b => min (P2 b) 1, fun b => max (max (P1 b) (min (P2 b) 1)) (O2 b), ⟨fun b => ?_, fun b => ?_, fun b => ?_, fun b => ?_⟩, hc, fun b => max (P1 b) (min (P2 b) 1), O2, ⟨fun b => ?_, fun b => ?_, fun b => ?_, fun b => ?_⟩,
    ⟨P1, fun b => min (P2 b) 1, cs, ⟨fun b => ?_, fun b => ?_, fun b => ?_, fun b => ?_⟩, g1, g2, hd⟩, h2⟩, ⟨_, Nat.le_trans hb (s.l _), rfl⟩, hcell⟩ <;>
    (have := s.l b; have := s.r b; have := s.lr b; have := s.rl b; have := t.l b; have := t.r b; have := t.lr b; have := t.rl b; omega)
theorem Elem.there {α : Type} {e : Enc α} {v : Value} {a : A} {L : List A} {i : Nat} {z : α} (h : Elem L e v i z) : Elem (a :: L) e v i z := by
  intro w O hs
  obtain ⟨O1, O2, s, h1, h2⟩ := hs
  obtain ⟨c, hs2, ⟨b, hb, hbe⟩, hcell⟩ := h w O2 h2
  obtain ⟨P1, P2, t, g1, g2⟩ := hs2
  refine ⟨c, ⟨P1, fun b => max (O1 b) (P2 b), ⟨fun b => ?_, fun b => ?_, fun b => ?_, fun b => ?_⟩, g1, O1, P2, ⟨fun b => ?_, fun b => ?_, fun b => ?_, fun b => ?_⟩, h1, g2⟩, ⟨b, Nat.le_trans hb (s.r b), hbe⟩, hcell⟩ <;>
    (have := s.l b; have := s.r b; have := s.lr b; have := s.rl b; have := t.l b; have := t.r b; have := t.lr b; have := t.rl b; omega)

/-! ### getting at what a list says -/
theorem Has.sl_own {α : Type} {e : Enc α} {T : TypeId} {v : Value} {xs : List α} {L : List A} : Has (Own e T v xs :: L) (Sl e v xs) := Has.here.imp fun _ _ h => Own.sl h
theorem Has.r_blk {b : Nat} {T : TypeId} {cs : List Value} {L : List A} : Has (Blk b T cs :: L) (BlkR b T cs) := Has.here.imp fun _ _ h => Blk.r h

section
variable {X : Cx} {k : List Item} {env : Env} {L : List A} {ops : Array Oper} {l : List Oper}
theorem c_ex {γ : Type} {f : γ → A} (h : ∀ g, Cfg X k env (f g :: L)) : Cfg X k env (ExA f :: L) := by
  intro a w O ha hs hr
  obtain ⟨O1, O2, s, ⟨g, hg⟩, h2⟩ := hs
  exact h g a w O ha ⟨O1, O2, s, hg, h2⟩ hr
/-- Something that follows is laid beside. -/
theorem Ent.beside {b : A} {L : List A} (hb : ∀ w O, Stars L w O → b.h w fun _ => 0) : Ent L (b :: L) := fun w O hs =>
  ⟨fun _ => 0, O, ⟨fun b => Nat.zero_le _, fun b => Nat.le_refl _, fun b h => by omega, fun b h => rfl⟩, hb w O hs, hs⟩
theorem Ent.drop {b : A} {L : List A} : Ent (b :: L) L := fun w O hs => by
  obtain ⟨O1, O2, s, _, h2⟩ := hs
  exact h2.mono s.r
theorem Ent.cons {b : A} {L L' : List A} (h : Ent L L') : Ent (b :: L) (b :: L') := fun w O hs => by
  obtain ⟨O1, O2, s, h1, h2⟩ := hs
  exact ⟨O1, O2, s, h1, h w O2 h2⟩
theorem Ent.head {a b : A} {L : List A} (h : ∀ w O, a.h w O → b.h w O) : Ent (a :: L) (b :: L) := fun w O hs => by
  obtain ⟨O1, O2, s, h1, h2⟩ := hs
  exact ⟨O1, O2, s, h _ _ h1, h2⟩
/-- What is read may be laid beside once more, in another form. -/
theorem Ent.share {a b : A} {L L' : List A} (hp : Pick a L L') (hd : a.Dup) (hab : ∀ w O, a.h w O → b.h w O) : Ent L (b :: a :: L') := fun w O hs => by
  obtain ⟨O1, O2, s, h1, h2⟩ := (Pick.keep (l := L') hd) w O (hp w O hs)
  exact ⟨O1, O2, s, hab _ _ h1, h2⟩
end
end Go.SL
/- The rules of the operations on memory, and of calls. -/
namespace Go.SL
open Go

def evalAll (e : Env) : List Operand → Option (List Value)
  | [] => some []
  | x :: xs => match e.eval x, evalAll e xs with
    | some v, some vs => some (v :: vs)
    | _, _ => none
theorem Holds.all {X : Cx} {e : Env} {a : Act} (h : Holds X e a) : ∀ {xs : List Operand} {vs : List Value}, evalAll e xs = some vs → xs.map a.eval = vs
  | [], vs, hv => by simp [evalAll] at hv; simp [hv]
  | x :: xs, vs, hv => by
    unfold evalAll at hv
    split at hv
    · rename_i v vs' h1 h2
      cases hv
      rw [List.map_cons, h.eval h1, h.all h2]
    · cases hv

/-- A function with a body. -/
def Callable (P : Program) (f : FuncId) : Prop := ∀ args w, (callFunc f args).run P w = .ok (.enter f args) w
theorem callable_of {P : Program} {f : FuncId} {fn : Func} (hf : P.funcs[f]? = some fn) (hn : (fn.name == "runtime.NumGoroutine") = false) (hb : fn.body.isNone = false) : Callable P f := by
  intro args w
  have hb' : fn.body ≠ none := by intro h; rw [h] at hb; cases hb
  have hn' : fn.name ≠ "runtime.NumGoroutine" := by intro h; rw [h] at hn; simp at hn
  simp [callFunc, program, Sem.run, hf, hn', hb']

theorem Stars.app {l1 l2 : List A} {w : World} {O O1 O2 : Perm} (hs : Split O O1 O2) (h1 : Stars l1 w O1) (h2 : Stars l2 w O2) : Stars (l1 ++ l2) w O := by
  induction l1 generalizing O O1 with
  | nil => exact h2.mono hs.r
  | cons a l ih =>
    obtain ⟨P1, P2, t, g1, g2⟩ := h1
    refine ⟨P1, fun b => max (P2 b) (O2 b), ⟨fun b => ?_, fun b => ?_, fun b => ?_, fun b => ?_⟩, g1, ih (O := fun b => max (P2 b) (O2 b)) (O1 := P2) ⟨fun b => ?_, fun b => ?_, fun b => ?_, fun b => ?_⟩ g2⟩ <;>
      (have := hs.l b; have := hs.r b; have := hs.lr b; have := hs.rl b; have := t.l b; have := t.r b; have := t.lr b; have := t.rl b; omega)

/-- What is set aside stays, behind a step that touches the rest alone. -/
theorem frame {w w' : World} {O O1 O2 O' : Perm} {L2 : List A} (hdom : ∀ b, O b ≠ 0 → b < w.heap.size) (s : Split O O1 O2) (h2 : Stars L2 w O2) (hr : Rel w O1 w' O') :
    Split (fun b => max (O' b) (O2 b)) O' O2 ∧ Stars L2 w' O2 ∧ Rel w O w' (fun b => max (O' b) (O2 b)) := by
  have h2b : ∀ b, O2 b ≠ 0 → b < w.heap.size := fun b hb => hdom b (by have := s.r b; omega)
  refine ⟨⟨fun b => by omega, fun b => by omega, fun b hb => ?_, fun b hb => ?_⟩, h2.loc fun b hb => hr.old b (h2b b hb) ?_, ⟨hr.os, hr.tape, hr.output, hr.size, fun b hb hlt => hr.old b hb (by have := s.l b; omega), fun b hb => ?_, fun b hb => ?_⟩⟩
  · rcases Nat.lt_or_ge b w.heap.size with h | h
    · exact s.lr b (by have := hr.perm b h; omega)
    · rcases Nat.eq_zero_or_pos (O2 b) with h0 | h0
      · exact h0
      · exact absurd (h2b b (by omega)) (by omega)
  · have hb2 := h2b b (by omega)
    have := hr.perm b hb2
    have := s.rl b hb
    omega
  · have := s.lr b
    rcases Nat.lt_or_ge (O1 b) 2 with h | h
    · exact h
    · exact absurd (this h) hb
  · have := hr.perm b hb; have := s.l b; have := s.r b
    omega
  · by_cases h0 : O' b = 0
    · have : O2 b ≠ 0 := by
        have hb' : max (O' b) (O2 b) ≠ 0 := hb
        omega
      have := h2b b this; have := hr.size; omega
    · exact hr.dom b h0

/-! ### steps of the world -/
def fresh (w : World) (O : Perm) : Perm := fun b => if b = w.heap.size then 2 else O b
theorem rel_alloc {w : World} {O : Perm} (o : Obj) (hdom : ∀ b, O b ≠ 0 → b < w.heap.size) : Rel w O (w.alloc o) (fresh w O) := by
  refine ⟨rfl, rfl, rfl, by simp, fun b hb _ => ?_, fun b hb => ?_, fun b hb => ?_⟩
  · show (w.heap.push o)[b]? = _
    rw [Array.getElem?_push, if_neg (by omega)]
  · simp only [fresh]; rw [if_neg (by omega)]; omega
  · show b < (w.heap.push o).size
    simp only [Array.size_push]
    by_cases h : b = w.heap.size
    · omega
    · simp only [fresh, if_neg h] at hb; have := hdom b hb; omega
theorem stars_alloc {w : World} {O : Perm} {L : List A} {a : A} (o : Obj) (hdom : ∀ b, O b ≠ 0 → b < w.heap.size) (hs : Stars L w O) (ha : a.h (w.alloc o) fun b => if b = w.heap.size then 2 else 0) :
    Stars (a :: L) (w.alloc o) (fresh w O) := by
  have hn : O w.heap.size = 0 := by
    rcases Nat.eq_zero_or_pos (O w.heap.size) with h | h
    · exact h
    · have := hdom w.heap.size (by omega); omega
  refine ⟨_, O, ⟨fun b => ?_, fun b => ?_, fun b hb => ?_, fun b hb => ?_⟩, ha, hs.loc fun b hb => ?_⟩
  · simp only [fresh]; split <;> omega
  · simp only [fresh]; split
    · rename_i h; rw [h, hn]; omega
    · omega
  · by_cases h : b = w.heap.size
    · rw [h, hn]
    · simp [h] at hb
  · by_cases h : b = w.heap.size
    · rw [h, hn] at hb; omega
    · simp [h]
  · show (w.heap.push o)[b]? = _
    have := hdom b hb
    rw [Array.getElem?_push, if_neg (by omega)]
theorem heap_alloc (w : World) (o : Obj) : (w.alloc o).heap[w.heap.size]? = some o := by
  show (w.heap.push o)[w.heap.size]? = _
  simp

section
variable {K : Act → World → Prop} {X : Cx} {ops : Array Oper} {rest : List Oper} {kk : List Item} {env : Env} {L L1 : List A} {d : Nat} {T : TypeId} {pos : String} {af : Array Edge} {x y : Operand}

/-- A call. -/
theorem s_call {γ : Type} {ret : γ → Value} {pu : γ → Prop} {L' : γ → List A} {f : Operand} {g : FuncId} {first cap : List Value} {xs : List Operand} {args vs : List Value} {ts : Array TypeId} {Lp : List A}
    (hc : Callable X.P g) (spec : Con X.P g args Lp ret pu L')
    (hf : env.eval f = some (.func (.func g) first.toArray cap.toArray)) (hx : evalAll env xs = some vs) (hv : args = first ++ vs ++ cap) (hd : d < X.fn.ntmps) (hp : Picks Lp L L1)
    (k : ∀ g, pu g → Kont X ((d, ret g) :: env) (L' g ++ L1) K) :
    StepK X kk ⟨some d, .call ⟨.value f, xs.toArray, ts⟩, T, pos, af, none⟩ env L K := by
  intro a w O ha hs hr
  have hrun : (execOp a.eval ⟨some d, .call ⟨.value f, xs.toArray, ts⟩, T, pos, af, none⟩).run X.P w = .ok (.enter g args.toArray) w := by
    have h1 := ha.all hx
    have hargs : first.toArray ++ (xs.map a.eval).toArray ++ cap.toArray = args.toArray := by rw [h1, hv]; simp
    simp only [execOp, resolve, ha.eval hf, Deferred.ofValue, pure_bind, invoke, List.map_toArray]
    rw [hargs]
    exact hc _ _
  simp only [Oper.wp, hrun, Oper.upon]
  obtain ⟨O1, O2, s, h1, h2⟩ := hp.split w O hs
  refine (spec w O1 h1 (fun b hb => hr.dom b (by have := s.l b; omega))).mono ?_
  rintro e w' ⟨g, O', rfl, hpu, hL, hrel⟩
  obtain ⟨s', h2', hrel'⟩ := frame hr.dom s h2 hrel
  exact k g hpu _ w' _ (ha.put hd _) (Stars.app s' hL h2') (hr.trans hrel')
/-- A call of a function by its name. -/
theorem s_callf {γ : Type} {ret : γ → Value} {pu : γ → Prop} {L' : γ → List A} {g : FuncId} {xs : List Operand} {args : List Value} {ts : Array TypeId} {Lp : List A}
    (hc : Callable X.P g) (spec : Con X.P g args Lp ret pu L') (hx : evalAll env xs = some args) (hd : d < X.fn.ntmps) (hp : Picks Lp L L1)
    (k : ∀ g, pu g → Kont X ((d, ret g) :: env) (L' g ++ L1) K) :
    StepK X kk ⟨some d, .call ⟨.value (.func g), xs.toArray, ts⟩, T, pos, af, none⟩ env L K :=
  s_call hc spec (first := []) (cap := []) rfl hx (by simp) hd hp k

/-! ### slices -/
variable {α : Type} {e : Enc α} {v u : Value} {zs ys : List α} {E : TypeId}
theorem v_len_sl {t : TypeId} (hu : X.P.underlying t = some (.slice E)) (hx : env.eval x = some v) (hs : Has L (Sl e v zs)) : Val X env L (.call ⟨.builtin .len, #[x], #[t]⟩) T (.int .i64 zs.length) :=
  fun _ _ _ _ a w O ha hl => by
    obtain ⟨a0, cap, rfl, _⟩ := hs w O hl
    simp [execOp, resolve, invoke, builtin, Builtin.len_, ha.eval hx, run_underlying hu, goInt]

/-- The cells of an element's type. -/
def TI (P : Program) (t : TypeId) (z : Value) (n b : Nat) : Prop := ∃ i, P.info? t = some i ∧ i.zero = some z ∧ i.size = n ∧ i.bytes = b
theorem ti_of {P : Program} {t : TypeId} {z : Value} {n b : Nat} (h : (P.info? t).map (fun i => (i.zero, i.size, i.bytes)) = some (some z, n, b)) : TI P t z n b := by
  cases hi : P.info? t with
  | none => rw [hi] at h; cases h
  | some i =>
    rw [hi] at h
    simp only [Option.map_some, Option.some.injEq, Prod.mk.injEq] at h
    exact ⟨i, hi, h.1, h.2.1, h.2.2⟩
theorem v_indexAddr {t : TypeId} {K : IntKind} {n : Int} {z0 : Value} {bt : Nat} (hu : X.P.underlying t = some (.slice E)) (hE : TI X.P E z0 e.n bt) (hx : env.eval x = some v) (hy : env.eval y = some (.int K n))
    (hs : Has L (Sl e v zs)) (hb : 0 ≤ n ∧ n < zs.length) :
    Val X env L (.indexAddr t x y) T (.pointer (some (elemAddr v n.toNat e.n))) := by
  intro _ _ _ _ a w O ha hl
  obtain ⟨a0, cap, rfl, h1, h2, h3⟩ := hs w O hl
  obtain ⟨i, hi, _, hsz, _⟩ := hE
  rcases h3 with ⟨_, rfl⟩ | ⟨b, off, cs, rfl, _, _, _⟩
  · simp at hb; omega
  · have hadd : (⟨b, off, none⟩ : Addr).add (n.toNat * i.size) = elemAddr (.slice (some ⟨b, off, none⟩) zs.length cap) n.toNat e.n := by
      rw [hsz]
      show (if n.toNat * e.n = 0 then _ else _) = (⟨b, off + n.toNat * e.n, none⟩ : Addr)
      split
      · rename_i h; rw [h, Nat.add_zero]
      · rfl
    simp [execOp, ha.eval hx, ha.eval hy, Instr.indexAt, asIntOf, run_underlying hu, sizeOf, typeInfo, hi, hb, hadd]

/-- A type whose values have one cell, and are no struct. -/
def Lone (P : Program) (t : TypeId) : Prop := ∃ dsc, P.underlying t = some dsc ∧ (∀ g, dsc ≠ .struct g) ∧ ∀ n e, dsc ≠ .array n e
def loneB : TypeDesc → Bool
  | .struct _ | .array _ _ => false
  | _ => true
theorem lone_of {P : Program} {t : TypeId} {d : TypeDesc} (h : P.underlying t = some d) (hb : loneB d = true) : Lone P t :=
  ⟨d, h, (fun g e => by rw [e] at hb; cases hb), (fun n e h => by rw [h] at hb; cases hb)⟩
theorem Lone.run {P : Program} {t : TypeId} (h : Lone P t) (w : World) : (isAgg t).run P w = .ok false w := by
  obtain ⟨dsc, hu, h1, h2⟩ := h
  simp only [isAgg, Sem.run_bind, run_underlying hu, Result.andThen_ok]
  cases dsc <;> first | rfl | exact absurd rfl (h1 _) | exact absurd rfl (h2 _ _)
theorem run_loadLone {P : Program} {t : TypeId} {a : Addr} {w : World} {u : Value} (h : Lone P t) (hc : w.cell? a = some u) : (loadVar t a).run P w = .ok u w := by
  simp only [loadVar, Sem.run_bind, h.run, Result.andThen_ok]
  simp [hc]
/-- Some cells at an address. -/
def CellsAt (w : World) (a : Addr) (cs : List Value) : Prop := ∀ j u, cs[j]? = some u → w.cell? (a.add j) = some u
theorem run_loadAgg {P : Program} {t : TypeId} {a : Addr} {w : World} {cs : List Value} {i : TypeInfo} (h : ∃ fs, P.underlying t = some (.struct fs)) (hi : P.info? t = some i) (hn : i.size = cs.length) (hc : CellsAt w a cs) :
    (loadVar t a).run P w = .ok (.agg cs.toArray) w := by
  obtain ⟨fs, hu⟩ := h
  have hia : (isAgg t).run P w = .ok true w := by simp [isAgg, run_underlying hu]
  simp only [loadVar, Sem.run_bind, hia, Result.andThen_ok]
  have := run_loadCells_list (P := P) w a cs hc
  simp [sizeOf, typeInfo, hi, hn, this]

theorem v_field {i : Nat} {cs : Array Value} {u : Value} {xT : TypeId} {fs : Array Field} {f : Field} (hu : X.P.underlying xT = some (.struct fs)) (hf : fs[i]? = some f) (hv : Lone X.P f.type)
    (hx : env.eval x = some (.agg cs)) (hc : cs[f.offset]? = some u) : Val X env L (.field xT x i) T u :=
  fun _ _ _ _ a w O ha _ => by simp [execOp, ha.eval hx, Instr.field, run_underlying hu, hf, part, hv.run, hc, asAgg]
theorem v_indexAddrN {t : TypeId} {K : IntKind} {n : Nat} {z0 : Value} {bt : Nat} (hu : X.P.underlying t = some (.slice E)) (hE : TI X.P E z0 e.n bt) (hx : env.eval x = some v) (hy : env.eval y = some (.int K (n : Int)))
    (hs : Has L (Sl e v zs)) (hb : n < zs.length) : Val X env L (.indexAddr t x y) T (.pointer (some (elemAddr v n e.n))) := by
  have := v_indexAddr (X := X) (T := T) hu hE hx hy hs ⟨by omega, by omega⟩
  simpa using this

theorem v_makeFunc {f : Fn} {az bs : List Operand} {us vs : List Value} (h1 : evalAll env az = some us) (h2 : evalAll env bs = some vs) : Val X env L (.makeFunc f az.toArray bs.toArray) T (.func f us.toArray vs.toArray) :=
  fun _ _ _ _ a w O ha _ => by simp [execOp, Instr.makeFunc, ha.all h1, ha.all h2]
/-- The same where the value is told by the element alone. -/
theorem v_load_val {i : Nat} {z : α} {t : TypeId} {f : α → Value} (ht : Lone X.P t) (hf : ∀ w O cs x, e.rd w O cs x → cs = [f x]) (hx : env.eval x = some (.pointer (some (elemAddr v i e.n))))
    (he : Elem L e v i z) : Val X env L (.load t x) T (f z) := by
  intro _ _ _ _ a w O ha hst
  obtain ⟨c, hs, _, hc⟩ := he w O hst
  have hl : c = [f z] := by
    obtain ⟨_, _, _, h, _⟩ := hs
    exact hf _ _ _ _ h
  subst hl
  have hcell := hc 0 _ rfl
  have hsp : (elemAddr v i e.n).spot = none := by unfold elemAddr; split <;> rfl
  have : elemAddr v i e.n = ⟨(elemAddr v i e.n).block, (elemAddr v i e.n).off + 0, none⟩ := by
    rw [Nat.add_zero]
    cases hh : elemAddr v i e.n
    rw [hh] at hsp
    simp only at hsp
    rw [hsp]
  rw [← this] at hcell
  simp [execOp, ha.eval hx, Instr.loadAt, Instr.sureAddr, run_loadLone ht hcell]
theorem v_load_str {i : Nat} {z : ByteArray} {t : TypeId} (ht : Lone X.P t) (hx : env.eval x = some (.pointer (some (elemAddr v i 1)))) (he : Elem L eStr v i z) : Val X env L (.load t x) T (.string z) :=
  v_load_val (e := eStr) ht (fun _ _ _ _ h => h) hx he
theorem v_load_int {i : Nat} {K : IntKind} {z : Int} {t : TypeId} (ht : Lone X.P t) (hx : env.eval x = some (.pointer (some (elemAddr v i 1)))) (he : Elem L (eInt K) v i z) : Val X env L (.load t x) T (.int K z) :=
  v_load_val (e := eInt K) ht (fun _ _ _ _ h => h) hx he
/-! ### cuts -/
theorem SlP.cut {w : World} {O : Perm} {a0 : Option Addr} {cap lo hi c' : Nat} (h : SlP e w O (.slice a0 zs.length cap) zs) (h1 : lo ≤ hi) (h2 : hi ≤ zs.length) (h3 : hi ≤ c') (h4 : c' ≤ cap) :
    SlP e w O (.slice (if c' = lo then a0 else a0.map (·.add (lo * e.n))) (hi - lo) (c' - lo)) ((zs.take hi).drop lo) := by
  obtain ⟨a, cap', hv, g1, g2, g3⟩ := h
  simp only [Value.slice.injEq, true_and] at hv
  obtain ⟨rfl, rfl⟩ := hv
  have hlen : ((zs.take hi).drop lo).length = hi - lo := by simp; omega
  refine ⟨_, _, by rw [hlen], by rw [hlen]; omega, by omega, ?_⟩
  rcases g3 with ⟨ha, rfl⟩ | ⟨b, off, cs, rfl, hb, hr, hc⟩
  · left; constructor
    · rcases ha with rfl | ha
      · left; split <;> rfl
      · right; omega
    · simp
  · right
    by_cases hc' : c' = lo
    · rw [if_pos hc']
      have : (zs.take hi).drop lo = [] := List.eq_nil_of_length_eq_zero (by rw [hlen]; omega)
      rw [this]
      exact ⟨b, off, [], rfl, hb, rfl, fun j u hj => by simp at hj⟩
    · rw [if_neg hc']
      refine ⟨b, off + lo * e.n, (cs.take (hi * e.n)).drop (lo * e.n), ?_, hb, (hr.take hi).drop lo, fun j u hj => ?_⟩
      · simp only [Option.map_some, Option.some.injEq, Addr.add]
        split
        · rename_i h; rw [h, Nat.add_zero]
        · rfl
      · rw [List.getElem?_drop, List.getElem?_take] at hj
        split at hj
        · have := hc _ u hj
          rwa [← Nat.add_assoc] at this
        · cases hj

/-- v[lo:hi], v[lo:], v[:hi], within the length. -/
theorem s_slice {t : TypeId} {z0 : Value} {bt sz : Nat} {lo hi : Option Operand} {l h : Nat} (hu : X.P.underlying t = some (.slice E)) (hE : TI X.P E z0 sz bt) (hx : env.eval x = some v) (hp : Pick (Sl e v zs) L L1) (hsz0 : e.n = sz)
    (hlo : (lo = none ∧ l = 0) ∨ ∃ o K n, lo = some o ∧ env.eval o = some (.int K n) ∧ 0 ≤ n ∧ n.toNat = l)
    (hhi : (hi = none ∧ h = zs.length) ∨ ∃ o K n, hi = some o ∧ env.eval o = some (.int K n) ∧ 0 ≤ n ∧ n.toNat = h)
    (h1 : l ≤ h) (h2 : h ≤ zs.length) (hd : d < X.fn.ntmps)
    (k : ∀ u, Kont X ((d, u) :: env) (Sl e u ((zs.take h).drop l) :: Sl e v zs :: L1) K) :
    StepK X kk ⟨some d, .slice t x lo hi none, T, pos, af, none⟩ env L K := by
  subst hsz0
  refine s_main (γ := Value) (V := fun u => u) (pu := fun _ => True) (L' := fun u => Sl e u ((zs.take h).drop l) :: Sl e v zs :: L1) ?_ hd (fun u _ => k u)
  intro a w O ha hst hdom
  obtain ⟨O1, O2, s, hs1, hs2⟩ := hp w O hst
  have hs1' := hs1
  obtain ⟨a0, cap, rfl, g1, g2, g3⟩ := hs1'
  obtain ⟨ti, hi', _, hsz, _⟩ := hE
  have hcut : ∀ w O, (Sl e (.slice a0 zs.length cap) zs).h w O → (Sl e (.slice (if cap = l then a0 else a0.map (·.add (l * e.n))) (h - l) (cap - l)) ((zs.take h).drop l)).h w O := fun w O hh => SlP.cut hh h1 h2 (by omega) (Nat.le_refl _)
  refine ⟨.slice (if cap = l then a0 else a0.map (·.add (l * e.n))) (h - l) (cap - l), w, O, ?_, trivial, ?_, Rel.refl hdom⟩
  · have hbl : ∀ {o : Operand} {K : IntKind} {n : Int} {m : Nat} {c : BoundsCode}, env.eval o = some (.int K n) → 0 ≤ n → n.toNat ≤ m → (Instr.sliceBound (a.eval o) m c).run X.P w = .ok n.toNat w := by
      intro o K n m c ho h0 hm
      rw [ha.eval ho, run_sliceBound (w := w) K n m c h0 (by omega)]
    have hbd : (Instr.sliceBounds true zs.length cap (lo.map a.eval) (hi.map a.eval) none).run X.P w = .ok (l, h, cap) w := by
      rcases hlo with ⟨rfl, rfl⟩ | ⟨o1, K1, n1, rfl, ho1, hn1, rfl⟩ <;> rcases hhi with ⟨rfl, rfl⟩ | ⟨o2, K2, n2, rfl, ho2, hn2, rfl⟩
      · simp [Instr.sliceBounds]
      · simp [Instr.sliceBounds, hbl (m := cap) (c := .sliceAcap) ho2 hn2 (by omega)]
      · simp [Instr.sliceBounds, hbl (m := zs.length) (c := .sliceB) ho1 hn1 (by omega)]
      · simp [Instr.sliceBounds, hbl (m := cap) (c := .sliceAcap) ho2 hn2 (by omega), hbl (m := n2.toNat) (c := .sliceB) ho1 hn1 (by omega)]
    have hst : (Instr.sliceAt t (.slice a0 zs.length cap) (lo.map a.eval) (hi.map a.eval) none).run X.P w = .ok (.slice (if cap = l then a0 else a0.map (·.add (l * e.n))) (h - l) (cap - l)) w := by
      simp [Instr.sliceAt, Instr.slice, run_underlying hu, hbd, sizeOf, typeInfo, hi', hsz]
    simp [execOp, ha.eval hx, hst]
  · have := Lend.pick (L := Sl e (.slice a0 zs.length cap) zs :: L1) (b := Sl e (.slice (if cap = l then a0 else a0.map (·.add (l * e.n))) (h - l) (cap - l)) ((zs.take h).drop l)) Pick.here (Lend.dup (Sl.isDup e _ zs) hcut) w O ⟨O1, O2, s, hs1, hs2⟩
    exact this
end
end Go.SL
/- Blocks: variables in memory; made slices; append. -/
namespace Go.SL
open Go

theorem dom_zero {w : World} {O : Perm} (hdom : ∀ b, O b ≠ 0 → b < w.heap.size) : O w.heap.size = 0 := by
  rcases Nat.eq_zero_or_pos (O w.heap.size) with h | h
  · exact h
  · have := hdom w.heap.size (by omega); omega

/-- Behind an append or a make: one row of one's own may have turned. -/
theorem rel_grown {w w' : World} {O : Perm} {row : Option Nat} (hg : w.grownBy w' row) (hrow : ∀ k, row = some k → 2 ≤ O k) (new : Nat → Nat)
    (hnew : ∀ b, new b ≠ 0 → w.heap.size ≤ b ∧ b < w'.heap.size) : Rel w O w' fun b => if b < w.heap.size then O b else new b := by
  refine ⟨hg.os, hg.tape, hg.output, hg.size, fun b hb hlt => hg.block b hb fun h => ?_, fun b hb => ?_, fun b hb => ?_⟩
  · have := hrow b h.symm; omega
  · simp only [if_pos hb]; exact Nat.le_refl _
  · by_cases h : b < w.heap.size
    · have := hg.size; omega
    · simp only [if_neg h] at hb; exact (hnew b hb).2

section
variable {K : Act → World → Prop} {X : Cx} {ops : Array Oper} {rest : List Oper} {kk : List Item} {env : Env} {L L1 L2 : List A} {d : Nat} {T : TypeId} {pos : String} {af : Array Edge} {x y : Operand}

theorem blk_new (w : World) (cs : List Value) (t : TypeId) : (Blk w.heap.size t cs).h (w.alloc (.cells cs.toArray t)) fun b => if b = w.heap.size then 2 else 0 :=
  ⟨by simp, heap_alloc w _⟩

/-- A new variable. -/
theorem s_alloc {t : TypeId} {z : Value} {n bt : Nat} (ht : TI X.P t z n bt) (hd : d < X.fn.ntmps)
    (k : ∀ b, Kont X ((d, .pointer (some ⟨b, 0, none⟩)) :: env) (Blk b t z.cells.toList :: L) K) : StepK X kk ⟨some d, .alloc t, T, pos, af, none⟩ env L K := by
  refine s_main (γ := Nat) (V := fun b => .pointer (some ⟨b, 0, none⟩)) (pu := fun _ => True) (L' := fun b => Blk b t z.cells.toList :: L) ?_ hd (fun b _ => k b)
  intro a w O ha hst hdom
  obtain ⟨i, hi, hz, _, _⟩ := ht
  refine ⟨w.heap.size, w.alloc (.cells z.cells.toList.toArray t), fresh w O, ?_, trivial, stars_alloc _ hdom hst (blk_new w _ t), rel_alloc _ hdom⟩
  simp [execOp, Instr.alloc, zeroValue, typeInfo, hi, hz, newVar, newRow, newObj, Sem.run]
/-- A new variable that holds a value. -/
theorem s_box {t : TypeId} {u : Value} (hx : env.eval x = some u) (hd : d < X.fn.ntmps)
    (k : ∀ b, Kont X ((d, .pointer (some ⟨b, 0, none⟩)) :: env) (Blk b t u.cells.toList :: L) K) : StepK X kk ⟨some d, .box t x, T, pos, af, none⟩ env L K := by
  refine s_main (γ := Nat) (V := fun b => .pointer (some ⟨b, 0, none⟩)) (pu := fun _ => True) (L' := fun b => Blk b t u.cells.toList :: L) ?_ hd (fun b _ => k b)
  intro a w O ha hst hdom
  refine ⟨w.heap.size, w.alloc (.cells u.cells.toList.toArray t), fresh w O, ?_, trivial, stars_alloc _ hdom hst (blk_new w _ t), rel_alloc _ hdom⟩
  simp [execOp, Instr.box, ha.eval hx, newVar, newRow, newObj, Sem.run]

theorem v_fieldAddr {t : TypeId} {fs : Array Field} {f : Field} {i : Nat} {p : Addr} {z : Value} {n bt : Nat} (hu : X.P.underlying t = some (.struct fs)) (hf : fs[i]? = some f) (ht : TI X.P f.type z n bt) (hn : n ≠ 0)
    (hx : env.eval x = some (.pointer (some p))) : Val X env L (.fieldAddr t x i) T (.pointer (some (p.add f.offset))) :=
  fun _ _ _ _ a w O ha _ => by
    obtain ⟨ti, hi, _, hsz, _⟩ := ht
    have : ti.size ≠ 0 := by omega
    simp [execOp, ha.eval hx, Instr.fieldAt, Instr.sureAddr, run_underlying hu, hf, fieldPlace, sizeOf, typeInfo, hi, this]
theorem v_nilCheck {p : Addr} (hx : env.eval x = some (.pointer (some p))) : Val X env L (.nilCheck x) T (.pointer (some p)) :=
  fun _ _ _ _ a w O ha _ => by simp [execOp, ha.eval hx]
theorem blk_cell {w : World} {b : Nat} {t : TypeId} {cs : Array Value} {fz : Nat × Nat} (h : w.heap[b]? = some (.cells cs t fz)) (off : Nat) : w.cell? ⟨b, off, none⟩ = cs[off]? := by
  simp [World.cell?, h]
/-- A cell of a block is read. -/
theorem v_load {t : TypeId} {b off : Nat} {bt : TypeId} {cs : List Value} {u : Value} (ht : Lone X.P t) (hx : env.eval x = some (.pointer (some ⟨b, off, none⟩)))
    (hb : Has L (BlkR b bt cs)) (hc : cs[off]? = some u) : Val X env L (.load t x) T (u) :=
  fun _ _ _ _ a w O ha hl => by
    obtain ⟨_, fz, hh⟩ := hb w O hl
    have : w.cell? ⟨b, off, none⟩ = some u := by rw [blk_cell hh]; simpa using hc
    simp [execOp, ha.eval hx, Instr.loadAt, Instr.sureAddr, run_loadLone ht this]
/-- A struct in a block is read. -/
theorem v_load_blk_agg {t : TypeId} {b off n : Nat} {bt : TypeId} {cs : List Value} {z0 : Value} {nb : Nat} (ht : ∃ fs, X.P.underlying t = some (.struct fs)) (hE : TI X.P t z0 n nb) (hx : env.eval x = some (.pointer (some ⟨b, off, none⟩)))
    (hb : Has L (BlkR b bt cs)) (hc : off + n ≤ cs.length) : Val X env L (.load t x) T (.agg ((cs.drop off).take n).toArray) :=
  fun _ _ _ _ a w O ha hl => by
    obtain ⟨_, fz, hh⟩ := hb w O hl
    obtain ⟨ti, hi, _, hsz, _⟩ := hE
    have : CellsAt w ⟨b, off, none⟩ ((cs.drop off).take n) := fun j u hj => by
      have hadd : (⟨b, off, none⟩ : Addr).add j = ⟨b, off + j, none⟩ := by
        unfold Addr.add; split
        · rename_i h; rw [h, Nat.add_zero]
        · rfl
      rw [hadd, blk_cell hh]
      rw [List.getElem?_take] at hj
      split at hj
      · rw [List.getElem?_drop] at hj; simpa using hj
      · cases hj
    have hrun := run_loadAgg ht hi (by rw [hsz]; simp; omega) this
    simp [execOp, ha.eval hx, Instr.loadAt, Instr.sureAddr, hrun]

theorem setCell_heap_self {w : World} {b off : Nat} {t : TypeId} {cs : List Value} {u : Value} (h : w.heap[b]? = some (.cells cs.toArray t (0, 0))) :
    (w.setCell ⟨b, off, none⟩ u).heap[b]? = some (.cells (cs.set off u).toArray t (0, 0)) := by
  simp [World.setCell, Array.getElem?_modify, h]
theorem setCell_rel {w : World} {O : Perm} {b off : Nat} {u : Value} (hb : 2 ≤ O b) (hdom : ∀ b, O b ≠ 0 → b < w.heap.size) : Rel w O (w.setCell ⟨b, off, none⟩ u) O := by
  refine ⟨rfl, rfl, rfl, by simp [World.setCell], fun c _ hlt => ?_, fun _ _ => Nat.le_refl _, fun c hc => ?_⟩
  · simp only [World.setCell, Array.getElem?_modify]
    rw [if_neg (by intro h; subst h; omega)]
  · have := hdom c hc; simpa [World.setCell] using this
/-- A step that turns what is picked alone. -/
theorem step_at {w w' : World} {O O1 O2 O' : Perm} {L' L2 : List A} (hdom : ∀ b, O b ≠ 0 → b < w.heap.size) (s : Split O O1 O2) (h2 : Stars L2 w O2) (hr : Rel w O1 w' O') (h' : Stars L' w' O') :
    ∃ P, Stars (L' ++ L2) w' P ∧ Rel w O w' P := by
  obtain ⟨s', h2', hrel⟩ := frame hdom s h2 hr
  exact ⟨_, Stars.app s' h' h2', hrel⟩

/-- A cell of a block of one's own is written. -/
theorem s_store {t : TypeId} {b off : Nat} {bt : TypeId} {cs cs' : List Value} {u : Value} {z : Value} {nb : Nat} (ht : TI X.P t z 1 nb) (hx : env.eval x = some (.pointer (some ⟨b, off, none⟩))) (hy : env.eval y = some u) (h1 : u.oneCell' = true)
    (hp : Pick (Blk b bt cs) L L1) (hlt : off < cs.length) (hset : cs.set off u = cs') (k : Kont X env (Blk b bt cs' :: L1) K) : StepK X kk ⟨none, .store t x y, T, pos, af, none⟩ env L K := by
  refine s_skip (γ := Unit) (pu := fun _ => True) (L' := fun _ => Blk b bt cs' :: L1) ?_ (fun _ _ => k)
  intro a w O ha hst hdom
  obtain ⟨O1, O2, s, ⟨hb2, hh⟩, hs2⟩ := hp w O hst
  have hdom1 : ∀ b, O1 b ≠ 0 → b < w.heap.size := fun b hb => hdom b (by have := s.l b; omega)
  obtain ⟨P, hP, hrel⟩ := step_at hdom s hs2 (setCell_rel (off := off) (u := u) hb2 hdom1) (L' := [Blk b bt cs']) ⟨O1, fun _ => 0, ⟨fun _ => Nat.le_refl _, fun _ => Nat.zero_le _, fun _ _ => rfl, fun _ h => by omega⟩, ⟨hb2, by rw [setCell_heap_self hh, hset]⟩, trivial⟩
  refine ⟨(), _, P, ?_, trivial, hP, hrel⟩
  obtain ⟨ti, hi, _, hsz, _⟩ := ht
  have hc : u.cells = #[u] := by cases u <;> first | rfl | cases h1
  have hcell : w.cell? ⟨b, off, none⟩ = some cs[off] := by rw [blk_cell hh]; simp [hlt]
  have hfr : w.frozen? ⟨b, off, none⟩ = false := by simp [World.frozen?, hh]
  have hst := run_store X.P w ⟨b, off, none⟩ u .plain h1
  rw [hcell] at hst
  simp only [hfr, Bool.false_eq_true, if_false] at hst
  have hadd : (⟨b, off, none⟩ : Addr).add 0 = ⟨b, off, none⟩ := rfl
  simp [execOp, ha.eval hx, ha.eval hy, Instr.storeAt, Instr.sureAddr, storeVar, hc, sizeOf, typeInfo, hi, hsz, storeCells, hadd, hst]

/-! ### append -/
variable {α : Type} {e : Enc α} {v u : Value} {zs ys : List α} {E : TypeId}
theorem Own.of_row {w' : World} {O1 P2 : Perm} {v' : Value} {cs : List Value} {zs' : List α} (hrow : w'.ownsRow 0 E e.n v' zs'.length cs) (hr : Rows e w' P2 cs zs') (hdisj : ∀ b, v'.ownBlock = some b → P2 b = 0) (hP : ∀ b, P2 b ≤ 1)
    (hO : ∀ b, P2 b ≤ O1 b) (hown : ∀ b, v'.ownBlock = some b → 2 ≤ O1 b) : (Own e E v' zs').h w' O1 := by
  refine ⟨fun b => if v'.ownBlock = some b then O1 b else 0, P2, cs, ⟨fun b => ?_, hO, fun b hb => ?_, fun b hb => ?_⟩, hrow, fun b hb => ?_, hr⟩
  · show (if _ then _ else _) ≤ _; split <;> omega
  · by_cases h : v'.ownBlock = some b
    · exact hdisj b h
    · simp [h] at hb
  · have := hP b; omega
  · simp only [hb, if_true]; exact hown b hb

/-- What append comes to. -/
theorem append_core {P : Program} {w : World} {t : TypeId} {ti : TypeInfo} {z : Value} {size nb : Nat} (hu : P.underlying t = some (.slice E)) (hi : P.info? E = some ti) (hz : ti.zero = some z) (hsz : ti.size = size) (hbt : ti.bytes = nb)
    (hzs : z.cells.size = size) (hn : 0 < size) {v : Value} {n : Nat} {cs : List Value} (g1 : w.ownsRow 0 E size v n cs) {a0 : Option Addr} {m cap : Nat} {cs' : List Value}
    (hsrc : (a0 = none ∧ m = 0 ∧ cs' = []) ∨ ∃ a, a0 = some a ∧ cs'.length = m * size ∧ (∀ j u, cs'[j]? = some u → w.cell? (a.add j) = some u) ∧ ∀ u ∈ cs', u.oneCell' = true)
    (hb : (n + m) * nb ≤ 140737488355328) (hb2 : n + m ≤ maxLen) :
    ∃ v' w', (Builtin.append_ #[t, t] T #[v, .slice a0 m cap]).run P w = .ok v' w' ∧ w'.ownsRow 0 E size v' (n + m) (cs ++ cs') ∧ w.grownBy w' v.ownBlock ∧
      ∀ b, v'.ownBlock = some b → b < w'.heap.size ∧ (v.ownBlock = some b ∨ w.heap.size ≤ b) := by
  have hblk : ∀ {w' : World} {v' : Value} {base n : Nat} {xs : List Value}, w'.ownsRow base E size v' n xs → ∀ b, v'.ownBlock = some b → b < w'.heap.size ∧ base ≤ b := by
    intro w' v' base n xs h b hb
    rcases h.2 with ⟨rfl, _⟩ | ⟨g, cap, cur, rfl, hbase, hg, _⟩
    · simp [Value.ownBlock] at hb
    · simp only [Value.ownBlock, Option.some.injEq] at hb
      subst hb
      refine ⟨?_, hbase⟩
      rcases Nat.lt_or_ge g w'.heap.size with h | h
      · exact h
      · rw [Array.getElem?_eq_none h] at hg; cases hg
  have weak : ∀ {w' : World} {v' : Value} {base n : Nat} {xs : List Value}, w'.ownsRow base E size v' n xs → w'.ownsRow 0 E size v' n xs := by
    intro w' v' base n xs h
    exact ⟨h.1, h.2.imp id fun ⟨g, cap, cur, e, _, r⟩ => ⟨g, cap, cur, e, Nat.zero_le _, r⟩⟩
  rcases hsrc with ⟨rfl, rfl, rfl⟩ | ⟨a, rfl, hl, hnews, h1⟩
  · refine ⟨v, w, ?_, by simpa using g1, ⟨rfl, rfl, rfl, Nat.le_refl _, fun _ _ _ => rfl⟩, fun b hb => ⟨(hblk g1 b hb).1, .inl hb⟩⟩
    rcases g1.2 with ⟨rfl, h0⟩ | ⟨g, cap, cur, rfl, _, _, hnc, _⟩
    · simp [Builtin.append_, run_underlying hu, sizeOf, typeInfo, hi, Builtin.lenOf, Builtin.firstCells]
    · simp [Builtin.append_, run_underlying hu, sizeOf, typeInfo, hi, Builtin.lenOf, Builtin.firstCells, hnc, storeCells]
  · rcases g1.2 with ⟨rfl, h0⟩ | ⟨g, cap', cur, rfl, hbg, hg, hnc, hcm, hcs, htake⟩
    · subst h0
      have g1' : w.ownsRow w.heap.size E size (.slice none 0 0) 0 cs := ⟨g1.1, .inl ⟨rfl, rfl⟩⟩
      obtain ⟨v', w', hrun, hown', hgr, _⟩ := run_append_own (P := P) w w.heap.size t T E ti z size nb hu hi hz hsz hbt hzs hn _ 0 cs g1' a m cap cs' hl hnews h1 hb2 hb (Nat.le_refl _)
      exact ⟨v', w', hrun, weak hown', hgr, fun b hb => ⟨(hblk hown' b hb).1, .inr (hblk hown' b hb).2⟩⟩
    · by_cases hroom : n + m ≤ cap'
      · have hfit : n * ti.size + cs'.length ≤ cur.size := by rw [hl, hcs, hsz, ← Nat.add_mul]; exact Nat.mul_le_mul_right _ hroom
        have hr := run_append_room (P := P) w t T E ti hu hi g n cap' cur hg a m cap cs' (by rw [hsz]; exact hl) hnews h1 hroom hfit
        have hlen : (cs ++ cs').length = (n + m) * size := by rw [List.length_append, g1.1, hl, Nat.add_mul]
        have hown' : (w.setRow g (cur.toList.take (n * ti.size) ++ cs' ++ cur.toList.drop (n * ti.size + cs'.length)).toArray).ownsRow 0 E size (.slice (some ⟨g, 0, none⟩) (n + m) cap') (n + m) (cs ++ cs') := by
          refine ⟨hlen, .inr ⟨g, cap', _, rfl, hbg, setRow_heap w g cur _ E _ hg, hroom, hcm, ?_, ?_⟩⟩
          · simp only [List.size_toArray, List.length_append, List.length_take, List.length_drop, Array.length_toList]
            omega
          · rw [hsz, htake, ← hlen]
            exact List.take_left
        refine ⟨_, _, hr, hown', ⟨rfl, rfl, rfl, by simp, fun k _ hk => setRow_other w g k _ (fun e => hk (by simp [Value.ownBlock, e]))⟩, fun b hb => ⟨(hblk hown' b hb).1, .inl hb⟩⟩
      · have holds : ∀ j u, cs[j]? = some u → w.cell? ((⟨g, 0, none⟩ : Addr).add j) = some u := by
          intro j u hj
          have hadd : (⟨g, 0, none⟩ : Addr).add j = ⟨g, j, none⟩ := by
            unfold Addr.add; split
            · rename_i h; rw [h]
            · simp
          have hjl := cell_in hj
          rw [g1.1] at hjl
          rw [hadd, blk_cell hg]
          rw [← htake, List.getElem?_take, if_pos hjl] at hj
          simpa using hj
        obtain ⟨v', w', hrun, hown', hgr⟩ := run_append_arg_grows (P := P) (w := w) t T E ti z size nb hu hi hz hsz hbt hzs hn ⟨g, 0, none⟩ n cap' cs g1.1 holds a m cap cs' hl hnews (by omega) hb2 hb
        exact ⟨v', w', hrun, weak hown', ⟨hgr.os, hgr.tape, hgr.output, hgr.size, fun k hk _ => hgr.block k hk (by simp)⟩, fun b hb => ⟨(hblk hown' b hb).1, .inr (hblk hown' b hb).2⟩⟩

/-- What follows for the assertions. -/
theorem own_grow {w w' : World} {O O1 O2 O3 O4 : Perm} {v v' : Value} {cs' : List Value} {a' : A} (hdom : ∀ b, O b ≠ 0 → b < w.heap.size) (s : Split O O1 O2) (hO : (Own e E v zs).h w O1)
    (s3 : Split O2 O3 O4) (hsl : a'.h w (fun b => min (O3 b) 1)) (hs4 : Stars L2 w O4) (hr : Rows e w (fun b => min (O3 b) 1) cs' ys)
    (hcs : ∀ P1 P2 c0, Split O1 P1 P2 → w.ownsRow 0 E e.n v zs.length c0 → Rows e w P2 c0 zs → w'.ownsRow 0 E e.n v' (zs.length + ys.length) (c0 ++ cs'))
    (hg : w.grownBy w' v.ownBlock) (hv' : ∀ b, v'.ownBlock = some b → b < w'.heap.size ∧ (v.ownBlock = some b ∨ w.heap.size ≤ b)) :
    ∃ P, Stars (Own e E v' (zs ++ ys) :: a' :: L2) w' P ∧ Rel w O w' P := by
  obtain ⟨P1, P2, c0, t1, g1, g2, g3⟩ := hO
  have hrow := hcs P1 P2 c0 t1 g1 g3
  have d1 : ∀ b, O1 b ≠ 0 → b < w.heap.size := fun b hb => hdom b (by have := s.l b; omega)
  have d2 : ∀ b, O2 b ≠ 0 → b < w.heap.size := fun b hb => hdom b (by have := s.r b; omega)
  have hrel1 : Rel w O1 w' (fun b => if b < w.heap.size then O1 b else if w.heap.size ≤ b ∧ v'.ownBlock = some b then 2 else 0) :=
    rel_grown hg (fun k hk => Nat.le_trans (g2 k hk) (t1.l k)) _ (fun b hb => by
      by_cases h : w.heap.size ≤ b ∧ v'.ownBlock = some b
      · exact ⟨h.1, (hv' b h.2).1⟩
      · simp [h] at hb)
  generalize hN : (fun b => if b < w.heap.size then O1 b else if w.heap.size ≤ b ∧ v'.ownBlock = some b then 2 else 0) = N at hrel1
  have hNo : ∀ b, b < w.heap.size → N b = O1 b := fun b hb => by rw [← hN]; simp [hb]
  have hNn : ∀ b, w.heap.size ≤ b → v'.ownBlock = some b → N b = 2 := fun b hb h => by rw [← hN]; simp [h, hb]; omega
  have hs2 : Stars (a' :: L2) w O2 := ⟨fun b => min (O3 b) 1, O4, ⟨fun b => by have := s3.l b; show min _ _ ≤ _; omega, s3.r, fun b hb => by have h' : 2 ≤ min (O3 b) 1 := hb; omega, fun b hb => by have := s3.rl b hb; show min _ _ = _; omega⟩, hsl, hs4⟩
  obtain ⟨sf, hs2', hrel⟩ := frame hdom s hs2 hrel1
  -- the rows
  have hloc : ∀ (Q : Perm), (∀ b, Q b ≠ 0 → b < w.heap.size ∧ v.ownBlock ≠ some b) → ∀ b, Q b ≠ 0 → w'.heap[b]? = w.heap[b]? := fun Q hQ b hb => hg.block b (hQ b hb).1 (fun h => (hQ b hb).2 h.symm)
  have hP2 : ∀ b, P2 b ≠ 0 → b < w.heap.size ∧ v.ownBlock ≠ some b := fun b hb => ⟨d1 b (by have := t1.r b; omega), fun h => hb (t1.lr b (g2 b h))⟩
  have hO3 : ∀ b, O3 b ≠ 0 → b < w.heap.size ∧ v.ownBlock ≠ some b := fun b hb => ⟨d2 b (by have := s3.l b; omega), fun h => by
    have h1 := g2 b h
    have h2 := t1.l b
    have h3 := s.lr b (by omega)
    have h4 := s3.l b
    omega⟩
  have hr1 : Rows e w' (fun b => max (min (P2 b) 1) (min (O3 b) 1)) c0 zs := (g3.dup.loc (hloc _ fun b hb => hP2 b (by intro h; rw [h] at hb; exact hb rfl))).mono fun b => by show min _ 1 ≤ max _ _; omega
  have hr2 : Rows e w' (fun b => max (min (P2 b) 1) (min (O3 b) 1)) cs' ys := (hr.loc (hloc _ fun b hb => hO3 b (by intro h; rw [h] at hb; exact hb rfl))).mono fun b => by show min _ 1 ≤ max _ _; omega
  have hlen : (zs ++ ys).length = zs.length + ys.length := List.length_append
  have hown : (Own e E v' (zs ++ ys)).h w' (fun b => max (N b) (min (O3 b) 1)) := by
    refine Own.of_row (by rw [hlen]; exact hrow) (hr1.append hr2) (fun b hb => ?_) (fun b => by show max _ _ ≤ 1; omega) (fun b => ?_) (fun b hb => ?_)
    · rcases (hv' b hb).2 with h | h
      · have h1 : P2 b = 0 := t1.lr b (g2 b h)
        have h2 : O3 b = 0 := by
          rcases Nat.eq_zero_or_pos (O3 b) with h3 | h3
          · exact h3
          · exact absurd h (hO3 b (by omega)).2
        show max _ _ = _; omega
      · have h1 : P2 b = 0 := by
          rcases Nat.eq_zero_or_pos (P2 b) with h3 | h3
          · exact h3
          · have := (hP2 b (by omega)).1; omega
        have h2 : O3 b = 0 := by
          rcases Nat.eq_zero_or_pos (O3 b) with h3 | h3
          · exact h3
          · have := (hO3 b (by omega)).1; omega
        show max _ _ = _; omega
    · show max (min (P2 b) 1) (min (O3 b) 1) ≤ max (N b) (min (O3 b) 1)
      rcases Nat.eq_zero_or_pos (P2 b) with h3 | h3
      · omega
      · have h4 := (hP2 b (by omega)).1
        have h5 := hNo b h4
        have := t1.r b
        omega
    · show 2 ≤ max _ _
      rcases (hv' b hb).2 with h | h
      · have h1 := g2 b h
        have h2 := t1.l b
        have h3 := d1 b (by omega)
        have h4 := hNo b h3
        omega
      · have := hNn b h hb; omega
  obtain ⟨Q3, Q4, u1, k1, k2⟩ := hs2'
  refine ⟨fun b => max (N b) (O2 b), ⟨fun b => max (N b) (min (O3 b) 1), fun b => max (min (O3 b) 1) (O4 b), ⟨fun b => ?_, fun b => ?_, fun b hb => ?_, fun b hb => ?_⟩, hown, fun b => min (O3 b) 1, O4, ⟨fun b => ?_, fun b => ?_, fun b hb => ?_, fun b hb => ?_⟩,
    a'.loc hsl (hloc _ fun b hb => hO3 b (by intro h; rw [h] at hb; exact hb rfl)), hs4.loc fun b hb => ?_⟩, hrel⟩
  · have := s3.l b; show max _ _ ≤ max _ _; omega
  · have := s3.l b; have := s3.r b; show max _ _ ≤ max _ _; omega
  · have h1 : 2 ≤ N b := by have h' : 2 ≤ max (N b) (min (O3 b) 1) := hb; omega
    have := sf.lr b h1; have := s3.l b; have := s3.r b; show max _ _ = 0; omega
  · have h1 : 2 ≤ O4 b := by have h' : 2 ≤ max (min (O3 b) 1) (O4 b) := hb; omega
    have h2 := s3.rl b h1
    have h3 := s3.r b
    have h4 := sf.rl b (by omega)
    show max _ _ = 0; omega
  · show _ ≤ max _ _; omega
  · show _ ≤ max _ _; omega
  · have h' : 2 ≤ min (O3 b) 1 := hb; omega
  · have := s3.rl b hb; show min _ _ = 0; omega
  · have h1 := s3.r b
    refine hg.block b (d2 b (by omega)) fun h => ?_
    have h3 := g2 b h.symm
    have h4 := t1.l b
    have h5 := s.lr b (by omega)
    omega

/-- append(x, y...), x a row of one's own. -/
theorem s_append {t : TypeId} {z : Value} {nb sz : Nat} (hu : X.P.underlying t = some (.slice E)) (hE : TI X.P E z sz nb) (hzs : z.cells.size = sz) (hn : 0 < sz)
    (hx : env.eval x = some v) (hy : env.eval y = some u) (hd : d < X.fn.ntmps) (hp : Pick (Own e E v zs) L L1) (hq : Pick (Sl e u ys) L1 L2) (hsz0 : e.n = sz) (hb : (zs.length + ys.length) * nb ≤ 140737488355328)
    (hb2 : zs.length + ys.length ≤ maxLen)
    (k : ∀ v', Kont X ((d, v') :: env) (Own e E v' (zs ++ ys) :: Sl e u ys :: L2) K) :
    StepK X kk ⟨some d, .call ⟨.builtin .append, #[x, y], #[t, t]⟩, T, pos, af, none⟩ env L K := by
  subst hsz0
  refine s_main (γ := Value) (V := fun u => u) (pu := fun _ => True) (L' := fun v' => Own e E v' (zs ++ ys) :: Sl e u ys :: L2) ?_ hd (fun u _ => k u)
  intro a w O ha hst hdom
  obtain ⟨O1, O2, s, hO, hs2⟩ := hp w O hst
  obtain ⟨O3, O4, s3, hsl, hs4⟩ := hq w O2 hs2
  have hslD := SlP.dup hsl
  obtain ⟨ti, hi, hz0, hsz, hbt⟩ := hE
  obtain ⟨a0, cap, rfl, q1, q2, q3⟩ := id hslD
  obtain ⟨P1, P2, cs, t1, g1, g2, g3⟩ := id hO
  have hadd : ∀ b off j : Nat, (⟨b, off, none⟩ : Addr).add j = ⟨b, off + j, none⟩ := fun b off j => by
    unfold Addr.add; split
    · rename_i h; rw [h, Nat.add_zero]
    · rfl
  obtain ⟨cs', hsrc, hr⟩ : ∃ cs', ((a0 = none ∧ ys.length = 0 ∧ cs' = []) ∨ ∃ a, a0 = some a ∧ cs'.length = ys.length * e.n ∧ (∀ j u, cs'[j]? = some u → w.cell? (a.add j) = some u) ∧ ∀ u ∈ cs', u.oneCell' = true) ∧
      Rows e w (fun b => min (O3 b) 1) cs' ys := by
    rcases q3 with ⟨_, rfl⟩ | ⟨b, off, cs', rfl, hb1, hr, hc⟩
    · cases a0 with
      | none => exact ⟨[], .inl ⟨rfl, rfl, rfl⟩, rfl⟩
      | some a => exact ⟨[], .inr ⟨a, rfl, by simp, fun j u hj => by simp at hj, fun u hu => by cases hu⟩, rfl⟩
    · exact ⟨cs', .inr ⟨_, rfl, hr.length, fun j u hj => by rw [hadd]; exact hc j u hj, hr.one⟩, hr⟩
  obtain ⟨v', w', hrun, hown', hgr, hv'⟩ := append_core (P := X.P) (T := T) (t := t) (cap := cap) hu hi hz0 hsz hbt hzs hn g1 hsrc hb hb2
  obtain ⟨P, hP, hrel⟩ := own_grow (a' := Sl e (.slice a0 ys.length cap) ys) (v' := v') (cs' := cs') hdom s hO s3 hslD hs4 hr (fun Q1 Q2 c0 _ h1 _ => by
    have : c0 = cs := by
      rcases h1.2 with ⟨rfl, h0⟩ | ⟨g, cap, cur, rfl, _, hg, _, _, _, htk⟩
      · have e1 := h1.1; have e2 := g1.1
        rw [h0, Nat.zero_mul] at e1 e2
        rw [List.eq_nil_of_length_eq_zero e1, List.eq_nil_of_length_eq_zero e2]
      · rcases g1.2 with ⟨h, _⟩ | ⟨g', cap', cur', h', _, hg', _, _, _, htk'⟩
        · cases h
        · cases h'
          rw [hg] at hg'; cases hg'
          rw [← htk, ← htk']
    rw [this]; exact hown') hgr hv'
  refine ⟨v', w', P, ?_, trivial, hP, hrel⟩
  have hruns : (Builtin.append_ #[t, t] T #[a.eval x, a.eval y]).run X.P w = .ok v' w' := by rw [ha.eval hx, ha.eval hy]; exact hrun
  simp [execOp, resolve, invoke, builtin, hruns]
end
end Go.SL
/- Regions that draw their order. -/
namespace Go.SL
open Go

theorem draw_stars {L : List A} {w : World} {O : Perm} (h : Stars L w O) : Stars L { w with drawn := w.drawn + 1 } O := h.loc fun _ _ => rfl
theorem draw_rel {w0 w : World} {O0 O : Perm} (h : Rel w0 O0 w O) : Rel w0 O0 { w with drawn := w.drawn + 1 } O := ⟨h.os, h.tape, h.output, h.size, h.old, h.perm, h.dom⟩

theorem ok_any {X : Cx} {k : List Item} {ops : Array Oper} {id : Nat} {a : Act} {w : World} (hm : X.P.follows .mixedOrders = true) (hnd : noDefer ops.toList = true)
    (h : wpAny X.P .any ops (Qn X k) ops.size (Array.replicate ops.size false) a { w with drawn := w.drawn + 1 }) : Ok X (.code (.region id ops true) :: k) a w := by
  intro b hb hk hro cs
  have hst := stepR_region_draw (P := X.P) (b := b) (a := a) (k := k) (cs := cs) (w := w) (ops := ops) (id := id)
  have h2 : wpOps X.P ops (Qn X k) (Region.schedule (X.P.follows .mixedOrders) ops (w.tape w.drawn (.order b.fn id))) a { w with drawn := w.drawn + 1 } := by
    simp only [Region.schedule, hm, Bool.true_or, if_true]
    exact wpAny_sound ops.size _ _ a _ h
  obtain ⟨v, w', fr, O', hR, hrel, hst', hf⟩ := ok_ops hnd _ _ _ h2 b hb hk hro cs
  exact ⟨v, w', fr, O', hR, hrel, (Steps.one hst).trans hst', hf⟩

/-- The worlds in which L holds. -/
def QC (X : Cx) (L : List A) : World → Prop := fun w => ∃ O, Stars L w O ∧ Rel X.w0 X.O0 w O
def Qops (X : Cx) (ops : Array Oper) (l : List Oper) (k : List Item) (env : Env) (L : List A) : Prop :=
  ∀ a, Holds X env a → wpQuiet X.P ops (QC X L) (fun a' => ∀ w', QC X L w' → Qn X k .normal a' w') l a

section
variable {X : Cx} {ops : Array Oper} {rest : List Oper} {kk : List Item} {env env' : Env} {L L1 : List A}
/-- A region that draws its order and only reads. -/
theorem c_quiet {id : Nat} {l : List Oper} (hm : X.P.follows .mixedOrders = true) (hB : Region.lexB .any l.toArray = true) (h : Qops X l.toArray l kk env L) (hnd : noDefer l = true := by rfl) : Cfg X (.code (.region id l.toArray true) :: kk) env L := by
  intro a w O ha hs hr
  simp only [Region.lexB, Bool.and_eq_true] at hB
  refine ok_any hm (by simpa using hnd) (wpAny_of_quiet (Q := fun a' => ∀ w', QC X L w' → Qn X kk .normal a' w') (fun _ w' hw' h => h w' hw') _ _ _ _ ⟨O, draw_stars hs, draw_rel hr⟩ ?_)
  have := wpAnyQ_lex (C := QC X L) (md := .any) hB.1 l 0 (Array.replicate l.length false) a (by simp) (by simpa using hB.2) (h a ha)
  simpa using this
theorem q_nil (h : Cfg X kk env L) : Qops X ops [] kk env L := fun a ha w' ⟨O, hs, hr⟩ => ⟨rfl, h a w' O ha hs hr⟩
theorem q_val {v : Value} {d : Nat} {op : Op} {T : TypeId} {pos : String} {af : Array Edge} (h : Val X env L op T v) (hd : d < X.fn.ntmps) (k : Qops X ops rest kk ((d, v) :: env) L) :
    Qops X ops (⟨some d, op, T, pos, af, none⟩ :: rest) kk env L := by
  intro a ha
  simp only [wpQuiet, Region.wanted, if_true]
  refine ⟨v, fun w ⟨O, hs, _⟩ => ?_, k _ (ha.put hd v)⟩
  simp only [Oper.quietAt, h (some d) pos af none a w O ha hs, Oper.quietUpon, and_self]
theorem q_guard {j s : Nat} {t want : Bool} {d : Option Nat} {op : Op} {T : TypeId} {pos : String} {af : Array Edge}
    (hj : (ops[j]?).bind (·.dst) = some s) (ht : env.look s = some (.bool t))
    (hy : t = want → Qops X ops (⟨d, op, T, pos, af, none⟩ :: rest) kk ((s, .bool want) :: env) L)
    (hn : t = !want → Qops X ops (⟨d, op, T, pos, af, some (j, want)⟩ :: rest) kk ((s, .bool (!want)) :: env) L) :
    Qops X ops (⟨d, op, T, pos, af, some (j, want)⟩ :: rest) kk env L := by
  intro a ha
  have hy1 : yielded ops a.tmps j = some t := by simp [yielded, hj, ha.look s _ ht]
  by_cases e : t = want
  · subst e
    have ha' : Holds X ((s, .bool t) :: env) a := ⟨ha.size, ha.defers, fun u v hu => by
      rcases Env.look_cons hu with ⟨rfl, rfl⟩ | ⟨_, hu⟩
      · exact ha.look _ _ ht
      · exact ha.look _ _ hu⟩
    have := hy rfl a ha'
    simp only [wpQuiet, Region.wanted, hy1, beq_self_eq_true, if_true] at this ⊢
    exact this
  · have e' : t = !want := by cases t <;> cases want <;> simp_all
    refine hn e' a ⟨ha.size, ha.defers, fun u v hu => ?_⟩
    rcases Env.look_cons hu with ⟨rfl, rfl⟩ | ⟨_, hu⟩
    · rw [← e']; exact ha.look _ _ ht
    · exact ha.look _ _ hu
theorem q_on {j s : Nat} {want : Bool} {d : Option Nat} {op : Op} {T : TypeId} {pos : String} {af : Array Edge}
    (hj : (ops[j]?).bind (·.dst) = some s) (ht : env.look s = some (.bool want))
    (h : Qops X ops (⟨d, op, T, pos, af, none⟩ :: rest) kk env L) : Qops X ops (⟨d, op, T, pos, af, some (j, want)⟩ :: rest) kk env L := by
  intro a ha
  have hy1 : yielded ops a.tmps j = some want := by simp [yielded, hj, ha.look s _ ht]
  have := h a ha
  simp only [wpQuiet, Region.wanted, hy1, beq_self_eq_true, if_true] at this ⊢
  exact this
theorem q_off {j s : Nat} {t want : Bool} {d : Nat} {op : Op} {T : TypeId} {pos : String} {af : Array Edge}
    (hj : (ops[j]?).bind (·.dst) = some s) (ht : env.look s = some (.bool t)) (hne : t = !want) (hd : d < X.fn.ntmps)
    (h : Qops X ops rest kk ((d, undef) :: env) L) : Qops X ops (⟨some d, op, T, pos, af, some (j, want)⟩ :: rest) kk env L := by
  intro a ha
  have hy1 : yielded ops a.tmps j = some t := by simp [yielded, hj, ha.look s _ ht]
  have hw : (some t == some want) = false := by subst hne; cases want <;> rfl
  simp only [wpQuiet, Region.wanted, hy1, hw, Bool.false_eq_true, if_false]
  exact h _ (ha.put hd _)

/-! ### a region that draws its order and writes: what only reads first -/
def Any (X : Cx) (ops : Array Oper) (S : List A) (fuel : Nat) (listed : Array Bool) (k : List Item) (env : Env) (L : List A) : Prop :=
  Kont X env L fun a w => wpAnyH X.P .any ops (Qn X k) (fun w => ∃ O, Stars S w O) fuel listed a w
theorem c_held {id : Nat} {l : List Oper} (S : List A) (hm : X.P.follows .mixedOrders = true) (h : Any X l.toArray S l.length (Array.replicate l.length false) kk env L) (hnd : noDefer l = true := by rfl) : Cfg X (.code (.region id l.toArray true) :: kk) env L := by
  intro a w O ha hs hr
  refine ok_any hm (by simpa using hnd) (wpAny_of_held (S := fun w => ∃ O, Stars S w O) _ _ _ _ ?_)
  simpa using h a _ O ha (draw_stars hs) (draw_rel hr)
theorem a_take {S : List A} {fuel : Nat} {listed : Array Bool} (i : Nat) {v : Value} {d : Nat} {op : Op} {T : TypeId} {pos : String} {af : Array Edge} (hi : ops[i]? = some ⟨some d, op, T, pos, af, none⟩) (hs : Region.noSelect ops = true)
    (hf : Region.free .any ops listed i = true) (hr : (Region.ready .any ops listed).contains i = true) (hv : Val X env S op T v) (hS : Ent L S) (hd : d < X.fn.ntmps)
    (k : Any X ops S fuel (listed.setIfInBounds i true) kk ((d, v) :: env) L) : Any X ops S (fuel + 1) listed kk env L := by
  intro a w O ha hst hrel
  exact wpAnyH_take hi hs hf hr (fun _ _ _ h => by cases h.1) (.inl ⟨rfl, fun w ⟨O, hs'⟩ => hv _ _ _ _ a w O ha hs'⟩) ⟨O, hS w O hst⟩ (k _ w O (ha.put hd v) hst hrel)
/-- The one operation that may come up. -/
theorem a_one {S : List A} {fuel : Nat} {listed : Array Bool} (i : Nat) {d : Option Nat} {op : Op} {T : TypeId} {pos : String} {af : Array Edge} (hi : ops[i]? = some ⟨d, op, T, pos, af, none⟩) (hr : Region.ready .any ops listed = [i])
    (h : StepK X kk ⟨d, op, T, pos, af, none⟩ env L fun a w => (∃ O, Stars S w O) ∧ wpAnyH X.P .any ops (Qn X kk) (fun w => ∃ O, Stars S w O) fuel (listed.setIfInBounds i true) a w) : Any X ops S (fuel + 1) listed kk env L := by
  intro a w O ha hst hrel
  refine wpAnyH_all hr (by simp) fun j hj => ?_
  obtain rfl : j = i := by simpa using hj
  simp only [wpOp, hi, Region.wanted, if_true]
  exact .inl (h a w O ha hst hrel)
/-- On. -/
theorem a_on {S : List A} {fuel : Nat} {listed : Array Bool} (hS : Ent L S) (h : Any X ops S fuel listed kk env L) : Kont X env L fun a w => (∃ O, Stars S w O) ∧ wpAnyH X.P .any ops (Qn X kk) (fun w => ∃ O, Stars S w O) fuel listed a w :=
  fun a w O ha hst hrel => ⟨⟨O, hS w O hst⟩, h a w O ha hst hrel⟩
theorem a_done {S : List A} {listed : Array Bool} (hr : Region.ready .any ops listed = []) (h : Cfg X kk env L) (fuel : Nat) : Any X ops S fuel listed kk env L :=
  fun a w O ha hst hrel => wpAnyH_done hr ⟨rfl, h a w O ha hst hrel⟩ fuel
end
end Go.SL
/- Made slices; bytes and strings; values inside a step. -/
namespace Go.SL
open Go

def eByte : Enc UInt8 := eMap (fun b => (b.toNat : Int)) (eInt .u8)
theorem eByte_rows {w : World} {O : Perm} {cs : List Value} {l : List UInt8} : Rows eByte w O cs l ↔ cs = l.map fun b => .int .u8 b.toNat := by
  induction l generalizing cs with
  | nil => simp [Rows]
  | cons b l ih =>
    simp only [Rows, List.map_cons]
    constructor
    · rintro ⟨c1, c2, rfl, h1, h2⟩
      rw [ih] at h2
      have h1' : c1 = [.int .u8 b.toNat] := h1
      rw [h1', h2]; rfl
    · rintro rfl
      exact ⟨[.int .u8 b.toNat], _, rfl, rfl, ih.2 rfl⟩

section
variable {K : Act → World → Prop} {X : Cx} {ops : Array Oper} {rest : List Oper} {kk : List Item} {env : Env} {L L1 L2 : List A} {d : Nat} {T : TypeId} {pos : String} {af : Array Edge} {x y : Operand}
variable {α : Type} {e : Enc α} {v u : Value} {zs ys : List α} {E : TypeId}

theorem s_val {v : Value} {op : Op} (h : Val X env L op T v) (hd : d < X.fn.ntmps) (k : Kont X ((d, v) :: env) L K) : StepK X kk ⟨some d, op, T, pos, af, none⟩ env L K :=
  s_main (γ := Unit) (V := fun _ => v) (pu := fun _ => True) (L' := fun _ => L) (fun a w O ha hs hdom => ⟨(), w, O, h _ _ _ _ a w O ha hs, trivial, hs, Rel.refl hdom⟩) hd (fun _ _ => k)

theorem v_conv_bytes {sT dT : TypeId} {l : List UInt8} (hs : X.P.underlying sT = some (.slice E)) (he : X.P.underlying E = some (.int .u8)) (hu : X.P.underlying dT = some .string) (hx : env.eval x = some v) (hl : Has L (Sl eByte v l)) :
    Val X env L (.convert sT dT x) T (.string ⟨l.toArray⟩) :=
  fun _ _ _ _ a w O ha hst => by
    obtain ⟨a0, cap, rfl, _, _, h3⟩ := hl w O hst
    have hrun : (convert sT dT (.slice a0 l.length cap)).run X.P w = .ok (.string ⟨l.toArray⟩) w := by
      rcases h3 with ⟨_, rfl⟩ | ⟨b, off, cs, rfl, _, hr, hc⟩
      · cases a0 with
        | some a => simp [convert, run_underlying hs, run_underlying hu, run_underlying he, loadCells, loadCellsFrom, Conv.bytesToString]; rfl
        | none =>
        rw [List.length_nil, run_convert_bytes_nil w sT E hs he]
        · rfl
        · exact hu
      · rw [eByte_rows] at hr
        subst hr
        rw [run_convert_bytes_arg w sT E hs he b off l.length cap (l.map fun b => (b.toNat : Int)) (by simp) ?_ dT hu]
        · congr 2
          simp [strOfNums, Function.comp_def]
        · intro i hi
          refine hc i _ ?_
          simp [hi]
    simp [execOp, ha.eval hx, hrun]

theorem o_guard_t {j s : Nat} {p : Prop} [Decidable p] {d : Option Nat} {op : Op} (hj : (ops[j]?).bind (·.dst) = some s) (ht : env.look s = some (.bool (decide p)))
    (hy : p → Ops X ops (⟨d, op, T, pos, af, none⟩ :: rest) kk ((s, .bool true) :: env) L)
    (hn : ¬ p → Ops X ops (⟨d, op, T, pos, af, some (j, true)⟩ :: rest) kk ((s, .bool false) :: env) L) : Ops X ops (⟨d, op, T, pos, af, some (j, true)⟩ :: rest) kk env L :=
  o_guard hj ht (fun h => hy (of_decide_eq_true h)) (fun h => hn (of_decide_eq_false h))
theorem o_guard_f {j s : Nat} {p : Prop} [Decidable p] {d : Option Nat} {op : Op} (hj : (ops[j]?).bind (·.dst) = some s) (ht : env.look s = some (.bool (decide p)))
    (hy : ¬ p → Ops X ops (⟨d, op, T, pos, af, none⟩ :: rest) kk ((s, .bool false) :: env) L)
    (hn : p → Ops X ops (⟨d, op, T, pos, af, some (j, false)⟩ :: rest) kk ((s, .bool true) :: env) L) : Ops X ops (⟨d, op, T, pos, af, some (j, false)⟩ :: rest) kk env L :=
  o_guard hj ht (fun h => hy (of_decide_eq_false h)) (fun h => hn (of_decide_eq_true h))
theorem q_guard_f {j s : Nat} {p : Prop} [Decidable p] {d : Option Nat} {op : Op} (hj : (ops[j]?).bind (·.dst) = some s) (ht : env.look s = some (.bool (decide p)))
    (hy : ¬ p → Qops X ops (⟨d, op, T, pos, af, none⟩ :: rest) kk ((s, .bool false) :: env) L)
    (hn : p → Qops X ops (⟨d, op, T, pos, af, some (j, false)⟩ :: rest) kk ((s, .bool true) :: env) L) : Qops X ops (⟨d, op, T, pos, af, some (j, false)⟩ :: rest) kk env L :=
  q_guard hj ht (fun h => hy (of_decide_eq_false h)) (fun h => hn (of_decide_eq_true h))

/-! ### slices that are written out -/
theorem fold_set (off : Nat) : ∀ (l : List Value) (k : Nat) (cells : Array Value), off + k + l.length ≤ cells.size →
    (l.zipIdx k).foldl (fun cs (x : Value × Nat) => cs.setIfInBounds (off + x.2) x.1) cells = (cells.toList.take (off + k) ++ l ++ cells.toList.drop (off + k + l.length)).toArray := by
  intro l
  induction l with
  | nil => intro k cells h; simp
  | cons c l ih =>
    intro k cells h
    simp only [List.length_cons] at h
    rw [List.zipIdx_cons, List.foldl_cons, ih (k + 1) _ (by simp; omega)]
    obtain ⟨C⟩ := cells
    simp only [List.size_toArray] at h
    have hlt : off + k < C.length := by omega
    congr 1
    simp only [List.setIfInBounds_toArray]
    rw [show off + (k + 1) = (off + k) + 1 by omega, List.drop_set_of_lt (by omega)]
    have h1 : (C.set (off + k) c).take (off + k + 1) = C.take (off + k) ++ [c] := by
      rw [List.take_succ_eq_append_getElem (by simpa using hlt), List.take_set_of_le (by omega)]
      simp
    rw [h1, List.length_cons, show off + k + 1 + l.length = off + k + (l.length + 1) by omega]
    simp
theorem fill_row (size : Nat) : ∀ (vs : List Value) (i : Nat) (cells : Array Value), (∀ v ∈ vs, v.cells.size = size) → cells.size = (i + vs.length) * size →
    Instr.fill (fun i => some (i * size, size)) cells ((vs.zipIdx i).map fun (x : Value × Nat) => (x.2, x.1)) = some (cells.toList.take (i * size) ++ (vs.map (fun u : Value => u.cells.toList)).flatten).toArray := by
  intro vs
  induction vs with
  | nil => intro i cells _ h; simp [Instr.fill]; rw [List.take_of_length_le (by simp [h])]
  | cons v vs ih =>
    intro i cells hv h
    have hsz := hv v List.mem_cons_self
    simp only [List.length_cons] at h
    have hle : i * size + size ≤ cells.size := by rw [h, Nat.add_mul, Nat.add_mul]; omega
    simp only [List.zipIdx_cons, List.map_cons, Instr.fill]
    rw [if_neg (by simp [hsz]; omega)]
    have hf := fold_set (i * size) v.cells.toList 0 cells (by simp [hsz]; omega)
    have e1 : (cells.toList.take (i * size)).length = i * size := by rw [List.length_take, Array.length_toList]; omega
    have e2 : v.cells.toList.length = size := by simp [hsz]
    have hcon : (v.cells.zipIdx.foldl (fun cs (x : Value × Nat) => cs.setIfInBounds (i * size + x.2) x.1) cells) = (cells.toList.take (i * size) ++ v.cells.toList ++ cells.toList.drop (i * size + size)).toArray := by
      rw [← Array.foldl_toList]
      simpa [hsz] using hf
    have hlen : ((cells.toList.take (i * size) ++ v.cells.toList ++ cells.toList.drop (i * size + size)).toArray).size = (i + 1 + vs.length) * size := by
      rw [List.size_toArray, List.length_append, List.length_append, e1, e2, List.length_drop, Array.length_toList, h]
      simp only [Nat.add_mul]; omega
    rw [hcon, ih (i + 1) _ (fun u hu => hv u (List.mem_cons_of_mem _ hu)) hlen]
    congr 2
    simp only [List.flatten_cons]
    rw [List.take_left' (by rw [List.length_append, e1, e2, Nat.add_mul]; omega), List.append_assoc]
/-- The values of a slice that is written out, in order. -/
def partsOf (env : Env) : Nat → List (Nat × Operand) → Option (List Value)
  | _, [] => some []
  | i, (j, x) :: ps => if i = j then match env.eval x, partsOf env (i + 1) ps with
      | some v, some vs => some (v :: vs)
      | _, _ => none
    else none
theorem partsOf_map {X : Cx} {env : Env} {a : Act} (ha : Holds X env a) : ∀ {ps : List (Nat × Operand)} {i : Nat} {vs : List Value}, partsOf env i ps = some vs → ps.map (fun (x : Nat × Operand) => (x.1, a.eval x.2)) = (vs.zipIdx i).map fun (x : Value × Nat) => (x.2, x.1) := by
  intro ps
  induction ps with
  | nil => intro i vs h; simp [partsOf] at h; simp [h]
  | cons p ps ih =>
    obtain ⟨j, x⟩ := p
    intro i vs h
    unfold partsOf at h
    split at h
    · rename_i hij
      subst hij
      split at h
      · rename_i v vs' h1 h2
        cases h
        simp only [List.map_cons, List.zipIdx_cons, ha.eval h1, ih h2]
      · cases h
    · cases h
/-- What such a slice's values read as. -/
def RowsA {α : Type} (e : Enc α) (vs : List Value) (xs : List α) : A := ⟨fun w O => Rows e w O (vs.map (fun u : Value => u.cells.toList)).flatten xs ∧ ∀ v ∈ vs, v.cells.size = e.n, fun h hO => ⟨h.1.mono hO, h.2⟩, fun h hw => ⟨h.1.loc hw, h.2⟩⟩
theorem RowsA.isDup {α : Type} (e : Enc α) (vs : List Value) (xs : List α) : (RowsA e vs xs).Dup := fun _ _ h => ⟨h.1.dup, h.2⟩
theorem Beside.pure {a : A} {L : List A} (h : ∀ w, a.h w fun _ => 0) : Beside a L := fun w O hs =>
  ⟨fun _ => 0, O, ⟨fun b => Nat.zero_le _, fun b => Nat.le_refl _, fun b h => by omega, fun b h => rfl⟩, h w, hs⟩
theorem run_buildSlice {P : Program} {t : TypeId} {z : Value} {n nb : Nat} {w : World} (hu : P.underlying t = some (.slice E)) (hE : TI P E z n nb) (hzs : z.cells.size = n) {vs : List Value} (hv : ∀ v ∈ vs, v.cells.size = n) (hn : vs.length * n ≤ 16777216) {parts : Array (Nat × Value)}
    (hp : parts.toList = (vs.zipIdx 0).map fun (x : Value × Nat) => (x.2, x.1)) :
    (Instr.buildSlice t vs.length parts).run P w = .ok (.slice (some ⟨w.heap.size, 0, none⟩) vs.length vs.length) (w.alloc (.cells (vs.map (fun u : Value => u.cells.toList)).flatten.toArray E)) := by
  obtain ⟨i, hi, hz, hsz, _⟩ := hE
  have hfill := fill_row n vs 0 ((Array.range (vs.length * n)).map (z.cells[· % z.cells.size]!)) hv (by simp)
  have hfill0 := fill_row n vs 0 ((Array.range (vs.length * n)).map ((#[] : Array Value)[· % (#[] : Array Value).size]!)) hv (by simp)
  simp only [Nat.zero_mul, List.take_zero, List.nil_append] at hfill hfill0
  have hne : ¬ (vs.length * n > 2 ^ 24) := by omega
  by_cases h0 : vs.length * n = 0
  · simp [Instr.buildSlice, run_underlying hu, sizeOf, typeInfo, hi, hsz, hp, h0, newRow, newObj, Sem.run]
    rw [h0] at hfill0
    simp at hfill0
    simp [hfill0, Sem.run]
  · simp [Instr.buildSlice, run_underlying hu, sizeOf, typeInfo, hi, hsz, hp, h0, hne, zeroValue, hz, newRow, newObj, Sem.run]
    simp [hfill, Sem.run]
theorem s_buildSlice {t : TypeId} {z : Value} {nb n sz : Nat} {parts : List (Nat × Operand)} {vs : List Value} (hu : X.P.underlying t = some (.slice E)) (hE : TI X.P E z sz nb) (hzs : z.cells.size = sz) (hp : partsOf env 0 parts = some vs) (hn : vs.length = n)
    (hn2 : n * sz ≤ 16777216) (hn3 : n ≤ 16777216) (hb : Beside (RowsA e vs zs) L) (hlen : zs.length = n) (hsz0 : e.n = sz) (hd : d < X.fn.ntmps)
    (k : ∀ u, Kont X ((d, u) :: env) (Own e E u zs :: L) K) : StepK X kk ⟨some d, .buildSlice t n parts.toArray, T, pos, af, none⟩ env L K := by
  subst hsz0
  refine s_main (γ := Value) (V := fun u => u) (pu := fun _ => True) (L' := fun u => Own e E u zs :: L) ?_ hd (fun u _ => k u)
  intro a w O ha hst hdom
  obtain ⟨O1, O2, s, ⟨hr, hv⟩, hs2⟩ := hb w O hst
  subst hn
  have hrun := run_buildSlice (P := X.P) (w := w) (t := t) (E := E) hu hE hzs hv hn2 (parts := (parts.map fun (x : Nat × Operand) => (x.1, a.eval x.2)).toArray) (by simpa using partsOf_map ha hp)
  have hl : (vs.map (fun u : Value => u.cells.toList)).flatten.length = vs.length * e.n := by rw [← hlen]; exact hr.length
  have hO1 : O1 w.heap.size = 0 := by have := dom_zero hdom; have := s.l w.heap.size; omega
  refine ⟨.slice (some ⟨w.heap.size, 0, none⟩) vs.length vs.length, w.alloc (.cells (vs.map (fun u : Value => u.cells.toList)).flatten.toArray E), fresh w O, by simp [execOp, hrun], trivial, ?_, rel_alloc _ hdom⟩
  refine ⟨fun b => if b = w.heap.size then 2 else min (O1 b) 1, O2, ⟨fun b => ?_, fun b => ?_, fun b hb => ?_, fun b hb => ?_⟩, ?_, hs2.loc fun b hb => ?_⟩
  · have := s.l b; have := Nat.min_le_left (O1 b) 1
    show (if _ then _ else _) ≤ (if _ then _ else _)
    split
    · exact Nat.le_refl _
    · exact Nat.le_trans (Nat.min_le_left _ _) (s.l b)
  · have := s.r b
    show _ ≤ (if _ then _ else _)
    split
    · rename_i h; have h2 := dom_zero hdom; rw [← h] at h2; omega
    · exact this
  · by_cases h : b = w.heap.size
    · have h2 := dom_zero hdom; have := s.r b; rw [← h] at h2; omega
    · have hb' : 2 ≤ (if b = w.heap.size then 2 else min (O1 b) 1) := hb
      have := Nat.min_le_right (O1 b) 1
      rw [if_neg h] at hb'; omega
  · show (if _ then _ else _) = 0
    have := s.rl b hb; have := Nat.min_le_left (O1 b) 1
    split
    · rename_i h; have h2 := dom_zero hdom; have := s.r b; rw [← h] at h2; omega
    · exact Nat.le_antisymm (Nat.le_trans (Nat.min_le_left _ _) (Nat.le_of_eq (s.rl b hb))) (Nat.zero_le _)
  · refine ⟨fun b => if b = w.heap.size then 2 else 0, fun b => min (O1 b) 1, (vs.map (fun u : Value => u.cells.toList)).flatten, ⟨fun b => ?_, fun b => ?_, fun b hb => ?_, fun b hb => ?_⟩, ?_, fun k hk => ?_, ?_⟩
    · show (if _ then _ else _) ≤ (if _ then _ else _); split <;> omega
    · have := Nat.min_le_right (O1 b) 1; show _ ≤ (if _ then _ else _); split
      · omega
      · exact Nat.le_refl _
    · by_cases h : b = w.heap.size
      · rw [h, hO1]; rfl
      · have hb' : 2 ≤ (if b = w.heap.size then 2 else 0) := hb
        rw [if_neg h] at hb'; omega
    · have : 2 ≤ min (O1 b) 1 := hb; have := Nat.min_le_right (O1 b) 1; omega
    · rw [hlen]
      exact World.ownsRow_lit w (vs.map (fun u : Value => u.cells.toList)).flatten.toArray vs.length (Nat.zero_le _) (by simp only [maxLen]; omega) (by simpa using hl)
    · simp only [Value.ownBlock, Option.some.injEq] at hk
      subst hk; simp
    · refine (hr.dup).loc fun b hb => ?_
      have hb' : O1 b ≠ 0 := by intro h; apply hb; show min (O1 b) 1 = 0; have := Nat.min_le_left (O1 b) 1; omega
      have := hdom b (by have := s.l b; omega)
      show (w.heap.push _)[b]? = _
      rw [Array.getElem?_push, if_neg (by omega)]
  · have := hdom b (by have := s.r b; omega)
    show (w.heap.push _)[b]? = _
    rw [Array.getElem?_push, if_neg (by omega)]
theorem Pick.own_sl {α : Type} {e : Enc α} {T : TypeId} {v : Value} {xs : List α} {L : List A} : Pick (Sl e v xs) (Own e T v xs :: L) L := Pick.of Pick.here fun _ _ h => Own.sl h
theorem rows_scalar {α : Type} {e : Enc α} {f : α → Value} (hf : ∀ w O x, e.rd w O [f x] x) (hc : ∀ x, (f x).cells = #[f x]) (w : World) (O : Perm) : ∀ xs : List α, Rows e w O ((xs.map f).map (fun u : Value => u.cells.toList)).flatten xs
  | [] => rfl
  | x :: xs => ⟨[f x], _, by simp [hc], hf w O x, rows_scalar hf hc w O xs⟩
theorem beside_scalar {α : Type} {e : Enc α} {f : α → Value} {L : List A} (h1 : e.n = 1) (hf : ∀ w O x, e.rd w O [f x] x) (hc : ∀ x, (f x).cells = #[f x]) (xs : List α) : Beside (RowsA e (xs.map f) xs) L :=
  Beside.pure fun w => ⟨rows_scalar hf hc w _ xs, fun v hv => by
    obtain ⟨x, _, rfl⟩ := List.mem_map.1 hv
    rw [hc, h1]; rfl⟩
theorem beside_str {L : List A} (xs : List ByteArray) : Beside (RowsA eStr (xs.map .string) xs) L := beside_scalar rfl (fun _ _ _ => rfl) (fun _ => rfl) xs
theorem beside_int {L : List A} (k : IntKind) (xs : List Int) : Beside (RowsA (eInt k) (xs.map (.int k)) xs) L := beside_scalar rfl (fun _ _ _ => rfl) (fun _ => rfl) xs
theorem beside_byte {L : List A} (xs : List UInt8) : Beside (RowsA eByte (xs.map fun b => .int .u8 b.toNat) xs) L := beside_scalar rfl (fun _ _ _ => rfl) (fun _ => rfl) xs
end
theorem sAt_nat (s : ByteArray) (k : Nat) (h : k < s.size) : sAt s (k : Int) = ((s.data.toList[k]'(by rw [← Lib.size_eq]; exact h)).toNat : Int) := by
  simp only [sAt, Int.toNat_natCast, List.getD_eq_getElem?_getD]
  rw [List.getElem?_eq_getElem (by rw [← Lib.size_eq]; exact h)]; rfl
theorem byte_of {b : UInt8} {n : Nat} (h : ((b.toNat : Nat) : Int) = (n : Int)) (hn : n < 256) : b = UInt8.ofNat n := by
  have : b.toNat = n := by omega
  rw [← this]; simp
end Go.SL
/- Cuts with explicit values; slices that may be appended to without being owned (their capacity is their length). -/
namespace Go.SL
open Go

section
variable {K : Act → World → Prop} {X : Cx} {ops : Array Oper} {rest : List Oper} {kk : List Item} {env : Env} {L L1 L2 : List A} {d : Nat} {T : TypeId} {pos : String} {af : Array Edge} {x y : Operand}
variable {α : Type} {e : Enc α} {v u : Value} {zs ys : List α} {E : TypeId}

def cutV (a0 : Option Addr) (l h c n : Nat) : Value := .slice (if c = l then a0 else a0.map (·.add (l * n))) (h - l) (c - l)
theorem v_slice {t : TypeId} {z0 : Value} {bt n len cap : Nat} {a0 : Option Addr} {lo hi mx : Option Operand} {l h c : Nat} (hu : X.P.underlying t = some (.slice E)) (hE : TI X.P E z0 n bt) (hx : env.eval x = some (.slice a0 len cap))
    (hlo : (lo = none ∧ l = 0) ∨ ∃ o K n, lo = some o ∧ env.eval o = some (.int K n) ∧ 0 ≤ n ∧ n.toNat = l)
    (hhi : (hi = none ∧ h = len ∧ mx = none) ∨ ∃ o K n, hi = some o ∧ env.eval o = some (.int K n) ∧ 0 ≤ n ∧ n.toNat = h)
    (hmx : (mx = none ∧ c = cap) ∨ ∃ o K n, mx = some o ∧ env.eval o = some (.int K n) ∧ 0 ≤ n ∧ n.toNat = c)
    (h1 : l ≤ h) (h2 : h ≤ c) (h3 : c ≤ cap) :
    Val X env L (.slice t x lo hi mx) T (cutV a0 l h c n) := by
  intro _ _ _ _ a w O ha _
  obtain ⟨ti, hi', _, hsz, _⟩ := hE
  have hbl : ∀ {o : Operand} {K : IntKind} {n : Int} {m : Nat} {c : BoundsCode}, env.eval o = some (.int K n) → 0 ≤ n → n.toNat ≤ m → (Instr.sliceBound (a.eval o) m c).run X.P w = .ok n.toNat w := by
    intro o K n m c ho h0 hm
    rw [ha.eval ho, run_sliceBound (w := w) K n m c h0 (by omega)]
  have hbd : (Instr.sliceBounds true len cap (lo.map a.eval) (hi.map a.eval) (mx.map a.eval)).run X.P w = .ok (l, h, c) w := by
    rcases hmx with ⟨rfl, rfl⟩ | ⟨o3, K3, n3, rfl, ho3, hn3, rfl⟩
    · rcases hlo with ⟨rfl, rfl⟩ | ⟨o1, K1, n1, rfl, ho1, hn1, rfl⟩ <;> rcases hhi with ⟨rfl, rfl, _⟩ | ⟨o2, K2, n2, rfl, ho2, hn2, rfl⟩
      · simp [Instr.sliceBounds]
      · simp [Instr.sliceBounds, hbl (m := c) (c := .sliceAcap) ho2 hn2 (by omega)]
      · simp [Instr.sliceBounds, hbl (m := h) (c := .sliceB) ho1 hn1 (by omega)]
      · simp [Instr.sliceBounds, hbl (m := c) (c := .sliceAcap) ho2 hn2 (by omega), hbl (m := n2.toNat) (c := .sliceB) ho1 hn1 (by omega)]
    · rcases hhi with ⟨_, _, h⟩ | ⟨o2, K2, n2, rfl, ho2, hn2, rfl⟩
      · cases h
      · rcases hlo with ⟨rfl, rfl⟩ | ⟨o1, K1, n1, rfl, ho1, hn1, rfl⟩
        · simp [Instr.sliceBounds, hbl (m := cap) (c := .slice3Acap) ho3 hn3 (by omega), hbl (m := n3.toNat) (c := .slice3B) ho2 hn2 (by omega)]
        · simp [Instr.sliceBounds, hbl (m := cap) (c := .slice3Acap) ho3 hn3 (by omega), hbl (m := n3.toNat) (c := .slice3B) ho2 hn2 (by omega), hbl (m := n2.toNat) (c := .slice3C) ho1 hn1 (by omega)]
  have hst : (Instr.sliceAt t (.slice a0 len cap) (lo.map a.eval) (hi.map a.eval) (mx.map a.eval)).run X.P w = .ok (cutV a0 l h c n) w := by
    simp [Instr.sliceAt, Instr.slice, run_underlying hu, hbd, sizeOf, typeInfo, hi', hsz, cutV]
  simp [execOp, ha.eval hx, hst]

theorem Sl.cutV {w : World} {O : Perm} {a0 : Option Addr} {cap lo hi c : Nat} (h : (Sl e (.slice a0 zs.length cap) zs).h w O) (h1 : lo ≤ hi) (h2 : hi ≤ zs.length) (h3 : hi ≤ c) (h4 : c ≤ cap) :
    (Sl e (cutV a0 lo hi c e.n) ((zs.take hi).drop lo)).h w O := SlP.cut h h1 h2 h3 h4
/-- A slice's explicit form. -/
theorem Sl.form {w : World} {O : Perm} (h : (Sl e v zs).h w O) : ∃ a0 cap, v = .slice a0 zs.length cap ∧ zs.length ≤ cap ∧ cap ≤ maxLen := by
  obtain ⟨a0, cap, hv, h1, h2, _⟩ := h
  exact ⟨a0, cap, hv, h1, h2⟩

/-- What may be appended to: a row of one's own, or one whose capacity is its length. -/
def Apd {α : Type} (e : Enc α) (T : TypeId) (v : Value) (xs : List α) : A where
  h := fun w O => (Own e T v xs).h w O ∨ ∃ a, v = .slice a xs.length xs.length ∧ SlP e w O v xs
  mono := fun h hO => h.imp (fun h => (Own e T v xs).mono h hO) (fun ⟨a, h1, h2⟩ => ⟨a, h1, h2.mono hO⟩)
  loc := fun h hw => h.imp (fun h => (Own e T v xs).loc h hw) (fun ⟨a, h1, h2⟩ => ⟨a, h1, h2.loc hw⟩)
theorem Apd.sl {w : World} {O : Perm} (h : (Apd e E v zs).h w O) : (Sl e v zs).h w O := by
  rcases h with h | ⟨_, _, h⟩
  · exact Own.sl h
  · exact h
theorem Has.sl_apd {α : Type} {e : Enc α} {T : TypeId} {v : Value} {xs : List α} {L : List A} : Has (Apd e T v xs :: L) (Sl e v xs) := Has.here.imp fun _ _ h => Apd.sl h

theorem add_off (b off j : Nat) : (⟨b, off, none⟩ : Addr).add j = ⟨b, off + j, none⟩ := by
  unfold Addr.add; split
  · rename_i h; rw [h, Nat.add_zero]
  · rfl
theorem Pick.beside {a : A} {L : List A} (h : ∀ w, a.h w fun _ => 0) : Pick a L L := fun w O hs =>
  ⟨fun _ => 0, O, ⟨fun b => Nat.zero_le _, fun b => Nat.le_refl _, fun b h => by omega, fun b h => rfl⟩, h w, hs⟩
theorem Pick.sl_nil {α : Type} {e : Enc α} {L : List A} : Pick (Sl e (.slice none 0 0) []) L L := Pick.beside fun w => Sl.nil e w _
theorem Pick.own_nil {α : Type} {e : Enc α} {T : TypeId} {L : List A} : Pick (Own e T (.slice none 0 0) []) L L := Pick.beside fun w => Own.nil e T w _
theorem Pick.apd_sl {α : Type} {e : Enc α} {T : TypeId} {v : Value} {xs : List α} {L : List A} : Pick (Sl e v xs) (Apd e T v xs :: L) L := Pick.of Pick.here fun _ _ h => Apd.sl h
theorem Has.sl_nil {α : Type} {e : Enc α} {L : List A} : Has L (Sl e (.slice none 0 0) []) := fun w O _ => Sl.nil e w O
theorem Ent.get {L L' : List A} {w : World} {O : Perm} (hs : Stars L w O) (h : Ent L L') : Stars L' w O := h w O hs
theorem stars_own_nil {α : Type} {e : Enc α} {T : TypeId} {w : World} {O : Perm} : Stars [Own e T (.slice none 0 0) ([] : List α)] w O := Ent.get (L := []) trivial (Ent.beside fun w _ _ => Own.nil e T w _)
end
end Go.SL
/- Pointers; calls of functions without a body; strings put behind bytes; strings that share bytes. -/
namespace Go.SL
open Go

section
variable {K : Act → World → Prop} {X : Cx} {ops : Array Oper} {rest : List Oper} {kk : List Item} {env : Env} {L L1 L2 : List A} {d : Nat} {T : TypeId} {pos : String} {af : Array Edge} {x y : Operand} {xT yT : TypeId}
variable {α : Type} {e : Enc α} {v u : Value} {zs ys : List α} {E : TypeId}

/-- Rules for '==' and '!=' of values that are compared by Op.equal. -/
theorem v_eql_any {a b : Value} {r : Bool} (hx : env.eval x = some a) (hy : env.eval y = some b) (hne : ∀ op, binOp op xT a b = match op with
      | .eql => (do pure (.bool (← Op.equal xT a b)))
      | .neq => (do pure (.bool (!(← Op.equal xT a b))))
      | _ => binOp op xT a b) (hg : ∀ op, eqGuard op xT x y a b = pure ()) (h : ∀ w O, Stars L w O → (Op.equal xT a b).run X.P w = .ok r w) : Val X env L (.binOp .eql xT x y yT) T (.bool r) :=
  fun _ _ _ _ ac w O ha hs => by
    have h1 := hne .eql
    simp only at h1
    simp only [execOp, ha.eval hx, ha.eval hy, hg, h1]
    simp [h w O hs]
theorem equal_succ {P : Program} {t : TypeId} {a b : Value} {w : World} {d : TypeDesc} (hu : P.underlying t = some d) : (Op.equal t a b).run P w = (Op.equalIn (9999 + 1) t a b).run P w := rfl
theorem v_eq_sl_nil {a0 : Option Addr} {n c : Nat} (hu : X.P.underlying xT = some (.slice E)) (hx : env.eval x = some (.slice a0 n c)) (hy : env.eval y = some (.slice none 0 0)) : Val X env L (.binOp .eql xT x y yT) T (.bool a0.isNone) :=
  v_eql_any hx hy (fun op => by cases op <;> rfl) (fun op => by cases op <;> rfl) fun w O _ => by
    rw [equal_succ hu, Op.equalIn]
    simp only [Sem.run_bind, run_underlying hu, Result.andThen_ok]
    cases a0 <;> rfl
/-! ### a slice is stored -/
/-! ### append of a string to bytes -/
theorem s_append_str {t t2 : TypeId} {s : ByteArray} {l : List UInt8} (hu : X.P.underlying t = some (.slice E)) (hu2 : X.P.underlying t2 = some .string) (hE : TI X.P E (.int .u8 0) 1 1)
    (hx : env.eval x = some v) (hy : env.eval y = some (.string s)) (hd : d < X.fn.ntmps) (hp : Pick (Own eByte E v l) L L1) (hb : l.length + s.size ≤ 140737488355328)
    (k : ∀ v', Kont X ((d, v') :: env) (Own eByte E v' (l ++ s.data.toList) :: L1) K) :
    StepK X kk ⟨some d, .call ⟨.builtin .append, #[x, y], #[t, t2]⟩, T, pos, af, none⟩ env L K := by
  refine s_main (γ := Value) (V := fun u => u) (pu := fun _ => True) (L' := fun v' => Own eByte E v' (l ++ s.data.toList) :: L1) ?_ hd (fun u _ => k u)
  intro a w O ha hst hdom
  obtain ⟨O1, O2, s1, hO, hs2⟩ := hp w O hst
  obtain ⟨ti, hi, hz0, hsz, hbt⟩ := hE
  obtain ⟨P1, P2, cs, t1, g1, g2, g3⟩ := id hO
  have hcs := eByte_rows.1 g3
  have hss : s.size = s.data.toList.length := Lib.size_eq s
  have hm : l.length + s.size ≤ maxLen := by simp only [maxLen]; omega
  have key : ∃ v' w', (Builtin.append_ #[t, t2] T #[v, .string s]).run X.P w = .ok v' w' ∧ w'.ownsRow 0 E 1 v' (l.length + s.size) (cs ++ Lib.strCells s) ∧ w.grownBy w' v.ownBlock ∧ ∀ b, v'.ownBlock = some b → b < w'.heap.size ∧ (v.ownBlock = some b ∨ w.heap.size ≤ b) := by
    have hblk : ∀ {w' : World} {v' : Value} {base n : Nat} {xs : List Value}, w'.ownsRow base E 1 v' n xs → ∀ b, v'.ownBlock = some b → b < w'.heap.size ∧ base ≤ b := by
      intro w' v' base n xs h b hb
      rcases h.2 with ⟨rfl, _⟩ | ⟨g, cap, cur, rfl, hbase, hg, _⟩
      · simp [Value.ownBlock] at hb
      · simp only [Value.ownBlock, Option.some.injEq] at hb
        subst hb
        refine ⟨?_, hbase⟩
        rcases Nat.lt_or_ge g w'.heap.size with h | h
        · exact h
        · rw [Array.getElem?_eq_none h] at hg; cases hg
    have weak : ∀ {w' : World} {v' : Value} {base n : Nat} {xs : List Value}, w'.ownsRow base E 1 v' n xs → w'.ownsRow 0 E 1 v' n xs := by
      intro w' v' base n xs h
      exact ⟨h.1, h.2.imp id fun ⟨g, cap, cur, e, _, r⟩ => ⟨g, cap, cur, e, Nat.zero_le _, r⟩⟩
    rcases g1.2 with ⟨rfl, h0⟩ | ⟨g, cap', cur, rfl, hbg, hg, hnc, hcm, hcs', htake⟩
    · have g1' : w.ownsRow w.heap.size E 1 (.slice none 0 0) l.length cs := ⟨g1.1, .inl ⟨rfl, h0⟩⟩
      obtain ⟨v', w', hrun, hown', hgr, _⟩ := Lib.run_append_own_string (P := X.P) (w := w) w.heap.size t t2 T E ti hu hu2 hi hz0 hsz hbt _ l.length cs g1' s hm hb (Nat.le_refl _)
      exact ⟨v', w', hrun, weak hown', hgr, fun b hb => ⟨(hblk hown' b hb).1, .inr (hblk hown' b hb).2⟩⟩
    · by_cases hroom : l.length + s.size ≤ cap'
      · have hsz1 : cur.size = cap' := by rw [hcs']; exact Nat.mul_one _
        have hr := Lib.run_append_room_string (P := X.P) (w := w) t t2 T E ti hu hu2 hi hsz g l.length cap' cur hg s hroom (by rw [hsz1]; exact hroom)
        have hcl : cs.length = l.length := by rw [hcs]; simp
        have hlen : (cs ++ Lib.strCells s).length = (l.length + s.size) * 1 := by rw [List.length_append, hcl, Lib.strCells_length, Nat.mul_one]
        have htake' : cur.toList.take l.length = cs := by have h := htake; rw [show eByte.n = 1 from rfl, Nat.mul_one] at h; exact h
        have hown' : (w.setRow g (cur.toList.take l.length ++ Lib.strCells s ++ cur.toList.drop (l.length + s.size)).toArray).ownsRow 0 E 1 (.slice (some ⟨g, 0, none⟩) (l.length + s.size) cap') (l.length + s.size) (cs ++ Lib.strCells s) := by
          refine ⟨hlen, .inr ⟨g, cap', _, rfl, Nat.zero_le _, setRow_heap w g cur _ E _ hg, hroom, hcm, ?_, ?_⟩⟩
          · simp only [List.size_toArray, List.length_append, List.length_take, List.length_drop, Array.length_toList, Lib.strCells_length]
            omega
          · rw [htake', ← hlen]
            exact List.take_left
        refine ⟨_, _, hr, hown', ⟨rfl, rfl, rfl, by simp, fun k _ hk => setRow_other w g k _ (fun e => hk (by simp [Value.ownBlock, e]))⟩, fun b hb => ⟨(hblk hown' b hb).1, .inl hb⟩⟩
      · have holds : ∀ j u, cs[j]? = some u → w.cell? ((⟨g, 0, none⟩ : Addr).add j) = some u := by
          intro j u hj
          have hjl := cell_in hj
          rw [g1.1] at hjl
          rw [add_off, blk_cell hg]
          rw [← htake, List.getElem?_take, if_pos hjl] at hj
          simpa using hj
        have hcl : cs.length = l.length * ti.size := by rw [g1.1, hsz]; rfl
        have hrun := Lib.run_append_grow_string (P := X.P) (w := w) t t2 T E ti (.int .u8 0) hu hu2 hi hz0 ⟨g, 0, none⟩ l.length cap' cs hcl holds s (by omega) (by have := hm; simp only [maxLen] at this; omega) (growslice_fits (by omega) (by rw [hbt]; omega))
        obtain ⟨v1, w1, hrun1, hown1, hgr1, _⟩ := Lib.run_append_own_string (P := X.P) (w := w) 0 t t2 T E ti hu hu2 hi hz0 hsz hbt _ l.length cs ⟨g1.1, .inr ⟨g, cap', cur, rfl, hbg, hg, hnc, hcm, hcs', htake⟩⟩ s hm hb (Nat.zero_le _)
        have e1 := hrun1.symm.trans hrun
        injection e1 with e1 e2
        refine ⟨v1, w1, hrun1, hown1, hgr1, fun b hb => ⟨(hblk hown1 b hb).1, .inr ?_⟩⟩
        rw [e1] at hb
        simp only [Value.ownBlock, Option.some.injEq] at hb
        omega
  obtain ⟨v', w', hrun, hown', hgr, hv'⟩ := key
  obtain ⟨P, hP, hrel⟩ := own_grow (e := eByte) (ys := s.data.toList) (a' := Pu True) (v' := v') (cs' := Lib.strCells s) (O3 := fun _ => 0) (O4 := O2) hdom s1 hO ⟨fun _ => Nat.zero_le _, fun _ => Nat.le_refl _, fun _ h => by omega, fun _ _ => rfl⟩ trivial hs2
    (eByte_rows.2 rfl) (fun Q1 Q2 c0 _ h1 h3 => by
      have : c0 = cs := by rw [eByte_rows.1 h3, hcs]
      rw [this, ← hss]; exact hown') hgr hv'
  have hruns : (Builtin.append_ #[t, t2] T #[a.eval x, a.eval y]).run X.P w = .ok v' w' := by rw [ha.eval hx, ha.eval hy]; exact hrun
  exact ⟨v', w', P, by simp [execOp, resolve, invoke, builtin, hruns], trivial, Ent.get hP (Ent.cons Ent.drop), hrel⟩

/-! ### a string that shares a row's bytes -/
end
end Go.SL
/- Cuts in regions that draw their order; facts of what a contract takes. -/
namespace Go.SL
open Go

theorem Con.form {P : Program} {f : FuncId} {args : List Value} {L : List A} {γ : Type} {ret : γ → Value} {pu : γ → Prop} {L' : γ → List A} {α : Type} {e : Enc α} {v : Value} {xs : List α}
    (hp : Has L (Sl e v xs)) (h : ∀ a0 cap, v = .slice a0 xs.length cap → xs.length ≤ cap → cap ≤ maxLen → Con P f args L ret pu L') : Con P f args L ret pu L' :=
  fun w O hs hd => by
    obtain ⟨a0, cap, h1, h2, h3⟩ := Sl.form (hp w O hs)
    exact h a0 cap h1 h2 h3 w O hs hd
theorem Sl.none_nil {α : Type} {e : Enc α} {n c : Nat} {xs : List α} {w : World} {O : Perm} (h : (Sl e (.slice none n c) xs).h w O) : xs = [] := by
  obtain ⟨a, cap, hv, h1, h2, h3⟩ := h
  cases hv
  rcases h3 with ⟨_, h⟩ | ⟨_, _, _, h, _⟩
  · exact h
  · cases h
theorem Own.form {α : Type} {e : Enc α} {T : TypeId} {v : Value} {xs : List α} {w : World} {O : Perm} (h : (Own e T v xs).h w O) : (v = .slice none 0 0 ∧ xs = []) ∨ ∃ g cap, v = .slice (some ⟨g, 0, none⟩) xs.length cap ∧ xs.length ≤ cap := by
  obtain ⟨O1, O2, cs, s, h1, h2, h3⟩ := h
  rcases h1.2 with ⟨rfl, h0⟩ | ⟨g, cap, cur, rfl, _, hg, hle, _⟩
  · exact .inl ⟨rfl, List.eq_nil_of_length_eq_zero h0⟩
  · exact .inr ⟨g, cap, rfl, hle⟩
theorem Con.own {P : Program} {f : FuncId} {args : List Value} {L : List A} {γ : Type} {ret : γ → Value} {pu : γ → Prop} {L' : γ → List A} {α : Type} {e : Enc α} {T : TypeId} {v : Value} {xs : List α}
    (hp : Has L (Own e T v xs)) (h0 : v = .slice none 0 0 → xs = [] → Con P f args L ret pu L') (h1 : ∀ g cap, v = .slice (some ⟨g, 0, none⟩) xs.length cap → xs.length ≤ cap → Con P f args L ret pu L') : Con P f args L ret pu L' :=
  fun w O hs hd => by
    rcases Own.form (hp w O hs) with ⟨h, h'⟩ | ⟨g, cap, h, h'⟩
    · exact h0 h h' w O hs hd
    · exact h1 g cap h h' w O hs hd
theorem Pick.r_blk {b : Nat} {T : TypeId} {cs : List Value} {L : List A} : Pick (BlkR b T cs) (Blk b T cs :: L) L := Pick.of Pick.here fun _ _ h => Blk.r h
/-- A contract of a function that leaves the world as it is. -/
theorem con_pure {P : Program} {f : FuncId} {args : List Value} {v : Value} {L : List A} (h : ∀ w O, Stars L w O → Calls P f args.toArray w fun e w' => e = .returned v ∧ w' = w) :
    Con P f args L (γ := Unit) (fun _ => v) (fun _ => True) (fun _ => []) := fun w O hs hd => (h w O hs).mono fun e w' ⟨he, hw⟩ => by
  subst hw
  exact ⟨(), O, he, trivial, trivial, Rel.refl hd⟩
theorem Env.int {e : Env} {t : Nat} {K : IntKind} {a b : Int} (h : e.look t = some (.int K a)) (hab : a = b) : e.look t = some (.int K b) := by rw [h, hab]
theorem Env.as {e : Env} {t : Nat} {a b : Value} (h : e.look t = some a) (hab : a = b) : e.look t = some b := by rw [h, hab]
theorem has_cell {b off : Nat} {T : TypeId} {cs : List Value} {L : List A} {u : Value} (h : Has L (BlkR b T cs)) (hc : cs[off]? = some u) {w : World} {O : Perm} (hs : Stars L w O) : w.cell? ⟨b, off, none⟩ = some u := by
  obtain ⟨_, fz, hh⟩ := h w O hs
  rw [blk_cell hh]; simpa using hc
section
variable {X : Cx} {ops : Array Oper} {rest : List Oper} {kk : List Item} {env : Env} {L L1 : List A} {d : Nat} {T : TypeId} {pos : String} {af : Array Edge} {x : Operand}
theorem v_len_form {t : TypeId} {E : TypeId} {a0 : Option Addr} {n c : Nat} (hu : X.P.underlying t = some (.slice E)) (hx : env.eval x = some (.slice a0 n c)) : Val X env L (.call ⟨.builtin .len, #[x], #[t]⟩) T (.int .i64 n) :=
  fun _ _ _ _ a w O ha hl => by
    simp [execOp, resolve, invoke, builtin, Builtin.len_, ha.eval hx, run_underlying hu, goInt]
theorem q_ent (h1 : Ent L L1) (h2 : Ent L1 L) (h : Qops X ops rest kk env L1) : Qops X ops rest kk env L := by
  have e : QC X L = QC X L1 := funext fun w => propext ⟨fun ⟨O, hs, hr⟩ => ⟨O, h1 w O hs, hr⟩, fun ⟨O, hs, hr⟩ => ⟨O, h2 w O hs, hr⟩⟩
  unfold Qops
  rw [e]
  exact h
theorem q_slice {α : Type} {e : Enc α} {zs : List α} {E : TypeId} {t : TypeId} {z0 : Value} {bt cap : Nat} {a0 : Option Addr} {lo hi mx : Option Operand} {l h c : Nat} (hu : X.P.underlying t = some (.slice E)) (hE : TI X.P E z0 e.n bt)
    (hx : env.eval x = some (.slice a0 zs.length cap)) (hp : Pick (Sl e (.slice a0 zs.length cap) zs) L L1)
    (hlo : (lo = none ∧ l = 0) ∨ ∃ o K n, lo = some o ∧ env.eval o = some (.int K n) ∧ 0 ≤ n ∧ n.toNat = l)
    (hhi : (hi = none ∧ h = zs.length ∧ mx = none) ∨ ∃ o K n, hi = some o ∧ env.eval o = some (.int K n) ∧ 0 ≤ n ∧ n.toNat = h)
    (hmx : (mx = none ∧ c = cap) ∨ ∃ o K n, mx = some o ∧ env.eval o = some (.int K n) ∧ 0 ≤ n ∧ n.toNat = c)
    (h1 : l ≤ h) (h2 : h ≤ zs.length) (h3 : h ≤ c) (h4 : c ≤ cap) (hd : d < X.fn.ntmps)
    (hback : Ent (Sl e (.slice a0 zs.length cap) zs :: L1) L)
    (k : Qops X ops rest kk ((d, cutV a0 l h c e.n) :: env) (Sl e (cutV a0 l h c e.n) ((zs.take h).drop l) :: Sl e (.slice a0 zs.length cap) zs :: L1)) :
    Qops X ops (⟨some d, .slice t x lo hi mx, T, pos, af, none⟩ :: rest) kk env L :=
  q_val (v_slice hu hE hx hlo hhi hmx h1 h3 h4) hd
    (q_ent (Ent.share hp (Sl.isDup _ _ _) fun _ _ h => Sl.cutV h h1 h2 h3 h4) (fun w O hs => hback w O (Ent.drop w O hs)) k)
end
end Go.SL
/- Loops over functions: rounds, yield, iterators' contracts, the loop itself. -/
namespace Go.SL
open Go

/-- Block b is one's own, and is this object. -/
def ObjA (b : Nat) (o : Obj) : A where
  h := fun w O => 2 ≤ O b ∧ w.heap[b]? = some o
  mono := fun ⟨h1, h2⟩ hO => ⟨Nat.le_trans h1 (hO b), h2⟩
  loc := fun ⟨h1, h2⟩ hw => ⟨h1, (hw b (by omega)).trans h2⟩
theorem obj_put {w : World} {O : Perm} {b : Nat} {o o' : Obj} {L : List A} (h : Stars (ObjA b o :: L) w O) (hd : ∀ b, O b ≠ 0 → b < w.heap.size) : Stars (ObjA b o' :: L) (w.putObj b o') O ∧ Rel w O (w.putObj b o') O := by
  obtain ⟨O1, O2, s, ⟨h1, h2⟩, h3⟩ := h
  have hb : b < w.heap.size := hd b (by have := s.l b; omega)
  refine ⟨⟨O1, O2, s, ⟨h1, World.putObj_heap_same hb⟩, h3.loc fun c hc => ?_⟩, ⟨rfl, rfl, rfl, by simp, fun c hc h => ?_, fun _ _ => Nat.le_refl _, fun c hc => by simpa using hd c hc⟩⟩
  · have : c ≠ b := by intro e; subst e; have := s.lr c h1; omega
    rw [World.putObj_heap_other this]
  · have : c ≠ b := by intro e; subst e; have := s.l c; omega
    rw [World.putObj_heap_other this]
section
variable {X : Cx} {k : List Item} {env : Env} {L L1 : List A} {l : Nat} {r : Loop}
end

/-- What yield(args) comes to: true, and L1; or false, and L0. -/
def Yield (P : Program) (l : Nat) (args : List Value) (L L1 L0 : List A) : Prop :=
  ∀ w O, Stars L w O → (∀ b, O b ≠ 0 → b < w.heap.size) → ∃ f tmps assign body, (Instr.yield l args.toArray).run P w = .ok (.round l f tmps assign body) w ∧
    Round P l f tmps assign body w fun v w' => ∃ O', Rel w O w' O' ∧ ((v = .bool true ∧ Stars L1 w' O') ∨ (v = .bool false ∧ Stars L0 w' O'))

section
variable {X : Cx} {ops : Array Oper} {rest : List Oper} {kk : List Item} {env : Env} {L Lr : List A}
end

/-! ### rounds as yields -/
def jumpOf : Value → Option Code
  | .bool false => some .ret
  | .int .i64 n => some (.exit n.toNat)
  | _ => none
/-- What a round must end in. -/
def RoundR (l : Nat) (r : Loop) (I1 : List A) (Z : Code → List A) : Value → World → Perm → Prop := fun v w O =>
  (v = .bool true ∧ Stars (ObjA l (.loop { r with state := .busy }) :: I1) w O) ∨ (∃ j, jumpOf v = some j ∧ Stars (ObjA l (.loop { r with state := .busy }) :: Z j) w O)
/-- The record where a round has left by a jump. -/
def Left (l : Nat) (r : Loop) (Z : Code → List A) : List A := [ExA fun j : Code => AllA (ObjA l (.loop { r with state := .done, pending := some j }) :: Z j)]
def putAll : List Tmp → List Value → Env → Env
  | t :: ts, v :: vs, e => putAll ts vs ((t, v) :: e)
  | _, _, e => e
end Go.SL
/- The loop over a function; the way out of a function that has begun one. -/
namespace Go.SL
open Go

theorem Ent.perm {L L' : List A} (h : L.Perm L') : Ent L L' := by
  induction h with
  | nil => exact Ent.refl _
  | cons a _ ih => exact Ent.cons ih
  | swap a b l => exact fun w O hs => (Pick.there Pick.here : Pick a (b :: a :: l) (b :: l)) w O hs
  | trans _ _ h1 h2 => exact fun w O hs => h2 w O (h1 w O hs)
theorem stars_join {L1 L2 : List A} {w : World} {O : Perm} (h : Stars (AllA L1 :: L2) w O) : Stars (L1 ++ L2) w O := by
  obtain ⟨O1, O2, s, h1, h2⟩ := h
  exact Stars.app s h1 h2

/-- An iterator: it hands on what nx lets come behind what has come, until fin, or until yield says no. -/
def Iter {α : Type} (P : Program) (g : FuncId) (caps : List Value) (Lg : List A) (nx : List α → α → Prop) (fin : List α → Prop) (enc : α → List Value) : Prop :=
  ∀ (l : Nat) (I : List α → List A) (Z : List A), (∀ pre x, nx pre x → Yield P l (enc x) (I pre) (I (pre ++ [x])) Z) →
    Con P g (.func (.yield l) #[] #[] :: caps) (Lg ++ I []) (γ := Option (List α)) (fun _ => .tuple #[]) (fun o => ∀ pre, o = some pre → fin pre) (fun o => Lg ++ (match o with | some pre => I pre | none => Z))

/-- The same at one invariant of the loop's; R: what is handed on with each. -/
def IterAt {α : Type} (P : Program) (g : FuncId) (caps : List Value) (Lg : List A) (nx : List α → α → Prop) (fin : List α → Prop) (enc : α → List Value) (R : α → List A) (I : List α → List A) : Prop :=
  ∀ (l : Nat) (o : A) (Z : List A), (∀ pre x, nx pre x → Yield P l (enc x) (o :: (R x ++ I pre)) (o :: I (pre ++ [x])) Z) →
    Con P g (.func (.yield l) #[] #[] :: caps) (Lg ++ (o :: I [])) (γ := Option (List α)) (fun _ => .tuple #[]) (fun q => ∀ pre, q = some pre → fin pre) (fun q => Lg ++ (match q with | some pre => o :: I pre | none => Z))
theorem Iter.at {α : Type} {P : Program} {g : FuncId} {caps : List Value} {Lg : List A} {nx : List α → α → Prop} {fin : List α → Prop} {enc : α → List Value} (it : Iter P g caps Lg nx fin enc) (I : List α → List A) : IterAt P g caps Lg nx fin enc (fun _ => []) I :=
  fun l o Z hy => it l (fun pre => o :: I pre) Z hy

abbrev markOf (D : Nat) : Deferred := { target := .collected D, args := #[] }
section
variable {X : Cx} {k : List Item} {env : Env} {L Lr : List A}
/-! ### the way out of a function that has begun one such loop -/
end

/-! ### small helps -/
theorem Pick.all {As L L1 : List A} (h : Picks As L L1) : Pick (AllA As) L L1 := fun w O hs => h.split w O hs
theorem Has.mem {a : A} {L : List A} (h : a ∈ L) : Has L a := by
  induction L with
  | nil => cases h
  | cons b L ih =>
    rcases List.mem_cons.1 h with rfl | h
    · exact Has.here
    · exact Has.there (ih h)
/-- Rows that are handed on in their order. -/
def nxL {α : Type} (xs : List α) (pre : List α) (x : α) : Prop := pre ++ [x] <+: xs
def finL {α : Type} (xs : List α) (pre : List α) : Prop := pre = xs
end Go.SL
/- Maps: what a map's block holds; look-ups, updates, deletions. -/
namespace Go.SL
open Go

structure KeyEnc (κ : Type) [DecidableEq κ] where
  val : κ → Value
  desc : TypeDesc
  now : ∀ a b, Instr.sameNow desc (val a) (val b) = some (decide (a = b))
  chk : ∀ (P : Program) (w : World) (n : Nat) (e : Bool) (t : TypeId) (k : κ), P.underlying t = some desc → (Instr.checkKey e (n + 1) t (val k)).run P w = .ok () w
def kInt : KeyEnc Int where
  val := .int .i64
  desc := .int .i64
  now := fun a b => by simp [Instr.sameNow, BEq.beq]
  chk := fun P w n e t k h => by simp [Instr.checkKey, run_underlying h]
def kStr : KeyEnc ByteArray where
  val := .string
  desc := .string
  now := fun a b => by
    simp only [Instr.sameNow]
    congr 1
    rw [Bool.eq_iff_iff, Go.MapKept.bytes_beq, decide_eq_true_iff]
  chk := fun P w n e t k h => by simp [Instr.checkKey, run_underlying h]

section
variable {κ : Type} [DecidableEq κ] (ke : KeyEnc κ)
def Ents (es : List MapEntry) (m : List (κ × Value)) : Prop := es.map (fun e => (e.key, e.val)) = m.map (fun p => (ke.val p.1, p.2))
def look (m : List (κ × Value)) (k : κ) : Option Value := (m.find? fun p => decide (p.1 = k)).map (·.2)
theorem findNow_of {k : κ} : ∀ {es : List MapEntry} {m : List (κ × Value)} (i : Nat), Ents ke es m → ∃ r, Instr.findNow ke.desc (ke.val k) es i = some r ∧ r.map (·.2) = look m k ∧ (∀ j v, r = some (j, v) → ∃ n, j = i + n ∧ (m[n]?).map (·.1) = some k) ∧ (r = none → k ∉ m.map (·.1))
  | [], [], i, _ => ⟨none, rfl, rfl, (fun j v h => by cases h), (fun _ => by simp)⟩
  | e :: es, [], i, h => by simp [Ents] at h
  | [], p :: m, i, h => by simp [Ents] at h
  | e :: es, p :: m, i, h => by
    simp only [Ents, List.map_cons, List.cons.injEq, Prod.mk.injEq] at h
    obtain ⟨⟨h1, h2⟩, h3⟩ := h
    rw [Instr.findNow, h1, ke.now]
    by_cases hk : k = p.1
    · rw [decide_eq_true hk]
      refine ⟨_, rfl, ?_, (fun j v hj => ⟨0, ?_, ?_⟩), (fun h => by cases h)⟩
      · simp [look, hk, h2]
      · cases hj; rfl
      · simp [hk]
    · rw [decide_eq_false hk]
      obtain ⟨r, g1, g2, g3, g4⟩ := findNow_of (k := k) (es := es) (m := m) (i + 1) h3
      refine ⟨r, g1, ?_, (fun j v hj => ?_), (fun hr => ?_)⟩
      · rw [g2]; simp [look, Ne.symm hk, List.find?_cons, fun e => hk (Eq.symm e)]
      · obtain ⟨n, hn, hm⟩ := g3 j v hj
        exact ⟨n + 1, by omega, by simpa using hm⟩
      · have := g4 hr
        simp only [List.map_cons, List.mem_cons, not_or]
        exact ⟨hk, this⟩
/-- Block b is one's own, and is a map of these entries. -/
def MapA (b : Nat) (m : List (κ × Value)) : A where
  h := fun w O => 2 ≤ O b ∧ ∃ es clock, w.heap[b]? = some (.map es clock) ∧ Ents ke es.toList m ∧ (es.toList.map fun e : MapEntry => e.born).Nodup ∧ (∀ e ∈ es.toList, e.born < clock) ∧ (m.map fun p : κ × Value => p.1).Nodup
  mono := fun ⟨h1, h2⟩ hO => ⟨Nat.le_trans h1 (hO b), h2⟩
  loc := fun ⟨h1, es, c, h2, h3⟩ hw => ⟨h1, es, c, (hw b (by omega)).trans h2, h3⟩
variable {X : Cx} {env : Env} {L L1 : List A} {T : TypeId} {x y : Operand}
def upd : List (κ × Value) → κ → Value → List (κ × Value)
  | [], k, v => [(k, v)]
  | p :: m, k, v => if p.1 = k then (k, v) :: m else p :: upd m k v
theorem look_nil (k : κ) : look ([] : List (κ × Value)) k = none := rfl
theorem look_cons (p : κ × Value) (m : List (κ × Value)) (k : κ) : look (p :: m) k = if p.1 = k then some p.2 else look m k := by
  simp only [look, List.find?_cons]
  by_cases h : p.1 = k <;> simp [h]
theorem look_upd (v : Value) (k k' : κ) : ∀ m : List (κ × Value), look (upd m k v) k' = if k' = k then some v else look m k'
  | [] => by
    rw [upd, look_cons, look_nil]
    by_cases h : k' = k
    · simp [h]
    · rw [if_neg (fun e => h e.symm), if_neg h]
  | p :: m => by
    rw [upd]
    by_cases hp : p.1 = k
    · rw [if_pos hp, look_cons, look_cons]
      by_cases h : k' = k
      · simp [h]
      · rw [if_neg (fun e => h e.symm), if_neg h, if_neg (fun e => h (e.symm.trans hp))]
    · rw [if_neg hp, look_cons, look_cons, look_upd v k k' m]
      by_cases h : k' = k
      · subst h; simp [hp]
      · simp [h]
theorem upd_keys (k : κ) (v : Value) : ∀ (m : List (κ × Value)), (upd m k v).map (fun p : κ × Value => p.1) = if k ∈ m.map (fun p : κ × Value => p.1) then m.map (fun p : κ × Value => p.1) else m.map (fun p : κ × Value => p.1) ++ [k]
  | [] => by simp [upd]
  | p :: m => by
    rw [upd]
    by_cases hp : p.1 = k
    · simp [hp]
    · rw [if_neg hp, List.map_cons, upd_keys k v m]
      by_cases hk : k ∈ m.map (fun p : κ × Value => p.1)
      · rw [if_pos hk, if_pos (by simp only [List.map_cons, List.mem_cons]; exact .inr hk)]; rfl
      · rw [if_neg hk, if_neg (by simp only [List.map_cons, List.mem_cons, not_or]; exact ⟨fun e => hp e.symm, hk⟩)]; rfl
theorem upd_nodup {k : κ} {v : Value} {m : List (κ × Value)} (h : (m.map fun p : κ × Value => p.1).Nodup) : ((upd m k v).map fun p : κ × Value => p.1).Nodup := by
  rw [upd_keys]
  split
  · exact h
  · rename_i hk
    exact List.nodup_append.2 ⟨h, by simp, fun a ha b hb e => hk (by rw [List.mem_singleton.1 hb] at e; rw [← e]; exact ha)⟩
theorem ents_found {k : κ} {v : Value} : ∀ {es : List MapEntry} {m : List (κ × Value)} (n : Nat), Ents ke es m → (m[n]?).map (fun p : κ × Value => p.1) = some k → (m.map fun p : κ × Value => p.1).Nodup →
    Ents ke (es.modify n fun e => { e with key := ke.val k, val := v }) (upd m k v)
  | [], [], n, _, hn, _ => by simp at hn
  | e :: es, [], n, h, _, _ => by simp [Ents] at h
  | [], p :: m, n, h, _, _ => by simp [Ents] at h
  | e :: es, p :: m, 0, h, hn, _ => by
    simp only [Ents, List.map_cons, List.cons.injEq] at h
    have : p.1 = k := by simpa using hn
    rw [upd, if_pos this]
    simp only [Ents, List.modify_zero_cons, List.map_cons, List.cons.injEq]
    exact ⟨trivial, h.2⟩
  | e :: es, p :: m, n + 1, h, hn, hd => by
    simp only [Ents, List.map_cons, List.cons.injEq] at h
    have hn' : (m[n]?).map (fun p : κ × Value => p.1) = some k := by simpa using hn
    have hd' := List.nodup_cons.1 (by simpa using hd : (p.1 :: m.map fun p : κ × Value => p.1).Nodup)
    have hp : p.1 ≠ k := fun e => hd'.1 (by
      rw [e]
      rw [Option.map_eq_some_iff] at hn'
      obtain ⟨q, hq, hqk⟩ := hn'
      exact List.mem_map.2 ⟨q, List.mem_of_getElem? hq, hqk⟩)
    rw [upd, if_neg hp, List.modify_succ_cons]
    have := ents_found n h.2 hn' hd'.2 (v := v)
    simp only [Ents, List.map_cons, List.cons.injEq]
    exact ⟨h.1, this⟩
theorem ents_new {k : κ} {v : Value} {c : Nat} : ∀ {es : List MapEntry} {m : List (κ × Value)}, Ents ke es m → k ∉ m.map (fun p : κ × Value => p.1) → Ents ke (es ++ [{ key := ke.val k, val := v, born := c }]) (upd m k v)
  | [], [], _, _ => rfl
  | e :: es, [], h, _ => by simp [Ents] at h
  | [], p :: m, h, _ => by simp [Ents] at h
  | e :: es, p :: m, h, hk => by
    simp only [Ents, List.map_cons, List.cons.injEq] at h
    simp only [List.map_cons, List.mem_cons, not_or] at hk
    rw [upd, if_neg (fun e => hk.1 e.symm)]
    have := ents_new (k := k) (v := v) (c := c) h.2 hk.2
    simp only [Ents, List.cons_append, List.map_cons, List.cons.injEq]
    exact ⟨h.1, this⟩
theorem modify_born {v : Value} {kv : Value} : ∀ (es : List MapEntry) (n : Nat), (es.modify n fun e => { e with key := kv, val := v }).map (fun e : MapEntry => e.born) = es.map fun e : MapEntry => e.born
  | [], n => by simp
  | e :: es, 0 => by simp
  | e :: es, n + 1 => by rw [List.modify_succ_cons, List.map_cons, List.map_cons, modify_born es n]

variable {K : Act → World → Prop} {kk : List Item} {pos : String} {af : Array Edge} {d : Nat}
theorem sameBits_self {ι : Type} (kx : ι → Value) (h : ∀ a, (∃ n j, kx a = .int j n) ∨ ∃ s, kx a = .string s) (a : ι) : Instr.sameBits 10000 (kx a) (kx a) = true := by
  rcases h a with ⟨n, j, e⟩ | ⟨s, e⟩
  · rw [e]; simp [Instr.sameBits]
  · rw [e]; simp only [Instr.sameBits]; exact (Go.MapKept.bytes_beq s s).2 rfl
theorem s_mapUpdate {t kt et : TypeId} {b : Nat} {m : List (κ × Value)} {k : κ} {u : Value} {z : Operand} (hu : X.P.underlying t = some (.map kt et)) (hk : X.P.underlying kt = some ke.desc) (hsc : ∀ a, (∃ n j, ke.val a = .int j n) ∨ ∃ s, ke.val a = .string s)
    (hx : env.eval x = some (.map (some b))) (hy : env.eval y = some (ke.val k)) (hz : env.eval z = some u) (hp : Pick (MapA ke b m) L L1) (kk' : Kont X env (MapA ke b (upd m k u) :: L1) K) :
    StepK X kk ⟨none, .mapUpdate t x y z, T, pos, af, none⟩ env L K := by
  refine s_skip (γ := Unit) (pu := fun _ => True) (L' := fun _ => MapA ke b (upd m k u) :: L1) ?_ (fun _ _ => kk')
  intro a w O ha hst hdom
  obtain ⟨O1, O2, s, ⟨h1, es, clock, hh, he, hbn, hbc, hnd⟩, hs2⟩ := hp w O hst
  obtain ⟨r, g1, g2, g3, g4⟩ := findNow_of ke (k := k) 0 he
  have hget : (getObj b).run X.P w = .ok (.map es clock) w := by simp [getObj, Sem.run, hh]
  have hfind : (Instr.findKey kt (ke.val k) es.toList).run X.P w = .ok r w := by simp [Instr.findKey, run_underlying hk, g1]
  have hchk : (Instr.checkKey false 10000 kt (ke.val k)).run X.P w = .ok () w := ke.chk X.P w 9999 false kt k hk
  have hset : ∀ o, (setObj b o).run X.P w = .ok () (w.putObj b o) := fun o => by simp [setObj, Sem.run, hh, World.putObj]
  have fin : ∀ (es' : Array MapEntry) (c' : Nat), Ents ke es'.toList (upd m k u) → (es'.toList.map fun e : MapEntry => e.born).Nodup → (∀ e ∈ es'.toList, e.born < c') →
      Stars (MapA ke b (upd m k u) :: L1) (w.putObj b (.map es' c')) O ∧ Rel w O (w.putObj b (.map es' c')) O := by
    intro es' c' e1 e2 e3
    obtain ⟨q1, q2⟩ := obj_put (o := .map es clock) (o' := .map es' c') (L := L1) ⟨O1, O2, s, ⟨h1, hh⟩, hs2⟩ hdom
    refine ⟨?_, q2⟩
    obtain ⟨P1, P2, t', ⟨a1, a2⟩, a3⟩ := q1
    exact ⟨P1, P2, t', ⟨a1, es', c', a2, e1, e2, e3, upd_nodup hnd⟩, a3⟩
  cases r with
  | none =>
    have hnew := ents_new ke (v := u) (c := clock) he (g4 rfl)
    obtain ⟨q1, q2⟩ := fin (es.push { key := ke.val k, val := u, born := clock }) (clock + 1) (by simpa using hnew) (by
      simp only [Array.toList_push, List.map_append, List.map_cons, List.map_nil]
      exact List.nodup_append.2 ⟨hbn, by simp, fun x hx y hy e => by
        rw [List.mem_singleton.1 hy] at e
        obtain ⟨q, hq, hqb⟩ := List.mem_map.1 hx
        have := hbc q hq
        omega⟩) (fun e he' => by
      simp only [Array.toList_push, List.mem_append, List.mem_singleton] at he'
      rcases he' with he' | rfl
      · have := hbc e he'; omega
      · exact Nat.lt_succ_self _)
    refine ⟨(), _, O, ?_, trivial, q1, q2⟩
    have hrun : (Instr.mapUpdate t (.map (some b)) (ke.val k) u).run X.P w = .ok () (w.putObj b (.map (es.push { key := ke.val k, val := u, born := clock }) (clock + 1))) := by
      simp [Instr.mapUpdate, run_underlying hu, hget, hchk, hfind, hset]
    simp [execOp, ha.eval hx, ha.eval hy, ha.eval hz, hrun]
  | some p =>
    obtain ⟨i, v⟩ := p
    obtain ⟨n, hn, hm⟩ := g3 i v rfl
    rw [Nat.zero_add] at hn
    subst hn
    have hold : ((es[i]?).map (fun e : MapEntry => e.key)).getD (ke.val k) = ke.val k := by
      have := congrArg (fun l => l[i]?) he
      simp only [List.getElem?_map, Array.getElem?_toList] at this
      rw [Option.map_eq_some_iff] at hm
      obtain ⟨q, hq, hqk⟩ := hm
      rw [hq] at this
      cases he2 : es[i]? with
      | none => rfl
      | some e2 =>
        rw [he2] at this
        simp only [Option.map_some, Option.some.injEq, Prod.mk.injEq] at this
        simp [this.1, hqk]
    obtain ⟨q1, q2⟩ := fin (es.modify i fun e => { e with key := ke.val k, val := u }) clock (by rw [Array.toList_modify]; exact ents_found ke i he hm hnd) (by rw [Array.toList_modify, modify_born]; exact hbn) (fun e he' => by
      have : e.born ∈ (es.toList.modify i fun e => { e with key := ke.val k, val := u }).map fun e : MapEntry => e.born := List.mem_map.2 ⟨e, by rwa [Array.toList_modify] at he', rfl⟩
      rw [modify_born] at this
      obtain ⟨q, hq, hqb⟩ := List.mem_map.1 this
      have := hbc q hq
      omega)
    refine ⟨(), _, O, ?_, trivial, q1, q2⟩
    have hstay : (Instr.keyThatStays (ke.val k) (ke.val k)).run X.P w = .ok (ke.val k) w := by
      simp [Instr.keyThatStays, sameBits_self ke.val hsc k]
    have hrun : (Instr.mapUpdate t (.map (some b)) (ke.val k) u).run X.P w = .ok () (w.putObj b (.map (es.modify i fun e => { e with key := ke.val k, val := u }) clock)) := by
      simp [Instr.mapUpdate, run_underlying hu, hget, hchk, hfind, hset, hold, hstay]
    simp [execOp, ha.eval hx, ha.eval hy, ha.eval hz, hrun]

omit ke in
def del (m : List (κ × Value)) (k : κ) : List (κ × Value) := m.filter fun p => decide (p.1 ≠ k)
theorem s_makeMap {t : TypeId} (hd : d < X.fn.ntmps) (kk' : ∀ b, Kont X ((d, .map (some b)) :: env) (MapA ke b [] :: L) K) : StepK X kk ⟨some d, .makeMap t none, T, pos, af, none⟩ env L K := by
  refine s_main (γ := Nat) (V := fun b => .map (some b)) (pu := fun _ => True) (L' := fun b => MapA ke b [] :: L) ?_ hd (fun b _ => kk' b)
  intro a w O ha hst hdom
  refine ⟨w.heap.size, w.alloc (.map #[] 0), fresh w O, ?_, trivial, stars_alloc _ hdom hst ⟨by simp, #[], 0, heap_alloc w _, rfl, by simp, by simp, by simp⟩, rel_alloc _ hdom⟩
  simp [execOp, Instr.makeMap]
end
end Go.SL
/- Loops over maps. -/
namespace Go.SL
open Go
section
variable {κ : Type} [DecidableEq κ] (ke : KeyEnc κ)
theorem KeyEnc.inj {a b : κ} (h : ke.val a = ke.val b) : a = b := by
  have h1 := ke.now a b
  rw [← h, ke.now a a] at h1
  simpa using h1.symm
def Seen (es : List MapEntry) (seen : List Nat) (pre : List κ) : Prop := ∃ ps : List MapEntry, (ps.map fun e : MapEntry => e.key) = pre.map ke.val ∧ seen = (ps.map fun e : MapEntry => e.born) ∧ ∀ e ∈ ps, e ∈ es
/-- A map that is being gone through: the keys of pre have come. -/
def MapIt (it b : Nat) (m : List (κ × Value)) (pre : List κ) : A where
  h := fun w O => 2 ≤ O it ∧ 2 ≤ O b ∧ ∃ es clock seen, w.heap[b]? = some (.map es clock) ∧ w.heap[it]? = some (.mapIter (some b) clock seen clock) ∧ Ents ke es.toList m ∧ (es.toList.map fun e : MapEntry => e.born).Nodup ∧ (∀ e ∈ es.toList, e.born < clock) ∧
    (m.map fun p : κ × Value => p.1).Nodup ∧ Seen ke es.toList seen.toList pre
  mono := fun ⟨h1, h2, h3⟩ hO => ⟨Nat.le_trans h1 (hO _), Nat.le_trans h2 (hO _), h3⟩
  loc := fun {w w' O} ⟨h1, h2, es, c, seen, h3, h4, h5⟩ hw => ⟨h1, h2, es, c, seen, (hw b (by omega)).trans h3, (hw it (by omega)).trans h4, h5⟩
variable {X : Cx} {env : Env} {L L1 : List A} {T : TypeId} {x y : Operand} {K : Act → World → Prop} {kk : List Item} {pos : String} {af : Array Edge} {d : Nat}
end
end Go.SL
/- Regions that draw their order, where what is read is written at the end, by one operation that waits for all that read it. -/
namespace Go.SL
open Go

section
variable {P : Program} {ops : Array Oper} {Q : Exit → Act → World → Prop} {md : Region.Mode} {S : World → Prop} {j0 : Nat}
/-- Whatever order is picked; S holds behind each operation, until j0 has been carried out. -/
def wpAnyK (P : Program) (md : Region.Mode) (ops : Array Oper) (Q : Exit → Act → World → Prop) (S : World → Prop) (j0 : Nat) : Nat → Array Bool → Act → World → Prop
  | 0, listed, a, w => Region.ready md ops listed = [] ∧ Q .normal a w
  | fuel + 1, listed, a, w => (Region.ready md ops listed = [] → Q .normal a w) ∧
    ∀ i ∈ Region.ready md ops listed, wpOp P ops Q i (fun a' w' => ((listed.setIfInBounds i true).getD j0 false = true ∨ S w') ∧ wpAnyK P md ops Q S j0 fuel (listed.setIfInBounds i true) a' w') a w
theorem wpAny_of_K : ∀ (fuel : Nat) (listed : Array Bool) (a : Act) (w : World), wpAnyK P md ops Q S j0 fuel listed a w → wpAny P md ops Q fuel listed a w
  | 0, _, _, _, h => h
  | fuel + 1, _, _, _, h => ⟨h.1, fun i hi => wpOp_mono (fun a' w' h' => wpAny_of_K fuel _ a' w' h'.2) (h.2 i hi)⟩
/-- j comes behind i, by one way or another. -/
def waitsB (md : Region.Mode) (ops : Array Oper) : Nat → Nat → Nat → Bool
  | 0, _, _ => false
  | n + 1, j, i => match ops[j]? with
    | none => false
    | some o => o.after.any fun e => Region.binds md e && (Nat.beq e.on i || waitsB md ops n e.on i)
def Closed (md : Region.Mode) (ops : Array Oper) (listed : Array Bool) : Prop := ∀ k ok, ops[k]? = some ok → listed.getD k false = true → ∀ e ∈ ok.after, Region.binds md e = true → listed.getD e.on false = true
theorem waits_un {listed : Array Bool} (hc : Closed md ops listed) : ∀ {n j i : Nat}, waitsB md ops n j i = true → listed.getD i false = false → listed.getD j false = false
  | 0, _, _, h, _ => by simp [waitsB] at h
  | n + 1, j, i, h, hi => by
    unfold waitsB at h
    split at h
    · cases h
    · rename_i o ho
      obtain ⟨e, he, hb⟩ := Array.any_eq_true'.1 h
      simp only [Bool.and_eq_true, Bool.or_eq_true] at hb
      cases hj : listed.getD j false with
      | false => rfl
      | true =>
        have h1 := hc j o ho hj e he hb.1
        rcases hb.2 with h2 | h2
        · rw [Nat.eq_of_beq_eq_true h2, hi] at h1; cases h1
        · rw [waits_un hc h2 hi] at h1; cases h1
theorem closed_set {listed : Array Bool} (hc : Closed md ops listed) {i : Nat} (hi : i ∈ Region.ready md ops listed) : Closed md ops (listed.setIfInBounds i true) := by
  intro k ok hk hl e he hb
  obtain ⟨_, o, ho, hall⟩ := mem_ready.1 hi
  by_cases hki : i = k
  · subst hki
    rw [ho] at hk; cases hk
    exact getD_set_true (hall e he hb)
  · rw [getD_set_ne false hki] at hl
    exact getD_set_true (hc k ok hk hl e he hb)
theorem getD_ft {listed : Array Bool} {i : Nat} (h : listed.getD i true = false) : listed.getD i false = false := by
  rcases Nat.lt_or_ge i listed.size with h' | h'
  · simp [h'] at h ⊢; exact h
  · simp [Array.getElem?_eq_none h'] at h
/-- An operation that only reads, taken first; F: it reads what j0 writes, and j0 waits for it; or it reads nothing. -/
theorem wpAnyK_first {i : Nat} {oi : Oper} {v : Value} {T : World → Prop} (hi : ops[i]? = some oi) (hsel : ∀ (j : Nat) (o : Oper) cs b, ops[j]? = some o → o.op ≠ .select cs b)
    (hQ : ∀ c a w, Q (.panic c) (a.put oi.dst v) w → Q (.panic c) a w) (hij : i ≠ j0) (hT : (T = S ∧ ∃ n, waitsB md ops n j0 i = true) ∨ ∀ w, T w) :
    ∀ (fuel : Nat) (listed : Array Bool) (a : Act) (w : World), Closed md ops listed →
      (∀ j oj, ops[j]? = some oj → j ≠ i → listed.getD j true = false → (∀ e ∈ oj.after, Region.binds md e = true → e.on ≠ i) → oi.apart ops oj = true) →
      i ∈ Region.ready md ops listed → YieldsIf P ops T oi v a → (listed.getD j0 false = true ∨ S w) →
      wpAnyK P md ops Q S j0 fuel (listed.setIfInBounds i true) (a.put oi.dst v) w → wpAnyK P md ops Q S j0 (fuel + 1) listed a w := by
  have hTw : ∀ (listed : Array Bool) (w : World), Closed md ops listed → i ∈ Region.ready md ops listed → (listed.getD j0 false = true ∨ S w) → T w := fun listed w hc hr hS => by
    rcases hT with ⟨rfl, n, hw⟩ | h
    · rcases hS with h | h
      · rw [waits_un hc hw (getD_ft (mem_ready.1 hr).1)] at h; cases h
      · exact h
    · exact h w
  intro fuel
  induction fuel with
  | zero =>
    intro listed a w hc _ hr hy hS H
    refine ⟨fun h => (by rw [h] at hr; cases hr), fun j hj => ?_⟩
    by_cases hji : j = i
    · subst hji
      exact hy.wpOp hi (hTw listed w hc hr hS) ⟨hS.imp (fun h => getD_set_true h) fun h => h, H⟩
    · have := ready_mono hj hji
      rw [H.1] at this
      cases this
  | succ fuel ih =>
    intro listed a w hc hfree hr hy hS H
    refine ⟨fun h => (by rw [h] at hr; cases hr), fun j hj => ?_⟩
    by_cases hji : j = i
    · subst hji; exact hy.wpOp hi (hTw listed w hc hr hS) ⟨hS.imp (fun h => getD_set_true h) fun h => h, H⟩
    · have h1 := H.2 j (ready_mono hj hji)
      obtain ⟨hjun, oj, hoj, hall⟩ := mem_ready.1 hj
      have hnot : ∀ e ∈ oj.after, Region.binds md e = true → e.on ≠ i := fun e he hb heq => by
        have h1 := hall e he hb
        rw [heq, getD_ft (mem_ready.1 hr).1] at h1
        cases h1
      have h2 := wpOp_putIf hoj (hfree j oj hoj hji hjun hnot) (fun cs b => hsel i oi cs b hi) (fun cs b => hsel j oj cs b hoj) hQ hy h1
      have hfree' : ∀ k ok, ops[k]? = some ok → k ≠ i → (listed.setIfInBounds j true).getD k true = false →
          (∀ e ∈ ok.after, Region.binds md e = true → e.on ≠ i) → oi.apart ops ok = true := fun k ok hk hki hun hno => by
        refine hfree k ok hk hki ?_ hno
        by_cases hjk : j = k
        · subst hjk; exact hjun
        · rw [getD_set_ne true hjk] at hun; exact hun
      have hsw : ∀ w', (((listed.setIfInBounds i true).setIfInBounds j true).getD j0 false = true ∨ S w') → ((listed.setIfInBounds j true).getD j0 false = true ∨ S w') := fun w' h => by
        rcases h with h | h
        · rw [Array.setIfInBounds_comm _ _ (Ne.symm hji), getD_set_ne false hij] at h
          exact .inl h
        · exact .inr h
      refine wpOp_mono (fun a' w' h3 => ⟨hsw w' h3.2.1, ih (listed.setIfInBounds j true) a' w' (closed_set hc hj) hfree' (ready_mono hr (Ne.symm hji)) h3.1 (hsw w' h3.2.1) ?_⟩) h2
      rw [Array.setIfInBounds_comm _ _ hji]
      exact h3.2.2
end
theorem closed_none (md : Region.Mode) (ops : Array Oper) (n : Nat) : Closed md ops (Array.replicate n false) := fun k ok _ h => by
  simp [Array.getD_eq_getD_getElem?, Array.getElem?_replicate] at h
  split at h <;> simp at h

/-- A region that draws its order and writes, at j0 what was read before. -/
def AnyG (X : Cx) (ops : Array Oper) (S : List A) (j0 fuel : Nat) (listed : Array Bool) (k : List Item) (env : Env) (L : List A) : Prop :=
  Closed .any ops listed → Kont X env L fun a w => wpAnyK X.P .any ops (Qn X k) (fun w => ∃ O, Stars S w O) j0 fuel listed a w
section
variable {X : Cx} {ops : Array Oper} {kk : List Item} {env : Env} {L L1 S : List A} {j0 fuel : Nat} {listed : Array Bool}
theorem c_heldk {id : Nat} {l : List Oper} (j0 : Nat) (S : List A) (hm : X.P.follows .mixedOrders = true) (h : AnyG X l.toArray S j0 l.length (Array.replicate l.length false) kk env L) (hnd : noDefer l = true := by rfl) : Cfg X (.code (.region id l.toArray true) :: kk) env L := by
  intro a w O ha hs hr
  refine ok_any hm (by simpa using hnd) (wpAny_of_K (S := fun w => ∃ O, Stars S w O) (j0 := j0) _ _ _ _ ?_)
  simpa using h (closed_none _ _ _) a _ O ha (draw_stars hs) (draw_rel hr)
theorem k_take (i : Nat) {v : Value} {d : Nat} {op : Op} {T : TypeId} {pos : String} {af : Array Edge} (hi : ops[i]? = some ⟨some d, op, T, pos, af, none⟩) (hs : Region.noSelect ops = true)
    (hf : Region.free .any ops listed i = true) (hr : (Region.ready .any ops listed).contains i = true) (hij : Nat.beq i j0 = false) (hw : waitsB .any ops ops.size j0 i = true) (hv : Val X env S op T v) (hS : Ent L S) (hd : d < X.fn.ntmps)
    (k : AnyG X ops S j0 fuel (listed.setIfInBounds i true) kk ((d, v) :: env) L) : AnyG X ops S j0 (fuel + 1) listed kk env L := by
  intro hc a w O ha hst hrel
  exact wpAnyK_first (T := fun w => ∃ O, Stars S w O) hi (Region.noSelect_spec hs) (fun _ _ _ h => by cases h.1) (Nat.ne_of_beq_eq_false hij) (.inl ⟨rfl, _, hw⟩) fuel listed a w hc (Region.free_spec hi hf) (by simpa using hr)
    (.inl ⟨rfl, fun w ⟨O, hs'⟩ => hv _ _ _ _ a w O ha hs'⟩) (.inr ⟨O, hS w O hst⟩) (k (closed_set hc (by simpa using hr)) _ w O (ha.put hd v) hst hrel)
/-- The same of an operation that reads nothing. -/
theorem k_takeF (i : Nat) {v : Value} {d : Nat} {op : Op} {T : TypeId} {pos : String} {af : Array Edge} (hi : ops[i]? = some ⟨some d, op, T, pos, af, none⟩) (hs : Region.noSelect ops = true)
    (hf : Region.free .any ops listed i = true) (hr : (Region.ready .any ops listed).contains i = true) (hij : Nat.beq i j0 = false) (hv : Val X env [] op T v) (hS : listed.getD j0 false = true ∨ Ent L S) (hd : d < X.fn.ntmps)
    (k : AnyG X ops S j0 fuel (listed.setIfInBounds i true) kk ((d, v) :: env) L) : AnyG X ops S j0 (fuel + 1) listed kk env L := by
  intro hc a w O ha hst hrel
  exact wpAnyK_first (T := fun _ => True) hi (Region.noSelect_spec hs) (fun _ _ _ h => by cases h.1) (Nat.ne_of_beq_eq_false hij) (.inr fun _ => trivial) fuel listed a w hc (Region.free_spec hi hf) (by simpa using hr)
    (.inl ⟨rfl, fun w _ => hv _ _ _ _ a w (fun _ => 0) ha trivial⟩) (hS.imp id fun h => ⟨O, h w O hst⟩) (k (closed_set hc (by simpa using hr)) _ w O (ha.put hd v) hst hrel)
theorem k_one (i : Nat) {d : Option Nat} {op : Op} {T : TypeId} {pos : String} {af : Array Edge} (hi : ops[i]? = some ⟨d, op, T, pos, af, none⟩) (hr : Region.ready .any ops listed = [i])
    (h : Closed .any ops (listed.setIfInBounds i true) → StepK X kk ⟨d, op, T, pos, af, none⟩ env L fun a w => ((listed.setIfInBounds i true).getD j0 false = true ∨ ∃ O, Stars S w O) ∧ wpAnyK X.P .any ops (Qn X kk) (fun w => ∃ O, Stars S w O) j0 fuel (listed.setIfInBounds i true) a w) : AnyG X ops S j0 (fuel + 1) listed kk env L := by
  intro hc a w O ha hst hrel
  refine ⟨fun h0 => absurd (hr ▸ h0) (by simp), fun j hj => ?_⟩
  obtain rfl : j = i := by rw [hr] at hj; simpa using hj
  simp only [wpOp, hi, Region.wanted, if_true]
  exact .inl (h (closed_set hc (by rw [hr]; simp)) a w O ha hst hrel)
theorem k_on {j0 : Nat} (hc : Closed .any ops listed) (hS : Ent L S) (h : AnyG X ops S j0 fuel listed kk env L) : Kont X env L fun a w => (listed.getD j0 false = true ∨ ∃ O, Stars S w O) ∧ wpAnyK X.P .any ops (Qn X kk) (fun w => ∃ O, Stars S w O) j0 fuel listed a w :=
  fun a w O ha hst hrel => ⟨.inr ⟨O, hS w O hst⟩, h hc a w O ha hst hrel⟩
theorem k_last {j0 : Nat} (hc : Closed .any ops listed) (hS : listed.getD j0 false = true) (h : AnyG X ops S j0 fuel listed kk env L) : Kont X env L fun a w => (listed.getD j0 false = true ∨ ∃ O, Stars S w O) ∧ wpAnyK X.P .any ops (Qn X kk) (fun w => ∃ O, Stars S w O) j0 fuel listed a w :=
  fun a w O ha hst hrel => ⟨.inl hS, h hc a w O ha hst hrel⟩
theorem k_done (hr : Region.ready .any ops listed = []) (h : Cfg X kk env L) (fuel : Nat) : AnyG X ops S j0 fuel listed kk env L := by
  intro _ a w O ha hst hrel
  cases fuel with
  | zero => exact ⟨hr, rfl, h a w O ha hst hrel⟩
  | succ n => exact ⟨fun _ => ⟨rfl, h a w O ha hst hrel⟩, by rw [hr]; simp⟩
end
end Go.SL
/- Structs that are built; stores into rows and blocks; calls that keep all; maps that may be nil; results in cells. -/
namespace Go.SL
open Go

/-! ### values of one cell -/
def OneC (L : List A) (v : Value) : Prop := ∀ w O, Stars L w O → v.oneCell' = true
theorem OneC.lit {L : List A} {v : Value} (h : v.oneCell' = true) : OneC L v := fun _ _ _ => h
theorem OneC.sl {L : List A} {α : Type} {e : Enc α} {v : Value} {zs : List α} (h : Has L (Sl e v zs)) : OneC L v := fun w O hs => by obtain ⟨a, cap, rfl, _⟩ := h w O hs; rfl
def OneAll (L : List A) (vs : List Value) : Prop := ∀ w O, Stars L w O → ∀ v ∈ vs, v.oneCell' = true
theorem OneAll.nil {L : List A} : OneAll L [] := fun _ _ _ _ h => by cases h
theorem OneAll.cons {L : List A} {v : Value} {vs : List Value} (h : OneC L v) (t : OneAll L vs) : OneAll L (v :: vs) := fun w O hs u hu => by
  rcases List.mem_cons.1 hu with rfl | hu
  · exact h w O hs
  · exact t w O hs u hu
theorem cells_one {v : Value} (h : v.oneCell' = true) : v.cells = #[v] := by cases v <;> first | rfl | cases h
/-- What a value's cells are. -/
def CellsV (L : List A) (u : Value) (new : List Value) : Prop := ∀ w O, Stars L w O → u.cells.toList = new
theorem CellsV.lit {L : List A} {u : Value} {new : List Value} (h : u.cells.toList = new) : CellsV L u new := fun _ _ _ => h
theorem CellsV.one {L : List A} {u : Value} (h : OneC L u) : CellsV L u [u] := fun w O hs => by rw [cells_one (h w O hs)]
/-- Cells that are one by one. -/
theorem OneAll.rd {L : List A} {α : Type} {e : Enc α} {cs : List Value} {z : α} (h : Has L (Rd e cs z)) : OneAll L cs := fun w O hs => e.one (h w O hs)

/-! ### structs that are built -/
def fillC (place : Nat → Option (Nat × Nat)) (cells : List Value) : List (Nat × List Value) → Option (List Value)
  | [] => some cells
  | (i, c) :: rest => match place i with
    | none => none
    | some (off, size) => if Nat.beq c.length size && Nat.ble (off + c.length) cells.length then fillC place (cells.take off ++ c ++ cells.drop (off + c.length)) rest else none
theorem fill_of (place : Nat → Option (Nat × Nat)) : ∀ (vs : List (Nat × Value)) (cells : List Value) (out : List Value), fillC place cells (vs.map fun p => (p.1, p.2.cells.toList)) = some out → Instr.fill place cells.toArray vs = some out.toArray
  | [], cells, out, h => by simp [fillC] at h; simp [Instr.fill, h]
  | (i, v) :: rest, cells, out, h => by
    simp only [List.map_cons, fillC] at h
    rw [Instr.fill]
    cases hp : place i with
    | none => rw [hp] at h; cases h
    | some p =>
      obtain ⟨off, size⟩ := p
      rw [hp] at h
      simp only at h
      split at h
      · rename_i hc
        simp only [Bool.and_eq_true, Nat.ble_eq] at hc
        have h1 : v.cells.size = size := by rw [← Nat.eq_of_beq_eq_true hc.1]; simp
        have h2 : off + v.cells.size ≤ cells.length := by simpa using hc.2
        simp only
        rw [if_neg (by simp [h1]; omega)]
        have hf := fold_set off v.cells.toList 0 cells.toArray (by simp; omega)
        have hcon : (v.cells.zipIdx.foldl (fun cs (x : Value × Nat) => cs.setIfInBounds (off + x.2) x.1) cells.toArray) = (cells.take off ++ v.cells.toList ++ cells.drop (off + v.cells.toList.length)).toArray := by
          rw [← Array.foldl_toList]
          simpa using hf
        exact (congrArg (fun q => Instr.fill place q rest) hcon).trans (fill_of place rest _ _ h)
      · cases h
def builtC (P : Program) (t : TypeId) (parts : List (Nat × List Value)) : Option (List Value) :=
  match P.info? t, P.underlying t with
  | some it, some (.array _ e) =>
    match it.zero, P.info? e with
    | some z, some ie => fillC (fun i => some (i * ie.size, ie.size)) z.cells.toList parts
    | _, _ => none
  | some it, some (.struct fields) =>
    match it.zero, fields.toList.mapM (fun f => (P.info? f.type).map fun i => (f.offset, i.size)) with
    | some z, some places => fillC (places.toArray[·]?) z.cells.toList parts
    | _, _ => none
  | _, _ => none
theorem built_of {P : Program} {t : TypeId} {vs : List (Nat × Value)} {out : List Value} (h : builtC P t (vs.map fun p => (p.1, p.2.cells.toList)) = some out) : P.built t vs = some out.toArray := by
  unfold builtC at h
  unfold Program.built
  split at h
  · rename_i it _ e h1 h2
    simp only [h1, h2]
    cases hz : it.zero with
    | none => simp [hz] at h
    | some z =>
      cases he : P.info? e with
      | none => simp [hz, he] at h
      | some ie =>
        simp only [hz, he] at h
        have := fill_of _ vs z.cells.toList out h
        simpa using this
  · rename_i it fields h1 h2
    simp only [h1, h2]
    cases hz : it.zero with
    | none => simp [hz] at h
    | some z =>
      cases he : fields.toList.mapM (fun f => (P.info? f.type).map fun i => (f.offset, i.size)) with
      | none => simp [hz, he] at h
      | some places =>
        simp only [hz, he] at h
        have := fill_of _ vs z.cells.toList out h
        simpa using this
  · cases h
def evalP (env : Env) : List (Nat × Operand) → Option (List (Nat × Value))
  | [] => some []
  | (i, x) :: ps => match env.eval x, evalP env ps with
    | some v, some vs => some ((i, v) :: vs)
    | _, _ => none
theorem evalP_map {X : Cx} {env : Env} {a : Act} (ha : Holds X env a) : ∀ {ps : List (Nat × Operand)} {vs : List (Nat × Value)}, evalP env ps = some vs → ps.map (fun (x : Nat × Operand) => (x.1, a.eval x.2)) = vs
  | [], vs, h => by simp [evalP] at h; simp [h]
  | (i, x) :: ps, vs, h => by
    unfold evalP at h
    split at h
    · rename_i v vs' h1 h2
      cases h
      simp [ha.eval h1, evalP_map ha h2]
    · cases h
def PartsC (L : List A) (vs : List (Nat × Value)) (css : List (Nat × List Value)) : Prop := ∀ w O, Stars L w O → vs.map (fun p => (p.1, p.2.cells.toList)) = css
theorem PartsC.nil {L : List A} : PartsC L [] [] := fun _ _ _ => rfl
theorem PartsC.one {L : List A} {i : Nat} {v : Value} {vs : List (Nat × Value)} {css : List (Nat × List Value)} (h : OneC L v) (t : PartsC L vs css) : PartsC L ((i, v) :: vs) ((i, [v]) :: css) := fun w O hs => by
  rw [List.map_cons, t w O hs, cells_one (h w O hs)]
theorem PartsC.lit {L : List A} {i : Nat} {v : Value} {c : List Value} {vs : List (Nat × Value)} {css : List (Nat × List Value)} (h : v.cells.toList = c) (t : PartsC L vs css) : PartsC L ((i, v) :: vs) ((i, c) :: css) := fun w O hs => by
  rw [List.map_cons, t w O hs, h]

section
variable {K : Act → World → Prop} {X : Cx} {ops : Array Oper} {rest : List Oper} {kk : List Item} {env : Env} {L L1 L2 : List A} {d : Nat} {T : TypeId} {pos : String} {af : Array Edge} {x y : Operand}
variable {α : Type} {e : Enc α} {v u : Value} {zs ys : List α} {E : TypeId}

theorem v_build {t : TypeId} {ps : List (Nat × Operand)} {vs : List (Nat × Value)} {css : List (Nat × List Value)} {cells : List Value} (hp : evalP env ps = some vs) (hc : PartsC L vs css) (hb : builtC X.P t css = some cells) : Val X env L (.build t ps.toArray) T (.agg cells.toArray) :=
  fun _ _ _ _ a w O ha hst => by
    have h1 := evalP_map ha hp
    have hrun := run_build (P := X.P) w t vs.toArray cells.toArray (built_of (by rw [hc w O hst]; exact hb))
    have h2 : (ps.toArray.map fun (x : Nat × Operand) => (x.1, a.eval x.2)) = vs.toArray := by simp [h1]
    have h3 : (Instr.build t (ps.toArray.map fun (x : Nat × Operand) => (x.1, a.eval x.2))).run X.P w = .ok (.agg cells.toArray) w := by rw [h2]; exact hrun
    simp only [execOp]
    have h4 : (Array.map (fun x => match x with | (i, x) => (i, a.eval x)) ps.toArray) = (ps.toArray.map fun (x : Nat × Operand) => (x.1, a.eval x.2)) := by
      congr 1
    rw [h4]
    simp [h1, hrun]
/-! ### stores -/
theorem setRow_rel {w : World} {O : Perm} {g : Nat} {arr : Array Value} (hb : 2 ≤ O g) (hdom : ∀ b, O b ≠ 0 → b < w.heap.size) : Rel w O (w.setRow g arr) O := by
  refine ⟨rfl, rfl, rfl, by simp, fun c _ hlt => setRow_other w g c _ (by intro h; subst h; omega), fun _ _ => Nat.le_refl _, fun c hc => ?_⟩
  have := hdom c hc; simpa using this
/-- A struct (or any cells) is stored into a block of one's own. -/
theorem s_store_cells {t : TypeId} {b off n : Nat} {bt : TypeId} {cs cs' new : List Value} {z : Value} {nb : Nat} (ht : TI X.P t z n nb) (hx : env.eval x = some (.pointer (some ⟨b, off, none⟩))) (hy : env.eval y = some u) (hc : CellsV L u new) (h1 : OneAll L new) (hn : new.length = n)
    (hp : Pick (Blk b bt cs) L L1) (hlt : off + n ≤ cs.length) (hset : cs.take off ++ new ++ cs.drop (off + n) = cs') (k : Kont X env (Blk b bt cs' :: L1) K) : StepK X kk ⟨none, .store t x y, T, pos, af, none⟩ env L K := by
  refine s_skip (γ := Unit) (pu := fun _ => True) (L' := fun _ => Blk b bt cs' :: L1) ?_ (fun _ _ => k)
  intro a w O ha hst hdom
  obtain ⟨O1, O2, s, ⟨hb2, hh⟩, hs2⟩ := hp w O hst
  have hdom1 : ∀ b, O1 b ≠ 0 → b < w.heap.size := fun b hb => hdom b (by have := s.l b; omega)
  have hcl := hc w O hst
  have hrun := run_storeCells_at X.P b off bt new 0 cs.toArray w hh (by simp; omega) (h1 w O hst)
  have harr : (cs.toArray.toList.take (off + 0) ++ new ++ cs.toArray.toList.drop (off + 0 + new.length)).toArray = cs'.toArray := by simp only [Nat.add_zero, hn]; rw [← hset]
  rw [harr] at hrun
  obtain ⟨P, hP, hrel⟩ := step_at hdom s hs2 (setRow_rel (arr := cs'.toArray) hb2 hdom1) (L' := [Blk b bt cs']) ⟨O1, fun _ => 0, ⟨fun _ => Nat.le_refl _, fun _ => Nat.zero_le _, fun _ _ => rfl, fun _ h => by omega⟩, ⟨hb2, setRow_heap w b _ _ bt _ hh⟩, trivial⟩
  refine ⟨(), _, P, ?_, trivial, hP, hrel⟩
  obtain ⟨ti, hi, _, hsz, _⟩ := ht
  have hsize : u.cells.size = n := by rw [← hn, ← hcl]; simp
  simp [execOp, ha.eval hx, ha.eval hy, Instr.storeAt, Instr.sureAddr, storeVar, sizeOf, typeInfo, hi, hsz, hsize, hcl, hrun]

/-- The head of a row of one's own. -/
theorem Own.cut {w : World} {O : Perm} {g cap k0 : Nat} (h : (Own e E (.slice (some ⟨g, 0, none⟩) zs.length cap) zs).h w O) (hk : k0 ≤ zs.length) : (Own e E (.slice (some ⟨g, 0, none⟩) k0 cap) (zs.take k0)).h w O := by
  obtain ⟨P1, P2, cs, t1, g1, g2, g3⟩ := h
  rcases g1.2 with ⟨h, _⟩ | ⟨g', cap', cur, hv, _, hg, hle, hmx, hsz, htk⟩
  · cases h
  · cases hv
    refine ⟨P1, P2, cs.take (k0 * e.n), t1, ⟨?_, .inr ⟨g, cap, cur, ?_, Nat.zero_le _, hg, ?_, hmx, hsz, ?_⟩⟩, fun k hk => g2 k (by simpa [Value.ownBlock] using hk), g3.take k0⟩
    · have := Nat.mul_le_mul_right e.n hk
      rw [List.length_take, g1.1, List.length_take, Nat.min_eq_left this, Nat.min_eq_left hk]
    · simp [Nat.min_eq_left hk]
    · simp; omega
    · have := Nat.mul_le_mul_right e.n hk
      rw [← htk, List.take_take, List.length_take, Nat.min_eq_left hk, Nat.min_eq_left this]

/-! ### calls that keep what is there -/
inductive Reads (L : List A) : List A → Prop
  | nil : Reads L []
  | cons {a : A} {l : List A} (hd : a.Dup) (hh : Has L a) (t : Reads L l) : Reads L (a :: l)
theorem Reads.stars {Lp : List A} (h : Reads L Lp) {w : World} {O : Perm} (hs : Stars L w O) : Stars Lp w fun b => min (O b) 1 := by
  induction h with
  | nil => trivial
  | cons hd hh _ ih =>
    exact ⟨fun b => min (O b) 1, fun b => min (O b) 1, ⟨fun _ => Nat.le_refl _, fun _ => Nat.le_refl _, fun b hb => absurd (Nat.le_trans hb (Nat.min_le_right _ _)) (by omega), fun b hb => absurd (Nat.le_trans hb (Nat.min_le_right _ _)) (by omega)⟩, hd w O (hh w O hs), ih⟩
def A.Sep (a : A) : Prop := ∀ w O, a.h w O → a.h w fun b => if 2 ≤ O b then O b else 0
inductive Seps : List A → Prop
  | nil : Seps []
  | cons {a : A} {l : List A} (h : a.Sep) (t : Seps l) : Seps (a :: l)
theorem Seps.stars {l : List A} (h : Seps l) : ∀ {w : World} {O : Perm}, Stars l w O → Stars l w fun b => if 2 ≤ O b then O b else 0 := by
  induction h with
  | nil => exact fun _ => trivial
  | cons hd _ ih =>
    intro w O ⟨O1, O2, s, h1, h2⟩
    refine ⟨fun b => if 2 ≤ O1 b then O1 b else 0, fun b => if 2 ≤ O2 b then O2 b else 0, ⟨fun b => ?_, fun b => ?_, fun b hb => ?_, fun b hb => ?_⟩, hd w O1 h1, ih h2⟩ <;> try simp only at *
    · have := s.l b; split <;> split <;> omega
    · have := s.r b; split <;> split <;> omega
    · split at hb
      · have := s.lr b hb; simp [this]
      · omega
    · split at hb
      · have := s.rl b hb; simp [this]
      · omega
/-- Behind a call that only reads: what it hands out lies beside all that was there. -/
theorem keep_frame {w w' : World} {O O' : Perm} {l : List A} (hdom : ∀ b, O b ≠ 0 → b < w.heap.size) (hs : Stars L w O) (hr : Rel w (fun b => min (O b) 1) w' O') (hl : Stars l w' O') (hsep : Seps l) :
    ∃ P, Stars (l ++ L) w' P ∧ Rel w O w' P := by
  have hl' := hsep.stars hl
  have hz : ∀ b, b < w.heap.size → ¬ 2 ≤ O' b := fun b hb h => by
    have := hr.perm b hb; have := Nat.min_le_right (O b) 1; omega
  refine ⟨fun b => max (if 2 ≤ O' b then O' b else 0) (O b), Stars.app ⟨fun b => Nat.le_max_left _ _, fun b => Nat.le_max_right _ _, fun b hb => ?_, fun b hb => ?_⟩ hl' (hs.loc fun b hb => hr.old b (hdom b hb) ?_), ⟨hr.os, hr.tape, hr.output, hr.size, fun b hb _ => hr.old b hb ?_, fun b hb => ?_, fun b hb => ?_⟩⟩
  · split at hb
    · rename_i h
      rcases Nat.eq_zero_or_pos (O b) with h0 | h0
      · exact h0
      · exact absurd h (hz b (hdom b (by omega)))
    · omega
  · show (if _ then _ else _) = 0
    rw [if_neg (hz b (hdom b (by omega)))]
  · exact Nat.lt_of_le_of_lt (Nat.min_le_right _ _) (by omega)
  · exact Nat.lt_of_le_of_lt (Nat.min_le_right _ _) (by omega)
  · show max _ _ ≤ _
    rw [if_neg (hz b hb)]; omega
  · have hb' : max (if 2 ≤ O' b then O' b else 0) (O b) ≠ 0 := hb
    by_cases h : 2 ≤ O' b
    · exact hr.dom b (by omega)
    · rw [if_neg h] at hb'
      have := hdom b (by omega); have := hr.size; omega
theorem s_call_keep {γ : Type} {ret : γ → Value} {pu : γ → Prop} {L' : γ → List A} {f : Operand} {g : FuncId} {first cap : List Value} {xs : List Operand} {args vs : List Value} {ts : Array TypeId} {Lp : List A}
    (hc : Callable X.P g) (spec : Con X.P g args Lp ret pu L')
    (hf : env.eval f = some (.func (.func g) first.toArray cap.toArray)) (hx : evalAll env xs = some vs) (hv : args = first ++ vs ++ cap) (hd : d < X.fn.ntmps) (hp : Reads L Lp) (hsep : ∀ g, Seps (L' g))
    (k : ∀ g, pu g → Kont X ((d, ret g) :: env) (L' g ++ L) K) :
    StepK X kk ⟨some d, .call ⟨.value f, xs.toArray, ts⟩, T, pos, af, none⟩ env L K := by
  intro a w O ha hs hr
  have hrun : (execOp a.eval ⟨some d, .call ⟨.value f, xs.toArray, ts⟩, T, pos, af, none⟩).run X.P w = .ok (.enter g args.toArray) w := by
    have h1 := ha.all hx
    have hargs : first.toArray ++ (xs.map a.eval).toArray ++ cap.toArray = args.toArray := by rw [h1, hv]; simp
    simp only [execOp, resolve, ha.eval hf, Deferred.ofValue, pure_bind, invoke, List.map_toArray]
    rw [hargs]
    exact hc _ _
  simp only [Oper.wp, hrun, Oper.upon]
  refine (spec w _ (hp.stars hs) (fun b hb => hr.dom b (by intro h; rw [h] at hb; exact hb rfl))).mono ?_
  rintro e w' ⟨g, O', rfl, hpu, hL, hrel⟩
  obtain ⟨P, hP, hR⟩ := keep_frame hr.dom hs hrel hL (hsep g)
  exact k g hpu _ w' P (ha.put hd _) hP (hr.trans hR)
theorem s_callf_keep {γ : Type} {ret : γ → Value} {pu : γ → Prop} {L' : γ → List A} {g : FuncId} {xs : List Operand} {args : List Value} {ts : Array TypeId} {Lp : List A}
    (hc : Callable X.P g) (spec : Con X.P g args Lp ret pu L') (hx : evalAll env xs = some args) (hd : d < X.fn.ntmps) (hp : Reads L Lp) (hsep : ∀ g, Seps (L' g))
    (k : ∀ g, pu g → Kont X ((d, ret g) :: env) (L' g ++ L) K) :
    StepK X kk ⟨some d, .call ⟨.value (.func g), xs.toArray, ts⟩, T, pos, af, none⟩ env L K :=
  s_call_keep hc spec (first := []) (cap := []) rfl hx (by simp) hd hp hsep k
theorem q_call_keep {γ : Type} {ret : γ → Value} {pu : γ → Prop} {f : Operand} {g : FuncId} {first cap : List Value} {xs : List Operand} {args vs : List Value} {ts : Array TypeId} {Lp : List A} {v : Value}
    (hc : Callable X.P g) (spec : Con X.P g args Lp ret pu fun _ => []) (hf : env.eval f = some (.func (.func g) first.toArray cap.toArray)) (hv : ∀ g, pu g → ret g = v) (hx : evalAll env xs = some vs) (ha : args = first ++ vs ++ cap) (hd : d < X.fn.ntmps) (hp : Reads L Lp)
    (k : Qops X ops rest kk ((d, v) :: env) L) :
    Qops X ops (⟨some d, .call ⟨.value f, xs.toArray, ts⟩, T, pos, af, none⟩ :: rest) kk env L := by
  intro a hac
  simp only [wpQuiet, Region.wanted, if_true]
  refine ⟨v, fun w ⟨O, hs, hr⟩ => ?_, k _ (hac.put hd v)⟩
  have hrun : (execOp a.eval ⟨some d, .call ⟨.value f, xs.toArray, ts⟩, T, pos, af, none⟩).run X.P w = .ok (.enter g args.toArray) w := by
    have h1 := hac.all hx
    have hargs : first.toArray ++ (xs.map a.eval).toArray ++ cap.toArray = args.toArray := by rw [h1, ha]; simp
    simp only [execOp, resolve, hac.eval hf, Deferred.ofValue, pure_bind, invoke, List.map_toArray]
    rw [hargs]
    exact hc _ _
  simp only [Oper.quietAt, hrun, Oper.quietUpon, true_and]
  refine (spec w _ (hp.stars hs) (fun b hb => hr.dom b (by intro h; rw [h] at hb; exact hb rfl))).mono ?_
  rintro e w' ⟨g, O', rfl, hpu, hL, hrel⟩
  obtain ⟨P, hP, hR⟩ := keep_frame (l := []) hr.dom hs hrel hL Seps.nil
  exact ⟨by rw [hv g hpu], P, hP, hr.trans hR⟩
end

/-! ### what may be read, what lies apart -/
theorem Pu.isDup (p : Prop) : (Pu p).Dup := fun _ _ h => h
/-- An encoding that leads nowhere. -/
def Enc.Pure {α : Type} (e : Enc α) : Prop := ∀ w O w' O' cs x, e.rd w O cs x → e.rd w' O' cs x
theorem eInt_pure (k : IntKind) : (eInt k).Pure := fun _ _ _ _ _ _ h => h
theorem eBool_pure : eBool.Pure := fun _ _ _ _ _ _ h => h
theorem eStr_pure : eStr.Pure := fun _ _ _ _ _ _ h => h
theorem eMap_pure {α β : Type} {g : α → β} {e : Enc β} (h : e.Pure) : (eMap g e).Pure := fun _ _ _ _ _ _ k => h _ _ _ _ _ _ k
theorem eByte_pure : eByte.Pure := eMap_pure (eInt_pure _)
theorem ePair_pure {α β : Type} {e : Enc α} {f : Enc β} (h : e.Pure) (k : f.Pure) : (ePair e f).Pure := fun _ _ _ _ _ _ ⟨c1, c2, h0, h1, h2⟩ => ⟨c1, c2, h0, h _ _ _ _ _ _ h1, k _ _ _ _ _ _ h2⟩
/-- A cell, as it is. -/
def eRaw : Enc Value where
  n := 1
  rd := fun _ _ cs x => cs = [x] ∧ x.oneCell' = true
  len := fun h => by rw [h.1]; rfl
  one := fun h u hu => by rw [h.1] at hu; simp at hu; rw [hu]; exact h.2
  mono := fun h _ => h
  loc := fun h _ => h
  dup := fun h => h
theorem eRaw_pure : eRaw.Pure := fun _ _ _ _ _ _ h => h
theorem rows_pure {α : Type} {e : Enc α} (he : e.Pure) {w w' : World} {O O' : Perm} : ∀ {cs : List Value} {xs : List α}, Rows e w O cs xs → Rows e w' O' cs xs
  | _, [], h => h
  | _, _ :: _, ⟨c1, c2, h0, h1, h2⟩ => ⟨c1, c2, h0, he _ _ _ _ _ _ h1, rows_pure he h2⟩
theorem Own.sep {α : Type} {e : Enc α} (he : e.Pure) {T : TypeId} {v : Value} {xs : List α} : (Own e T v xs).Sep := by
  rintro w O ⟨O1, O2, cs, s, h1, h2, h3⟩
  refine ⟨fun b => if 2 ≤ O1 b then O1 b else 0, fun _ => 0, cs, ⟨fun b => ?_, fun _ => Nat.zero_le _, fun _ _ => rfl, fun _ h => by omega⟩, h1, fun k hk => ?_, rows_pure he h3⟩
  · have := s.l b; show (if _ then _ else _) ≤ (if _ then _ else _); split <;> split <;> omega
  · have := h2 k hk; show 2 ≤ (if _ then _ else _); rw [if_pos this]; exact this
theorem Blk.sep {b : Nat} {T : TypeId} {cs : List Value} : (Blk b T cs).Sep := fun w O ⟨h1, h2⟩ => ⟨by show 2 ≤ (if _ then _ else _); rw [if_pos h1]; exact h1, h2⟩
theorem ObjA.sep {b : Nat} {o : Obj} : (ObjA b o).Sep := fun w O ⟨h1, h2⟩ => ⟨by show 2 ≤ (if _ then _ else _); rw [if_pos h1]; exact h1, h2⟩
theorem Pu.sep (p : Prop) : (Pu p).Sep := fun _ _ h => h
theorem MapA.sep {κ : Type} [DecidableEq κ] {ke : KeyEnc κ} {b : Nat} {m : List (κ × Value)} : (MapA ke b m).Sep := fun w O ⟨h1, h2⟩ => ⟨by show 2 ≤ (if _ then _ else _); rw [if_pos h1]; exact h1, h2⟩
theorem ExA.sep {γ : Type} {f : γ → A} (h : ∀ g, (f g).Sep) : (ExA f).Sep := fun w O ⟨g, k⟩ => ⟨g, h g w O k⟩
theorem AllA.sep {l : List A} (h : Seps l) : (AllA l).Sep := fun w O k => h.stars k

/-! ### maps that may be nil -/
section
variable {κ : Type} [DecidableEq κ] (ke : KeyEnc κ)
def MapO (o : Option Nat) (m : List (κ × Value)) : A := match o with
  | none => Pu (m = [])
  | some b => MapA ke b m
variable {K : Act → World → Prop} {X : Cx} {kk : List Item} {env : Env} {L L1 : List A} {d : Nat} {T : TypeId} {pos : String} {af : Array Edge} {x y : Operand}
/-- v, is := m[k] -/
theorem v_lookupO2 {t kt et : TypeId} {o : Option Nat} {m : List (κ × Value)} {k : κ} {z : Value} {n nb : Nat} (hu : X.P.underlying t = some (.map kt et)) (hk : X.P.underlying kt = some ke.desc) (hz : TI X.P et z n nb)
    (hx : env.eval x = some (.map o)) (hy : env.eval y = some (ke.val k)) (hm : Has L (MapO ke o m)) : Val X env L (.lookup t x y true) T (.tuple #[(look m k).getD z, .bool (look m k).isSome]) := by
  intro _ _ _ _ a w O ha hs
  obtain ⟨ti, hi, hz0, _⟩ := hz
  have hzero : (zeroValue et).run X.P w = .ok z w := by simp [zeroValue, typeInfo, hi, hz0]
  cases o with
  | none =>
    have h0 : m = [] := hm w O hs
    subst h0
    have hchk : (Instr.checkKey true 10000 kt (ke.val k)).run X.P w = .ok () w := ke.chk X.P w 9999 true kt k hk
    have hfind : (Instr.findKey kt (ke.val k) []).run X.P w = .ok none w := by simp [Instr.findKey, run_underlying hk, Instr.findNow]
    have hl : (Instr.lookup t (.map none) (ke.val k) true).run X.P w = .ok (.tuple #[z, .bool false]) w := by
      simp [Instr.lookup, run_underlying hu, hzero, hchk, hfind]
    simp [execOp, ha.eval hx, ha.eval hy, hl, look_nil]
  | some b =>
    obtain ⟨_, es, clock, hh, he, _⟩ := (show (MapA ke b m).h w O from hm w O hs)
    obtain ⟨r, g1, g2, _⟩ := findNow_of ke (k := k) 0 he
    have hget : (getObj b).run X.P w = .ok (.map es clock) w := by simp [getObj, Sem.run, hh]
    have hfind : (Instr.findKey kt (ke.val k) es.toList).run X.P w = .ok r w := by simp [Instr.findKey, run_underlying hk, g1]
    have hchk : (Instr.checkKey es.isEmpty 10000 kt (ke.val k)).run X.P w = .ok () w := ke.chk X.P w 9999 es.isEmpty kt k hk
    have hl : (Instr.lookup t (.map (some b)) (ke.val k) true).run X.P w = .ok (.tuple #[(look m k).getD z, .bool (look m k).isSome]) w := by
      cases r with
      | none => simp [Instr.lookup, run_underlying hu, hget, hchk, hfind, ← g2, hzero]
      | some p => obtain ⟨i, v⟩ := p; simp [Instr.lookup, run_underlying hu, hget, hchk, hfind, ← g2]
    simp [execOp, ha.eval hx, ha.eval hy, hl]
/-- A map that may be nil and is being gone through. -/
def MapItO (it : Nat) (o : Option Nat) (m : List (κ × Value)) (pre : List κ) : A := match o with
  | none => AllA [ObjA it (.mapIter none 0 #[] 0), Pu (m = [] ∧ pre = [])]
  | some b => AllA [Pu (it ≠ b), MapIt ke it b m pre]
theorem mapItO_some {it b : Nat} {m : List (κ × Value)} {pre : List κ} {w : World} {O : Perm} (h : (MapItO ke it (some b) m pre).h w O) : it ≠ b ∧ (MapIt ke it b m pre).h w O := by
  obtain ⟨O1, O2, s, h1, P1, P2, t, h2, _⟩ := h
  exact ⟨h1, (MapIt ke it b m pre).mono h2 fun c => Nat.le_trans (t.l c) (s.r c)⟩
theorem Pick.map_itO {it : Nat} {o : Option Nat} {m : List (κ × Value)} {pre : List κ} {L : List A} : Pick (MapO ke o m) (MapItO ke it o m pre :: L) L :=
  Pick.of Pick.here fun w O h => by
    cases o with
    | some b =>
      obtain ⟨_, h2⟩ := mapItO_some ke h
      obtain ⟨_, h2, es, clock, _, h3, _, h4, h5, h6, h7, _⟩ := h2
      exact ⟨h2, es, clock, h3, h4, h5, h6, h7⟩
    | none =>
      obtain ⟨P1, P2, t, _, Q1, Q2, t2, ⟨h3, _⟩, _⟩ := h
      exact h3
end

/-! ### results in cells -/
theorem results_cell {fn : Func} {t : Nat} {ty : TypeId} {tmps : Array Value} {P : Program} {w : World} {v : Value} {p : Addr} (h : fn.results = #[.cell t ty]) (hv : tmps[t]? = some (.pointer (some p))) (hl : (loadVar ty p).run P w = .ok v w) : (results fn tmps).run P w = .ok v w := by
  have h1 : tmps[t]?.getD undef = .pointer (some p) := by rw [hv]; rfl
  simp [results, h, asAddr, hl, h1]
theorem c_ret_cell {X : Cx} {k : List Item} {env : Env} {L : List A} {t b : Nat} {ty bt : TypeId} {cs : List Value} {z : Value} {nb : Nat} (hf : X.P.funcs[X.f]? = some X.fn) (h : X.fn.results = #[.cell t ty]) (hu : ∃ fs, X.P.underlying ty = some (.struct fs)) (ht : TI X.P ty z cs.length nb)
    (hv : env.look t = some (.pointer (some ⟨b, 0, none⟩))) (hb : Has L (BlkR b bt cs)) (fin : ∀ w O, Stars L w O → X.R (.agg cs.toArray) w O) (hrd : X.rd = none := by rfl) (hdf : X.defs = [] := by rfl) : Cfg X (.code .ret :: k) env L :=
  c_ret_any (fun a w O ha hs _ => by
    obtain ⟨_, fz, hh⟩ := hb w O hs
    obtain ⟨ti, hi, _, hsz, _⟩ := ht
    exact ⟨_, results_cell h (ha.look t _ hv) (run_loadAgg hu hi hsz fun j u hj => by rw [add_off, blk_cell hh]; simpa using hj), fin w O hs⟩) hf hrd hdf fun _ _ _ _ _ hb => steps_ret hb
end Go.SL
namespace Go.SL
open Go
theorem Beside.rd {α : Type} {e : Enc α} {cs : List Value} {z : α} {L : List A} (h : ∀ w O, e.rd w O cs z) : Beside (Rd e cs z) L := Beside.pure fun w => h w _
/-! ### encodings of known cells -/
def PEnc {α : Type} (e : Enc α) (f : α → List Value) : Prop := ∀ w O cs x, e.rd w O cs x → cs = f x
theorem PEnc.int (k : IntKind) : PEnc (eInt k) fun x => [.int k x] := fun _ _ _ _ h => h
theorem PEnc.bool : PEnc eBool fun x => [.bool x] := fun _ _ _ _ h => h
theorem PEnc.str : PEnc eStr fun x => [.string x] := fun _ _ _ _ h => h
theorem PEnc.raw : PEnc eRaw fun x => [x] := fun _ _ _ _ h => h.1
theorem PEnc.map {α β : Type} {g : α → β} {e : Enc β} {f : β → List Value} (h : PEnc e f) : PEnc (eMap g e) fun x => f (g x) := fun _ _ _ _ k => h _ _ _ _ k
theorem kInt_sc : ∀ a : Int, (∃ n j, kInt.val a = .int j n) ∨ ∃ s, kInt.val a = .string s := fun a => .inl ⟨a, .i64, rfl⟩
section
variable {K : Act → World → Prop} {X : Cx} {kk : List Item} {env : Env} {L L1 : List A} {d : Nat} {T : TypeId} {pos : String} {af : Array Edge} {x y : Operand} {α : Type} {e : Enc α} {v u : Value} {zs : List α} {E : TypeId}
/-- A struct in a block of its own is read. -/
theorem v_load_all {t : TypeId} {b n : Nat} {bt : TypeId} {cs : List Value} {z0 : Value} {nb : Nat} (ht : ∃ fs, X.P.underlying t = some (.struct fs)) (hE : TI X.P t z0 n nb) (hx : env.eval x = some (.pointer (some ⟨b, 0, none⟩)))
    (hb : Has L (BlkR b bt cs)) (hn : cs.length = n) : Val X env L (.load t x) T (.agg cs.toArray) := by
  have := v_load_blk_agg (X := X) (env := env) (L := L) (T := T) (off := 0) ht hE hx hb (by omega)
  rw [List.drop_zero, List.take_of_length_le (by omega)] at this
  exact this
/-- A struct in a block of its own is written. -/
theorem s_store_all {t : TypeId} {b n : Nat} {bt : TypeId} {cs new : List Value} {z : Value} {nb : Nat} (ht : TI X.P t z n nb) (hx : env.eval x = some (.pointer (some ⟨b, 0, none⟩))) (hy : env.eval y = some u) (hc : CellsV L u new) (h1 : OneAll L new) (hn : new.length = n)
    (hp : Pick (Blk b bt cs) L L1) (hl : cs.length = n) (k : Kont X env (Blk b bt new :: L1) K) : StepK X kk ⟨none, .store t x y, T, pos, af, none⟩ env L K :=
  s_store_cells ht hx hy hc h1 hn hp (by omega) (by rw [List.take_zero, List.nil_append, List.drop_of_length_le (by omega), List.append_nil]) k
/-- A cell of a block is written. -/
theorem s_store1 {t : TypeId} {b off : Nat} {bt : TypeId} {cs cs' : List Value} {z : Value} {nb : Nat} (ht : TI X.P t z 1 nb) (hx : env.eval x = some (.pointer (some ⟨b, off, none⟩))) (hy : env.eval y = some u) (h1 : OneC L u)
    (hp : Pick (Blk b bt cs) L L1) (hlt : off < cs.length) (hset : cs.set off u = cs') (k : Kont X env (Blk b bt cs' :: L1) K) : StepK X kk ⟨none, .store t x y, T, pos, af, none⟩ env L K := by
  intro a w O ha hst hrel
  exact s_store ht hx hy (h1 w O hst) hp hlt hset k a w O ha hst hrel
theorem v_buildS {t : TypeId} {fs : Array Field} {ps : List (Nat × Operand)} {vs : List (Nat × Value)} {css : List (Nat × List Value)} {cells : List Value} {places : List (Nat × Nat)} {z : Value} {n nb : Nat} (hu : X.P.underlying t = some (.struct fs)) (hz : TI X.P t z n nb)
    (hpl : fs.toList.mapM (fun f => (X.P.info? f.type).map fun i => (f.offset, i.size)) = some places) (hp : evalP env ps = some vs) (hc : PartsC L vs css) (hb : fillC (places.toArray[·]?) z.cells.toList css = some cells) : Val X env L (.build t ps.toArray) T (.agg cells.toArray) := by
  refine v_build hp hc ?_
  obtain ⟨i, hi, hz0, _⟩ := hz
  unfold builtC
  rw [hi, hu]
  simp only [hz0, hpl]
  exact hb
end
end Go.SL
namespace Go.SL
open Go
/-! ### fields of elements -/
/-- Cell j of what reads as x is g x. -/
def FldS {α : Type} (e : Enc α) (j : Nat) (g : α → Value) : Prop := ∀ w O cs x, e.rd w O cs x → cs[j]? = some (g x)
theorem FldS.int (k : IntKind) : FldS (eInt k) 0 (.int k) := fun _ _ _ _ h => by rw [show _ = _ from h]; rfl
theorem FldS.bool : FldS eBool 0 .bool := fun _ _ _ _ h => by rw [show _ = _ from h]; rfl
theorem FldS.str : FldS eStr 0 .string := fun _ _ _ _ h => by rw [show _ = _ from h]; rfl
theorem FldS.raw : FldS eRaw 0 fun x => x := fun _ _ _ _ h => by rw [h.1]; rfl
theorem FldS.map {α β : Type} {f : α → β} {e : Enc β} {j : Nat} {g : β → Value} (h : FldS e j g) : FldS (eMap f e) j fun x => g (f x) := fun _ _ _ _ k => h _ _ _ _ k
theorem FldS.fst {α β : Type} {e : Enc α} {f : Enc β} {j : Nat} {g : α → Value} (h : FldS e j g) : FldS (ePair e f) j fun x => g x.1 := fun w O cs x ⟨c1, c2, h0, h1, h2⟩ => by
  have := h w O c1 x.1 h1
  rw [h0, List.getElem?_append_left (cell_in this), this]
theorem FldS.snd {α β : Type} {e : Enc α} {f : Enc β} {j k : Nat} {g : β → Value} (hj : k = e.n + j) (h : FldS f j g) : FldS (ePair e f) k fun x => g x.2 := fun w O cs x ⟨c1, c2, h0, h1, h2⟩ => by
  have := h w O c2 x.2 h2
  rw [hj, h0, ← e.len h1, List.getElem?_append_right (by omega), Nat.add_sub_cancel_left, this]
/-- Cell j of what reads as x is a slice that reads as g x. -/
def FldL {α β : Type} (e : Enc α) (j : Nat) (e' : Enc β) (g : α → List β) : Prop := ∀ w O cs x, e.rd w O cs x → ∃ v, cs[j]? = some v ∧ SlP e' w O v (g x)
theorem FldL.sl {β : Type} {e' : Enc β} : FldL (eSl e') 0 e' fun x => x := fun _ _ _ _ ⟨v, h, h1⟩ => ⟨v, by rw [h]; rfl, h1⟩
theorem FldL.map {α β γ : Type} {f : α → β} {e : Enc β} {e' : Enc γ} {j : Nat} {g : β → List γ} (h : FldL e j e' g) : FldL (eMap f e) j e' fun x => g (f x) := fun _ _ _ _ k => h _ _ _ _ k
theorem FldL.fst {α β γ : Type} {e : Enc α} {f : Enc β} {e' : Enc γ} {j : Nat} {g : α → List γ} (h : FldL e j e' g) : FldL (ePair e f) j e' fun x => g x.1 := fun w O cs x ⟨c1, c2, h0, h1, h2⟩ => by
  obtain ⟨v, hv, hs⟩ := h w O c1 x.1 h1
  exact ⟨v, by rw [h0, List.getElem?_append_left (cell_in hv), hv], hs⟩
theorem FldL.snd {α β γ : Type} {e : Enc α} {f : Enc β} {e' : Enc γ} {j k : Nat} {g : β → List γ} (hj : k = e.n + j) (h : FldL f j e' g) : FldL (ePair e f) k e' fun x => g x.2 := fun w O cs x ⟨c1, c2, h0, h1, h2⟩ => by
  obtain ⟨v, hv, hs⟩ := h w O c2 x.2 h2
  exact ⟨v, by rw [hj, h0, ← e.len h1, List.getElem?_append_right (by omega), Nat.add_sub_cancel_left, hv], hs⟩
section
variable {K : Act → World → Prop} {X : Cx} {ops : Array Oper} {rest : List Oper} {k kk : List Item} {env : Env} {L L1 : List A} {d : Nat} {T : TypeId} {pos : String} {af : Array Edge} {x y : Operand} {α β : Type} {e : Enc α} {e' : Enc β} {v u : Value} {zs : List α} {E : TypeId}
theorem elem_add (v : Value) (i n off : Nat) : (elemAddr v i n).add off = ⟨(elemAddr v i n).block, (elemAddr v i n).off + off, none⟩ := by
  have hsp : (elemAddr v i n).spot = none := by unfold elemAddr; split <;> rfl
  unfold Addr.add
  split
  · rename_i h0
    subst h0
    cases hh : elemAddr v i n
    rw [hh] at hsp; simp only at hsp; rw [hsp]; simp
  · rfl
theorem v_load_fld {i off : Nat} {z : α} {t : TypeId} {g : α → Value} (ht : Lone X.P t) (hx : env.eval x = some (.pointer (some ((elemAddr v i e.n).add off)))) (he : Elem L e v i z) (hf : FldS e off g) : Val X env L (.load t x) T (g z) := by
  intro _ _ _ _ a w O ha hst
  obtain ⟨c, hs, _, hc⟩ := he w O hst
  obtain ⟨O1, O2, s, h, _⟩ := hs
  have hcell := hc off _ (hf _ _ _ _ h)
  rw [elem_add] at hx
  simp [execOp, ha.eval hx, Instr.loadAt, Instr.sureAddr, run_loadLone ht hcell]
/-- A field of an element that is a slice. -/
theorem s_load_fldl {i off : Nat} {z : α} {t : TypeId} {g : α → List β} (ht : Lone X.P t) (hx : env.eval x = some (.pointer (some ((elemAddr v i e.n).add off)))) (hd : d < X.fn.ntmps) (he : Elem L e v i z) (hf : FldL e off e' g)
    (k : ∀ u, Kont X ((d, u) :: env) (Sl e' u (g z) :: L) K) : StepK X kk ⟨some d, .load t x, T, pos, af, none⟩ env L K := by
  refine s_main (γ := Value) (V := fun u => u) (pu := fun _ => True) (L' := fun u => Sl e' u (g z) :: L) ?_ hd (fun u _ => k u)
  intro a w O ha hst hdom
  obtain ⟨c, hs, _, hc⟩ := he w O hst
  obtain ⟨O1, O2, s, h, h2⟩ := hs
  obtain ⟨u, hu, hsl⟩ := hf _ _ _ _ h
  have hcell := hc off u hu
  rw [elem_add] at hx
  exact ⟨u, w, O, by simp [execOp, ha.eval hx, Instr.loadAt, Instr.sureAddr, run_loadLone ht hcell], trivial, ⟨O1, O2, s, hsl, h2⟩, Rel.refl hdom⟩
/-- A cell that may be read. -/
def FldCell (p : Addr) (u : Value) : A where
  h := fun w O => 1 ≤ O p.block ∧ w.cell? p = some u
  mono := fun ⟨h1, h2⟩ hO => ⟨Nat.le_trans h1 (hO _), h2⟩
  loc := fun {w w' O} ⟨h1, h2⟩ hw => ⟨h1, by
    have := hw p.block (by omega)
    obtain ⟨b, off, sp⟩ := p
    simp only [World.cell?] at h2 ⊢
    simp only at this
    rw [this]; exact h2⟩
theorem FldCell.isDup (p : Addr) (u : Value) : (FldCell p u).Dup := fun _ _ ⟨h1, h2⟩ => ⟨by show 1 ≤ min _ 1; omega, h2⟩
theorem open_fldl {i off : Nat} {z : α} {g : α → List β} (hp : Pick (Sl e v zs) L L1) (hf : FldL e off e' g) (hz : zs[i]? = some z) : Ent L ((ExA fun u => AllA [FldCell ((elemAddr v i e.n).add off) u, Sl e' u (g z)]) :: Sl e v zs :: L1) := by
  intro w O hs
  obtain ⟨O1, O2, s, h1, h2⟩ := hp w O hs
  have hd := SlP.dup h1
  obtain ⟨c, hc, hb, hcell⟩ := SlP.elem hd hz
  obtain ⟨u, hu, hsl⟩ := hf _ _ _ _ hc
  refine Lend.pick (L' := L1) Pick.here (b := ExA fun u => AllA [FldCell ((elemAddr v i e.n).add off) u, Sl e' u (g z)]) (fun w0 O0 h0 => ?_) w O ⟨O1, O2, s, h1, h2⟩
  have hd := SlP.dup h0
  obtain ⟨c, hc, hb, hcell⟩ := SlP.elem hd hz
  obtain ⟨u, hu, hsl⟩ := hf _ _ _ _ hc
  have nn : ∀ b, ¬ 2 ≤ min (O0 b) 1 := fun b h => by have := Nat.min_le_right (O0 b) 1; omega
  refine ⟨fun b => min (O0 b) 1, fun b => min (O0 b) 1, ⟨fun b => Nat.min_le_left _ _, fun b => Nat.min_le_left _ _, fun b h => absurd h (nn b), fun b h => absurd h (nn b)⟩, hd, ⟨u, fun b => min (O0 b) 1, fun b => min (O0 b) 1, ⟨fun _ => Nat.le_refl _, fun _ => Nat.le_refl _, fun b h => absurd h (nn b), fun b h => absurd h (nn b)⟩, ?_, fun b => min (O0 b) 1, fun _ => 0, ⟨fun _ => Nat.le_refl _, fun _ => Nat.zero_le _, fun _ _ => rfl, fun _ h => by omega⟩, hsl, trivial⟩, fun b => Nat.min_le_right _ _⟩
  rw [elem_add]
  exact ⟨hb, hcell off u hu⟩
theorem c_open_fldl {i off : Nat} {z : α} {g : α → List β} (hp : Pick (Sl e v zs) L L1) (hz : zs[i]? = some z) (hf : FldL e off e' g) (h : ∀ u, Cfg X k env (FldCell ((elemAddr v i e.n).add off) u :: Sl e' u (g z) :: Sl e v zs :: L1)) : Cfg X k env L := by
  refine c_ent (open_fldl hp hf hz) (c_ex fun u => c_ent ?_ (h u))
  intro w O hs
  exact stars_join hs
theorem v_load_cell {t : TypeId} {p : Addr} (ht : Lone X.P t) (hx : env.eval x = some (.pointer (some p))) (hh : Has L (FldCell p u)) : Val X env L (.load t x) T u := by
  intro _ _ _ _ a w O ha hst
  simp [execOp, ha.eval hx, Instr.loadAt, Instr.sureAddr, run_loadLone ht (hh w O hst).2]

/-- An element whose cells have a known shape. -/
theorem s_load_shape {i : Nat} {z : α} {t : TypeId} {z0 : Value} {bt : Nat} {γ : Type} {cf : γ → List Value} {Lf : γ → List A} (ht : ∃ fs, X.P.underlying t = some (.struct fs)) (hE : TI X.P t z0 e.n bt) (hx : env.eval x = some (.pointer (some (elemAddr v i e.n)))) (hd : d < X.fn.ntmps)
    (he : Elem L e v i z) (ho : ∀ w O c, e.rd w O c z → ∃ g, c = cf g ∧ Stars (Lf g) w O) (k : ∀ g, Kont X ((d, .agg (cf g).toArray) :: env) (Lf g ++ L) K) : StepK X kk ⟨some d, .load t x, T, pos, af, none⟩ env L K := by
  refine s_main (γ := γ) (V := fun g => .agg (cf g).toArray) (pu := fun _ => True) (L' := fun g => Lf g ++ L) ?_ hd (fun u _ => k u)
  intro a w O ha hst hdom
  obtain ⟨c, hs, _, hc⟩ := he w O hst
  obtain ⟨O1, O2, s, h, h2⟩ := hs
  have hl : c.length = e.n := e.len h
  obtain ⟨g, rfl, hg⟩ := ho _ _ _ h
  obtain ⟨ti, hi, _, hsz, _⟩ := hE
  have hca : CellsAt w (elemAddr v i e.n) (cf g) := fun j u hj => by
    have := hc j u hj
    rw [elem_add]
    exact this
  have := run_loadAgg ht hi (by rw [hsz, hl]) hca
  exact ⟨g, w, O, by simp [execOp, ha.eval hx, Instr.loadAt, Instr.sureAddr, this], trivial, Stars.app s hg h2, Rel.refl hdom⟩
theorem beside_of {Lp : List A} {cs : List Value} {z : α} (hp : Picks Lp L L) (h : ∀ w O, Stars Lp w O → e.rd w O cs z) : Beside (Rd e cs z) L := fun w O hs => by
  obtain ⟨O1, O2, s, h1, h2⟩ := hp.split w O hs
  exact ⟨O1, O2, s, h w O1 h1, h2⟩
theorem beside_agg1 {cs : List Value} {z : α} (h : Beside (Rd e cs z) L) : Beside (RowsA e [.agg cs.toArray] [z]) L := fun w O hs => by
  obtain ⟨O1, O2, s, h1, h2⟩ := h w O hs
  have h1' : e.rd w O1 cs z := h1
  refine ⟨O1, O2, s, ⟨⟨cs, [], by simp [Value.cells], h1', rfl⟩, fun v hv => ?_⟩, h2⟩
  rw [List.mem_singleton.1 hv]
  simpa [Value.cells] using e.len h1'

theorem v_fieldAddrC {t ft : TypeId} {fs : Array Field} {i : Nat} {p : Addr} {z : Value} {n bt : Nat} (off : Nat) (hu : X.P.underlying t = some (.struct fs)) (hf : (fs[i]?).map (fun f => (f.offset, f.type)) = some (off, ft)) (ht : TI X.P ft z n bt) (hn : n ≠ 0)
    (hx : env.eval x = some (.pointer (some p))) : Val X env L (.fieldAddr t x i) T (.pointer (some (p.add off))) := by
  cases hfi : fs[i]? with
  | none => rw [hfi] at hf; cases hf
  | some f =>
    rw [hfi] at hf
    simp only [Option.map_some, Option.some.injEq, Prod.mk.injEq] at hf
    rw [← hf.1]
    exact v_fieldAddr hu hfi (by rw [hf.2]; exact ht) hn hx

/-- A guard that was itself passed over. -/
theorem o_offu {j s : Nat} {want : Bool} {d : Nat} {op : Op} {af : Array Edge} (hj : (ops[j]?).bind (·.dst) = some s) (ht : env.look s = some undef) (hd : d < X.fn.ntmps)
    (h : Ops X ops rest kk ((d, undef) :: env) L) : Ops X ops (⟨some d, op, T, pos, af, some (j, want)⟩ :: rest) kk env L := by
  intro a w O ha hs hr
  have hy1 : yielded ops a.tmps j = none := by simp [yielded, hj, ha.look s _ ht, undef]
  have hw : ((none : Option Bool) == some want) = false := rfl
  simp only [wpl, Region.wanted, hy1, hw, Bool.false_eq_true, if_false]
  exact h _ w O (ha.put hd _) hs hr
theorem Con.post {P : Program} {f : FuncId} {args : List Value} {L : List A} {γ : Type} {ret : γ → Value} {pu : γ → Prop} {L' L'' : γ → List A} (h : Con P f args L ret pu L') (he : ∀ g, Ent (L' g) (L'' g)) : Con P f args L ret pu L'' := fun w O hs hd =>
  (h w O hs hd).mono fun _ _ ⟨g, O', h1, h2, h3, h4⟩ => ⟨g, O', h1, h2, he g _ _ h3, h4⟩
theorem Pick.of_ent {a : A} {az L' : List A} (h : Ent az [a]) (hp : Picks az L L') : Pick a L L' := fun w O hs => by
  obtain ⟨O1, O2, s, h1, h2⟩ := hp.split w O hs
  obtain ⟨P1, P2, t, g1, _⟩ := h w O1 h1
  exact ⟨O1, O2, s, a.mono g1 t.l, h2⟩
theorem c_mk {a : A} {az L' : List A} (h : Ent az [a]) (hp : Picks az L L') (hc : Cfg X k env (a :: L')) : Cfg X k env L := c_ent (Pick.of_ent h hp).ent hc
theorem o_mk {a : A} {az L' : List A} (h : Ent az [a]) (hp : Picks az L L') (hc : Ops X ops rest kk env (a :: L')) : Ops X ops rest kk env L := o_ent (Pick.of_ent h hp).ent hc
/-! ### ways that meet again -/
theorem c_joinb {i : Item} {d : Nat} (b : Bool) (hk : Cfg X k ((d, .bool b) :: env) L) (h : Cfg X k ((d, .bool b) :: env) L → Cfg X (i :: k) env L) : Cfg X (i :: k) env L := h hk
/-- Where ways meet again: V tells the slots that turn. -/
theorem c_joinR {γ : Type} {i : Item} (rest : Env) (J : γ → Prop) (V : γ → Env) (LL : γ → List A) (hE : Env.Le rest env) (hj : ∀ g, J g → Cfg X k (V g ++ rest) (LL g)) (h : (∀ g, J g → Cfg X k (V g ++ rest) (LL g)) → Cfg X (i :: k) env L) : Cfg X (i :: k) env L := h hj
theorem c_loopR {c : Code} {γ : Type} (rest : Env) (μ : γ → Nat) (J : γ → Prop) (V : γ → Env) (LL : γ → List A) (g : γ) (hJ : J g) (hE : Env.Le (V g ++ rest) env) (hL : Ent L (LL g))
    (round : ∀ g, J g → (∀ g', μ g' < μ g → J g' → Cfg X (.inLoop c :: k) (V g' ++ rest) (LL g')) → Cfg X (.code c :: .inLoop c :: k) (V g ++ rest) (LL g)) : Cfg X (.code (.loop c) :: k) env L :=
  c_loop μ J (fun g => V g ++ rest) LL g hJ hE hL round
theorem c_loopQ {c : Code} {γ : Type} (rest : Env) (μ : γ → Nat) (J : γ → Prop) (V : γ → Env) (g : γ) (hJ : J g) (hE : Env.Le (V g ++ rest) env)
    (round : ∀ g, J g → (∀ g', μ g' < μ g → J g' → Cfg X (.inLoop c :: k) (V g' ++ rest) L) → Cfg X (.code c :: .inLoop c :: k) (V g ++ rest) L) : Cfg X (.code (.loop c) :: k) env L :=
  c_loop μ J (fun g => V g ++ rest) (fun _ => L) g hJ hE (Ent.refl _) round
end
end Go.SL
/- Regions that draw their order and write: guards. -/
namespace Go.SL
open Go
section
variable {X : Cx} {ops : Array Oper} {kk : List Item} {env : Env} {L L1 S : List A} {fuel : Nat} {listed : Array Bool}
theorem a_know {s : Nat} {v v' : Value} (ht : env.look s = some v) (e : v = v') (k : Any X ops S fuel listed kk ((s, v') :: env) L) : Any X ops S fuel listed kk env L := by
  intro a w O ha hst hrel
  subst e
  exact k a w O ⟨ha.size, ha.defers, fun u v hu => by
    rcases Env.look_cons hu with ⟨rfl, rfl⟩ | ⟨_, hu⟩
    · exact ha.look _ _ ht
    · exact ha.look _ _ hu⟩ hst hrel
theorem a_take_on (i : Nat) {j s : Nat} {want : Bool} {v : Value} {d : Nat} {op : Op} {T : TypeId} {pos : String} {af : Array Edge} (hi : ops[i]? = some ⟨some d, op, T, pos, af, some (j, want)⟩)
    (hj : (ops[j]?).bind (·.dst) = some s) (ht : env.look s = some (.bool want)) (hs : Region.noSelect ops = true)
    (hf : Region.free .any ops listed i = true) (hr : (Region.ready .any ops listed).contains i = true) (hv : Val X env S op T v) (hS : Ent L S) (hd : d < X.fn.ntmps)
    (k : Any X ops S fuel (listed.setIfInBounds i true) kk ((d, v) :: env) L) : Any X ops S (fuel + 1) listed kk env L := by
  intro a w O ha hst hrel
  have hy1 : yielded ops a.tmps j = some want := by simp [yielded, hj, ha.look s _ ht]
  exact wpAnyH_take hi hs hf hr (fun _ _ _ h => by cases h.1) (.inl ⟨by simp [Region.wanted, hy1], fun w ⟨O, hs'⟩ => hv _ _ _ _ a w O ha hs'⟩) ⟨O, hS w O hst⟩ (k _ w O (ha.put hd v) hst hrel)
theorem a_take_off (i : Nat) {j s : Nat} {t want : Bool} {d : Nat} {op : Op} {T : TypeId} {pos : String} {af : Array Edge} (hi : ops[i]? = some ⟨some d, op, T, pos, af, some (j, want)⟩)
    (hj : (ops[j]?).bind (·.dst) = some s) (ht : env.look s = some (.bool t)) (hne : t = !want) (hs : Region.noSelect ops = true)
    (hf : Region.free .any ops listed i = true) (hr : (Region.ready .any ops listed).contains i = true) (hS : Ent L S) (hd : d < X.fn.ntmps)
    (k : Any X ops S fuel (listed.setIfInBounds i true) kk ((d, undef) :: env) L) : Any X ops S (fuel + 1) listed kk env L := by
  intro a w O ha hst hrel
  have hy1 : yielded ops a.tmps j = some t := by simp [yielded, hj, ha.look s _ ht]
  exact wpAnyH_take hi hs hf hr (fun _ _ _ h => by cases h.1) (.inr ⟨by simp only [Region.wanted, hy1]; subst hne; cases want <;> rfl, rfl⟩) ⟨O, hS w O hst⟩ (k _ w O (ha.put hd undef) hst hrel)
theorem a_one_on (i : Nat) {j s : Nat} {want : Bool} {d : Option Nat} {op : Op} {T : TypeId} {pos : String} {af : Array Edge} (hi : ops[i]? = some ⟨d, op, T, pos, af, some (j, want)⟩)
    (hj : (ops[j]?).bind (·.dst) = some s) (ht : env.look s = some (.bool want)) (hr : Region.ready .any ops listed = [i])
    (h : StepK X kk ⟨d, op, T, pos, af, none⟩ env L fun a w => (∃ O, Stars S w O) ∧ wpAnyH X.P .any ops (Qn X kk) (fun w => ∃ O, Stars S w O) fuel (listed.setIfInBounds i true) a w) : Any X ops S (fuel + 1) listed kk env L := by
  intro a w O ha hst hrel
  have hy1 : yielded ops a.tmps j = some want := by simp [yielded, hj, ha.look s _ ht]
  refine wpAnyH_all hr (by simp) fun q hq => ?_
  obtain rfl : q = i := by simpa using hq
  simp only [wpOp, hi, Region.wanted, hy1, beq_self_eq_true, if_true]
  exact .inl (h a w O ha hst hrel)
end
/-! ### calls that take some and read some -/
theorem mix_frame {w w' : World} {O O1 O2 O' : Perm} {l L1 : List A} (s : Split O O1 O2) (hdom : ∀ b, O b ≠ 0 → b < w.heap.size) (h2 : Stars L1 w O2) (hr : Rel w (fun b => max (O1 b) (min (O2 b) 1)) w' O') (hl : Stars l w' O') (hsep : Seps l) :
    ∃ P, Stars (l ++ L1) w' P ∧ Rel w O w' P := by
  have hl' := hsep.stars hl
  have hd2 : ∀ b, O2 b ≠ 0 → b < w.heap.size := fun b hb => hdom b (by have := s.r b; omega)
  have hz : ∀ b, b < w.heap.size → 2 ≤ O' b → 2 ≤ O1 b ∧ O2 b = 0 ∧ O' b ≤ O1 b := fun b hb h => by
    have h1 : O' b ≤ max (O1 b) (min (O2 b) 1) := hr.perm b hb
    have h3 : 2 ≤ O1 b := by omega
    have h4 := s.lr b h3
    exact ⟨h3, h4, by omega⟩
  have hlow : ∀ b, 1 ≤ O2 b → O1 b < 2 := fun b hb => by
    rcases Nat.lt_or_ge (O1 b) 2 with h | h
    · exact h
    · have := s.lr b h; omega
  refine ⟨fun b => max (if 2 ≤ O' b then O' b else 0) (O2 b), Stars.app ⟨fun b => Nat.le_max_left _ _, fun b => Nat.le_max_right _ _, fun b hb => ?_, fun b hb => ?_⟩ hl' (h2.loc fun b hb => hr.old b (hd2 b (by omega)) ?_), ⟨hr.os, hr.tape, hr.output, hr.size, fun b hb ho => hr.old b hb ?_, fun b hb => ?_, fun b hb => ?_⟩⟩
  · split at hb
    · rename_i h
      rcases Nat.eq_zero_or_pos (O2 b) with h0 | h0
      · exact h0
      · exact (hz b (hd2 b (by omega)) h).2.1
    · omega
  · show (if _ then _ else _) = 0
    rw [if_neg fun h => by
      have := (hz b (hd2 b (by omega)) h).2.1
      omega]
  · have := hlow b (by omega); show max _ _ < 2; omega
  · have := s.l b; show max _ _ < 2; omega
  · show max _ _ ≤ _
    have h5 := s.r b
    split
    · rename_i h
      have := hz b hb h; have := s.l b; omega
    · omega
  · have hb' : max (if 2 ≤ O' b then O' b else 0) (O2 b) ≠ 0 := hb
    by_cases h : 2 ≤ O' b
    · exact hr.dom b (by omega)
    · rw [if_neg h] at hb'
      have := hd2 b (by omega); have := hr.size; omega
section
variable {K : Act → World → Prop} {X : Cx} {kk : List Item} {env : Env} {L L1 : List A} {d : Nat} {T : TypeId} {pos : String} {af : Array Edge}
theorem s_callf_mix {γ : Type} {ret : γ → Value} {pu : γ → Prop} {L' : γ → List A} {g : FuncId} {xs : List Operand} {args : List Value} {ts : Array TypeId} {La : List A} (n : Nat)
    (hc : Callable X.P g) (spec : Con X.P g args La ret pu L') (hx : evalAll env xs = some args) (hd : d < X.fn.ntmps) (hpk : Picks (La.take n) L L1) (hp : Reads L1 (La.drop n)) (hsep : ∀ g, Seps (L' g))
    (k : ∀ g, pu g → Kont X ((d, ret g) :: env) (L' g ++ L1) K) :
    StepK X kk ⟨some d, .call ⟨.value (.func g), xs.toArray, ts⟩, T, pos, af, none⟩ env L K := by
  intro a w O ha hs hr
  have hrun : (execOp a.eval ⟨some d, .call ⟨.value (.func g), xs.toArray, ts⟩, T, pos, af, none⟩).run X.P w = .ok (.enter g args.toArray) w := by
    have h1 := ha.all hx
    have hargs : (#[] : Array Value) ++ (xs.map a.eval).toArray ++ (#[] : Array Value) = args.toArray := by rw [h1]; simp
    have hf : a.eval (.func g) = .func (.func g) #[] #[] := ha.eval (show env.eval (.func g) = some (.func (.func g) #[] #[]) from rfl)
    simp only [execOp, resolve, hf, Deferred.ofValue, pure_bind, invoke, List.map_toArray]
    rw [hargs]
    exact hc _ _
  simp only [Oper.wp, hrun, Oper.upon]
  obtain ⟨O1, O2, s, h1, h2⟩ := hpk.split w O hs
  have hdo : ∀ b, O b ≠ 0 → b < w.heap.size := hr.dom
  have hall : Stars La w fun b => max (O1 b) (min (O2 b) 1) := by
    have := Stars.app (O := fun b => max (O1 b) (min (O2 b) 1)) ⟨fun b => Nat.le_max_left _ _, fun b => Nat.le_max_right _ _, fun b hb => by have := s.lr b hb; show min _ _ = 0; omega, fun b hb => by
      have hb' : 2 ≤ min (O2 b) 1 := hb
      omega⟩ h1 (hp.stars h2)
    rwa [List.take_append_drop] at this
  refine (spec w _ hall (fun b hb => hdo b (by
    have hb' : max (O1 b) (min (O2 b) 1) ≠ 0 := hb
    have := s.l b; have := s.r b; omega))).mono ?_
  rintro e w' ⟨g, O', rfl, hpu, hL, hrel⟩
  obtain ⟨P, hP, hR⟩ := mix_frame s hdo h2 hrel hL (hsep g)
  exact k g hpu _ w' P (ha.put hd _) hP (hr.trans hR)
end
end Go.SL
/- Copies of maps: interfaces that hold a map, the model's own maps.clone. -/
namespace Go.SL
open Go
section
variable {κ : Type} [DecidableEq κ] {ke : KeyEnc κ}
variable {K : Act → World → Prop} {X : Cx} {kk : List Item} {env : Env} {L L1 : List A} {d : Nat} {T : TypeId} {pos : String} {af : Array Edge} {x : Operand}
end
theorem results_ct {fn : Func} {t s : Nat} {ty : TypeId} {tmps : Array Value} {P : Program} {w : World} {v u : Value} {p : Addr} (h : fn.results = #[.cell t ty, .tmp s]) (hv : tmps[t]? = some (.pointer (some p))) (hl : (loadVar ty p).run P w = .ok v w) (hu : tmps[s]? = some u) : (results fn tmps).run P w = .ok (.tuple #[v, u]) w := by
  have h1 : tmps[t]?.getD undef = .pointer (some p) := by rw [hv]; rfl
  have h2 : tmps[s]?.getD undef = u := by rw [hu]; rfl
  simp [results, h, asAddr, hl, h1, h2]
theorem c_ret_ct {X : Cx} {k : List Item} {env : Env} {L : List A} {t s b : Nat} {ty bt : TypeId} {cs : List Value} {z u : Value} {nb : Nat} (hf : X.P.funcs[X.f]? = some X.fn) (h : X.fn.results = #[.cell t ty, .tmp s]) (hu : ∃ fs, X.P.underlying ty = some (.struct fs)) (ht : TI X.P ty z cs.length nb)
    (hv : env.look t = some (.pointer (some ⟨b, 0, none⟩))) (hs' : env.look s = some u) (hb : Has L (BlkR b bt cs)) (fin : ∀ w O, Stars L w O → X.R (.tuple #[.agg cs.toArray, u]) w O) (hrd : X.rd = none := by rfl) (hdf : X.defs = [] := by rfl) : Cfg X (.code .ret :: k) env L :=
  c_ret_any (fun a w O ha hs _ => by
    obtain ⟨_, fz, hh⟩ := hb w O hs
    obtain ⟨ti, hi, _, hsz, _⟩ := ht
    exact ⟨_, results_ct h (ha.look t _ hv) (run_loadAgg hu hi hsz fun j u hj => by rw [add_off, blk_cell hh]; simpa using hj) (ha.look s _ hs'), fin w O hs⟩) hf hrd hdf fun _ _ _ _ _ hb => steps_ret hb
end Go.SL
/- Rows opened as blocks and closed again; copy, cap, append of a count of zeros, slices.overlaps of the model. -/
namespace Go.SL
open Go

/-- Values of an encoding that a function writes. -/
def EncF {α : Type} (e : Enc α) (f : α → List Value) : Prop := ∀ w O cs x, e.rd w O cs x ↔ cs = f x
theorem EncF.int (k : IntKind) : EncF (eInt k) (fun n => [.int k n]) := fun _ _ _ _ => Iff.rfl
theorem EncF.str : EncF eStr (fun s => [.string s]) := fun _ _ _ _ => Iff.rfl
theorem EncF.bool : EncF eBool (fun s => [.bool s]) := fun _ _ _ _ => Iff.rfl
theorem rows_f {α : Type} {e : Enc α} {f : α → List Value} (he : EncF e f) {w : World} {O : Perm} : ∀ {xs : List α} {cs : List Value}, Rows e w O cs xs ↔ cs = xs.flatMap f
  | [], cs => Iff.rfl
  | x :: xs, cs => by
    constructor
    · rintro ⟨c1, c2, rfl, h1, h2⟩
      rw [List.flatMap_cons, (he w O c1 x).1 h1, (rows_f he).1 h2]
    · intro h
      exact ⟨f x, xs.flatMap f, h, (he w O _ x).2 rfl, (rows_f he).2 rfl⟩
theorem encF_len {α : Type} {e : Enc α} {f : α → List Value} (he : EncF e f) (x : α) : (f x).length = e.n := e.len ((he ⟨#[], default, 0, default, default⟩ (fun _ => 0) _ x).2 rfl)
theorem flat_len {α : Type} {f : α → List Value} {n : Nat} (h : ∀ x, (f x).length = n) : ∀ xs : List α, (xs.flatMap f).length = xs.length * n
  | [] => by simp
  | x :: xs => by rw [List.flatMap_cons, List.length_append, h, flat_len h xs, List.length_cons, Nat.succ_mul, Nat.add_comm]
theorem flat_drop {α : Type} {f : α → List Value} {n : Nat} (h : ∀ x, (f x).length = n) : ∀ (xs : List α) (k : Nat), (xs.flatMap f).drop (k * n) = (xs.drop k).flatMap f
  | [], k => by simp
  | x :: xs, 0 => by simp
  | x :: xs, k + 1 => by
    rw [List.flatMap_cons, List.drop_succ_cons, Nat.succ_mul, Nat.add_comm (k * n) n, ← h x, List.drop_length_add_append, h x, flat_drop h xs k]

section
variable {α : Type} {e : Enc α} {f : α → List Value} {T : TypeId} {xs : List α} {X : Cx} {k : List Item} {env : Env} {L : List A}
/-- A row that is there, as its block. -/
theorem own_open {g n cap : Nat} {w : World} {O : Perm} (he : EncF e f) (h : (Own e T (.slice (some ⟨g, 0, none⟩) n cap) xs).h w O) :
    n = xs.length ∧ xs.length ≤ cap ∧ cap ≤ maxLen ∧ ∃ cur : List Value, (Blk g T cur).h w O ∧ cur.length = cap * e.n ∧ cur.take (xs.length * e.n) = xs.flatMap f := by
  obtain ⟨O1, O2, cs, s, h1, h2, h3⟩ := h
  rcases h1.2 with ⟨h0, _⟩ | ⟨g', cap', cur, hv, _, hg, hle, hmx, hcs, htk⟩
  · cases h0
  · cases hv
    have hr := (rows_f he).1 h3
    refine ⟨rfl, hle, hmx, cur.toList, ⟨?_, by simpa using hg⟩, by simpa using hcs, by rw [htk, hr]⟩
    have := h2 g (by simp [Value.ownBlock])
    have := s.l g
    omega
end

/-- Cells that are there. -/
def Cells (L : List A) (a : Addr) (cs : List Value) : Prop := ∀ w O, Stars L w O → ∀ j v, cs[j]? = some v → w.cell? (a.add j) = some v
theorem addr_add (b off j : Nat) : (⟨b, off, none⟩ : Addr).add j = ⟨b, off + j, none⟩ := by unfold Addr.add; split <;> simp_all
theorem Cells.of {L : List A} {a : Addr} {cs : List Value} {b : A} (h : Has L b) (hb : ∀ w O, b.h w O → ∀ j v, cs[j]? = some v → w.cell? (a.add j) = some v) : Cells L a cs := fun w O hs => hb w O (h w O hs)

section
variable {K : Act → World → Prop} {X : Cx} {kk : List Item} {env : Env} {L L1 : List A} {d : Nat} {T : TypeId} {pos : String} {af : Array Edge} {x y : Operand}
end
end Go.SL
/- Rows that may begin inside their block; a row that is looked at behind an append; a map that is gone through and updated at keys that it has. -/
namespace Go.SL
open Go

/-- v is a row of one's own, which may begin anywhere in its block. -/
def OwnO {α : Type} (e : Enc α) (T : TypeId) (v : Value) (xs : List α) : A where
  h := fun w O => (v = .slice none 0 0 ∧ xs = []) ∨ ∃ (g off cap : Nat) (cur : List Value) (f : α → List Value), EncF e f ∧ v = .slice (some ⟨g, off, none⟩) xs.length cap ∧ 2 ≤ O g ∧ w.heap[g]? = some (.cells cur.toArray T (0, 0)) ∧ xs.length ≤ cap ∧ cap ≤ maxLen ∧ off + cap * e.n ≤ cur.length ∧ (cur.drop off).take (xs.length * e.n) = xs.flatMap f
  mono := fun h hO => h.imp id fun ⟨g, off, cap, cur, f, he, h1, h2, h3⟩ => ⟨g, off, cap, cur, f, he, h1, Nat.le_trans h2 (hO g), h3⟩
  loc := fun h hw => h.imp id fun ⟨g, off, cap, cur, f, he, h1, h2, h3, h4⟩ => ⟨g, off, cap, cur, f, he, h1, h2, (hw g (by omega)).trans h3, h4⟩
theorem cell_in' {β : Type} {l : List β} {j : Nat} {u : β} (h : l[j]? = some u) : j < l.length := by
  rcases Nat.lt_or_ge j l.length with h' | h'
  · exact h'
  · rw [List.getElem?_eq_none h'] at h; cases h
/-- Both, of the same. -/
def AndA (a b : A) : A := ⟨fun w O => a.h w O ∧ b.h w O, fun h hO => ⟨a.mono h.1 hO, b.mono h.2 hO⟩, fun h hw => ⟨a.loc h.1 hw, b.loc h.2 hw⟩⟩

section
variable {α : Type} {e : Enc α} {f : α → List Value} {T : TypeId} {v : Value} {xs : List α} {L : List A}
theorem OwnO.nil (w : World) (O : Perm) : (OwnO e T (.slice none 0 0) []).h w O := .inl ⟨rfl, rfl⟩
theorem OwnO.sl {w : World} {O : Perm} (h : (OwnO e T v xs).h w O) : (Sl e v xs).h w O := by
  rcases h with ⟨rfl, rfl⟩ | ⟨g, off, cap, cur, f, he, rfl, h2, h3, h4, h5, h6, h7⟩
  · exact Sl.nil e w O
  · refine ⟨some ⟨g, off, none⟩, cap, rfl, h4, h5, .inr ⟨g, off, xs.flatMap f, rfl, by omega, (rows_f he).2 rfl, fun j u hj => ?_⟩⟩
    rw [blk_cell h3]
    rw [← h7, List.getElem?_take] at hj
    split at hj
    · rw [List.getElem?_drop] at hj; simpa using hj
    · cases hj
theorem OwnO.of {w : World} {O : Perm} (he : EncF e f) (h : (Own e T v xs).h w O) : (OwnO e T v xs).h w O := by
  rcases Own.form h with ⟨rfl, rfl⟩ | ⟨g, cap, rfl, _⟩
  · exact .inl ⟨rfl, rfl⟩
  · obtain ⟨_, h1, h2, cur, ⟨h3, h4⟩, h5, h6⟩ := own_open he h
    exact .inr ⟨g, 0, cap, cur, f, he, rfl, h3, h4, h1, h2, by rw [h5]; omega, by rw [List.drop_zero]; exact h6⟩
theorem OwnO.sep : (OwnO e T v xs).Sep := fun w O h => h.imp id fun ⟨g, off, cap, cur, f, he, h1, h2, h3⟩ => ⟨g, off, cap, cur, f, he, h1, by show 2 ≤ (if _ then _ else _); rw [if_pos h2]; exact h2, h3⟩
theorem OwnO.form {w : World} {O : Perm} (h : (OwnO e T v xs).h w O) : ∃ a0 cap, v = .slice a0 xs.length cap ∧ xs.length ≤ cap ∧ cap ≤ maxLen := by
  rcases h with ⟨rfl, rfl⟩ | ⟨g, off, cap, cur, f, he, rfl, _, _, h1, h2, _⟩
  · exact ⟨none, 0, rfl, Nat.le_refl _, Nat.zero_le _⟩
  · exact ⟨_, cap, rfl, h1, h2⟩
theorem OwnO.tail {w : World} {O : Perm} {cap : Nat} {x : α} {a0 : Option Addr} (h : (OwnO e T (.slice a0 (x :: xs).length cap) (x :: xs)).h w O) : (OwnO e T (cutV a0 1 (x :: xs).length cap e.n) xs).h w O := by
  rcases h with ⟨_, h⟩ | ⟨g, off, cap', cur, f, he, hv, h2, h3, h4, h5, h6, h7⟩
  · cases h
  · cases hv
    have hf := encF_len he
    right
    by_cases hc : cap = 1
    · subst hc
      have hx : xs = [] := List.eq_nil_of_length_eq_zero (by have : xs.length + 1 ≤ 1 := h4; omega)
      subst hx
      exact ⟨g, off, 0, cur, f, he, by simp [Go.SL.cutV], h2, h3, Nat.le_refl _, Nat.zero_le _, by omega, by simp⟩
    · refine ⟨g, off + e.n, cap - 1, cur, f, he, ?_, h2, h3, by have : xs.length + 1 ≤ cap := h4; omega, by omega, ?_, ?_⟩
      · simp only [Go.SL.cutV, if_neg hc, Option.map_some]
        rw [addr_add]; simp
      · obtain ⟨c, rfl⟩ : ∃ c, cap = c + 1 := ⟨cap - 1, by have : xs.length + 1 ≤ cap := h4; omega⟩
        rw [Nat.add_sub_cancel]
        rw [Nat.succ_mul] at h6; omega
      · have e1 := congrArg (List.drop e.n) h7
        rw [List.flatMap_cons, ← hf x, List.drop_left, List.drop_take, List.drop_drop, hf x] at e1
        rw [← e1]
        congr 1
        simp only [List.length_cons, Nat.succ_mul]; omega
theorem Has.sl_ownO : Has (OwnO e T v xs :: L) (Sl e v xs) := Has.here.imp fun _ _ h => OwnO.sl h
theorem Pick.ownO_sl : Pick (Sl e v xs) (OwnO e T v xs :: L) L := Pick.of Pick.here fun _ _ h => OwnO.sl h
theorem Elem.ownO {i : Nat} {z : α} (hz : xs[i]? = some z) : Elem (OwnO e T v xs :: L) e v i z := by
  intro w O hs
  obtain ⟨O1, O2, s, h, hs2⟩ := hs
  rcases h with ⟨rfl, rfl⟩ | ⟨g, off, cap, cur, f, he, rfl, h2, h3, h4, h5, h6, h7⟩
  · cases hz
  · have hil := cell_in' hz
    have hfl := encF_len he
    refine ⟨f z, ⟨fun _ => 0, O, ⟨fun _ => Nat.zero_le _, fun _ => Nat.le_refl _, fun _ h => by omega, fun _ _ => rfl⟩, (he w _ _ z).2 rfl, O1, O2, s, .inr ⟨g, off, cap, cur, f, he, rfl, h2, h3, h4, h5, h6, h7⟩, hs2⟩, ⟨g, by have := s.l g; omega, rfl⟩, fun j u hj => ?_⟩
    have hjl := cell_in' hj
    rw [hfl] at hjl
    show w.cell? ⟨g, off + i * e.n + j, none⟩ = some u
    rw [blk_cell h3]
    have e1 : ((xs.drop i).flatMap f)[j]? = some u := by
      rw [List.drop_eq_getElem_cons hil, List.flatMap_cons, List.getElem?_append_left (by rw [hfl]; exact hjl)]
      rw [List.getElem?_eq_getElem hil] at hz
      rw [Option.some.inj hz]; exact hj
    rw [← flat_drop hfl, ← h7, List.getElem?_drop, List.getElem?_take] at e1
    split at e1
    · rw [List.getElem?_drop] at e1
      rw [List.getElem?_toArray, Nat.add_assoc]; exact e1
    · cases e1
theorem AndA.fst {a b : A} {w : World} {O : Perm} (h : (AndA a b).h w O) : a.h w O := h.1
theorem AndA.snd {a b : A} {w : World} {O : Perm} (h : (AndA a b).h w O) : b.h w O := h.2
end

section
variable {K : Act → World → Prop} {X : Cx} {kk : List Item} {env : Env} {L L1 L2 : List A} {d : Nat} {T : TypeId} {pos : String} {af : Array Edge} {x y : Operand}
end
section
variable {κ : Type} [DecidableEq κ] (ke : KeyEnc κ)
variable {X : Cx} {env : Env} {L L1 : List A} {T : TypeId} {x y : Operand} {K : Act → World → Prop} {kk : List Item} {pos : String} {af : Array Edge} {d : Nat}
open Classical in
end
section
variable {X : Cx} {ops : Array Oper} {kk : List Item} {env : Env} {L L1 S : List A} {j0 fuel : Nat} {listed : Array Bool}
/-- Two operations may come up, either first. -/
theorem a_two (i j : Nat) {d d' : Option Nat} {op op' : Op} {T T' : TypeId} {pos pos' : String} {af af' : Array Edge} (hi : ops[i]? = some ⟨d, op, T, pos, af, none⟩) (hj : ops[j]? = some ⟨d', op', T', pos', af', none⟩) (hr : Region.ready .any ops listed = [i, j])
    (h : StepK X kk ⟨d, op, T, pos, af, none⟩ env L fun a w => (∃ O, Stars S w O) ∧ wpAnyH X.P .any ops (Qn X kk) (fun w => ∃ O, Stars S w O) fuel (listed.setIfInBounds i true) a w)
    (h' : StepK X kk ⟨d', op', T', pos', af', none⟩ env L fun a w => (∃ O, Stars S w O) ∧ wpAnyH X.P .any ops (Qn X kk) (fun w => ∃ O, Stars S w O) fuel (listed.setIfInBounds j true) a w) : Any X ops S (fuel + 1) listed kk env L := by
  intro a w O ha hst hrel
  refine wpAnyH_all hr (by simp) fun q hq => ?_
  have hq' : q = i ∨ q = j := by simpa using hq
  rcases hq' with rfl | rfl
  · simp only [wpOp, hi, Region.wanted, if_true]
    exact .inl (h a w O ha hst hrel)
  · simp only [wpOp, hj, Region.wanted, if_true]
    exact .inl (h' a w O ha hst hrel)
theorem Has.and_snd {a b : A} : Has (AndA a b :: L) b := Has.here.imp fun _ _ h => h.2
theorem Has.and_fst {a b : A} : Has (AndA a b :: L) a := Has.here.imp fun _ _ h => h.1
theorem Pick.and_fst {a b : A} : Pick a (AndA a b :: L) L := Pick.of Pick.here fun _ _ h => h.1
end
end Go.SL
/- All of the engine. -/

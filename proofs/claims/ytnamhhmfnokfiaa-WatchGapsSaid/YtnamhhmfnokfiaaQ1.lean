/- The judgements over the machine's configurations, and the rules of control. -/
import Derived.Test.YtnamhhmfnokfiaaQ0
import Derived.Tactics
import Derived.OwnWalk
import Derived.AtR
namespace Go.SL
open Go

/-- Known slots, the newest first. -/
abbrev Env := List (Nat × Value)
def Env.look : Env → Nat → Option Value
  | [], _ => none
  | (k, v) :: e, t => bif Nat.beq k t then some v else Env.look e t
def Env.eval (e : Env) : Operand → Option Value
  | .tmp t => e.look t
  | .const v => some v
  | .global g => some (.pointer (some ⟨g, 0, none⟩))
  | .func f => some (.func (.func f) #[] #[])

theorem Env.look_cons {k t : Nat} {v u : Value} {e : Env} (h : Env.look ((k, v) :: e) t = some u) : (k = t ∧ v = u) ∨ (k ≠ t ∧ e.look t = some u) := by
  unfold Env.look at h
  cases hb : Nat.beq k t with
  | true => rw [hb] at h; exact .inl ⟨Nat.eq_of_beq_eq_true hb, by simpa using h⟩
  | false => rw [hb] at h; exact .inr ⟨Nat.ne_of_beq_eq_false hb, by simpa using h⟩
theorem Env.look_same {t : Nat} {v : Value} {e : Env} : Env.look ((t, v) :: e) t = some v := by simp [Env.look]
theorem Env.look_ne {k t : Nat} {v : Value} {e : Env} (h : k ≠ t) : Env.look ((k, v) :: e) t = e.look t := by
  have : Nat.beq k t = false := by
    cases hb : Nat.beq k t with
    | true => exact absurd (Nat.eq_of_beq_eq_true hb) h
    | false => rfl
  simp [Env.look, this]

def Env.Le : Env → Env → Prop
  | [], _ => True
  | (t, v) :: e, e' => e'.look t = some v ∧ Env.Le e e'
theorem Env.Le.look {e e' : Env} (h : Env.Le e e') {t : Nat} {v : Value} (hl : e.look t = some v) : e'.look t = some v := by
  induction e with
  | nil => simp [Env.look] at hl
  | cons p e ih =>
    obtain ⟨k, u⟩ := p
    rcases Env.look_cons hl with ⟨rfl, rfl⟩ | ⟨_, hl⟩
    · exact h.1
    · exact ih h.2 hl

structure Cx where
  P : Program
  f : FuncId
  fn : Func
  R : Value → World → Perm → Prop
  w0 : World
  O0 : Perm
  /-- A round of a loop over a function: the loop's record. -/
  rd : Option Nat := none
  /-- The marks of the loops over functions that have been begun. -/
  defs : List Deferred := []

structure Holds (X : Cx) (env : Env) (a : Act) : Prop where
  size : a.tmps.size = X.fn.ntmps
  defers : a.defers = X.defs
  look : ∀ t v, env.look t = some v → a.tmps[t]? = some v

theorem Holds.le {X : Cx} {e e' : Env} {a : Act} (h : Holds X e' a) (hl : Env.Le e e') : Holds X e a := ⟨h.size, h.defers, fun t v ht => h.look t v (hl.look ht)⟩
theorem Holds.eval {X : Cx} {e : Env} {a : Act} (h : Holds X e a) {x : Operand} {v : Value} (hv : e.eval x = some v) : a.eval x = v := by
  cases x with
  | tmp t => have := h.look t v hv; simp [Act.eval, Array.getD_eq_getD_getElem?, this]
  | const c => exact Option.some.inj hv
  | global g => exact Option.some.inj hv
  | func f => exact Option.some.inj hv
theorem Holds.put {X : Cx} {e : Env} {a : Act} (h : Holds X e a) {d : Nat} (hd : d < X.fn.ntmps) (v : Value) : Holds X ((d, v) :: e) (a.put (some d) v) := by
  refine ⟨by simp [Act.put, h.size], h.defers, fun t u ht => ?_⟩
  simp only [Act.put]
  rcases Env.look_cons ht with ⟨rfl, rfl⟩ | ⟨hne, ht⟩
  · rw [Array.getElem?_setIfInBounds_self]; simp [h.size, hd]
  · rw [Array.getElem?_setIfInBounds_ne hne]; exact h.look t u ht
theorem Holds.put_none {X : Cx} {e : Env} {a : Act} (h : Holds X e a) (v : Value) : Holds X e (a.put none v) := h

/-- The end: a function leaves with its results; a round comes to its end (true), or leaves by a return (false) or by the exit of a block outside (that block's number). -/
def Fin (X : Cx) (fr : Frame) (w : World) (v : Value) : Prop :=
  match X.rd with
  | none => fr.fn = X.f ∧ fr.leaving X.P w (.returned v)
  | some l => ∃ (b : Frame) (a : Act), b.fn = X.f ∧ b.roundOf = some l ∧ b.kind = .normal ∧ ((v = .bool true ∧ fr = b.atR a []) ∨ (∃ k, v = .bool false ∧ fr = b.atR a (.code .ret :: k)) ∨ ∃ id k, v = .int .i64 (id : Nat) ∧ exitTo id k = none ∧ fr = b.atR a (.code (.exit id) :: k))
def Ok (X : Cx) (k : List Item) (a : Act) (w : World) : Prop :=
  ∀ (b : Frame), b.fn = X.f → b.kind = .normal → b.roundOf = X.rd → ∀ cs, ∃ v w' fr O', X.R v w' O' ∧ Rel X.w0 X.O0 w' O' ∧
    Steps X.P (lone (b.atR a k) cs w) (lone fr cs w') ∧ Fin X fr w' v

theorem Ok.step {X : Cx} {k k' : List Item} {a a' : Act} {w w' : World}
    (hs : ∀ (b : Frame) cs, b.roundOf = X.rd → Steps X.P (lone (b.atR a k) cs w) (lone (b.atR a' k') cs w')) (h : Ok X k' a' w') : Ok X k a w := by
  intro b hb hk hr cs
  obtain ⟨v, w1, fr, O', hR, hrel, hst, r⟩ := h b hb hk hr cs
  exact ⟨v, w1, fr, O', hR, hrel, (hs b cs hr).trans hst, r⟩

def Cfg (X : Cx) (k : List Item) (env : Env) (L : List A) : Prop :=
  ∀ a w O, Holds X env a → Stars L w O → Rel X.w0 X.O0 w O → Ok X k a w

section
variable {X : Cx} {k k' : List Item} {env env' : Env} {L L' : List A}

theorem c_use (h : Cfg X k env' L') (he : Env.Le env' env) (hl : Ent L L') : Cfg X k env L :=
  fun a w O ha hs hr => h a w O (ha.le he) (hl w O hs) hr
theorem c_ent (hl : Ent L L') (h : Cfg X k env L') : Cfg X k env L := fun a w O ha hs hr => h a w O ha (hl w O hs) hr
theorem c_env (he : Env.Le env' env) (h : Cfg X k env' L) : Cfg X k env L := fun a w O ha hs hr => h a w O (ha.le he) hs hr

theorem c_seq {x y : Code} (h : Cfg X (.code x :: .code y :: k) env L) : Cfg X (.code (.seq x y) :: k) env L :=
  fun a w O ha hs hr => (h a w O ha hs hr).step fun _ _ _ => .one stepR_seq
theorem c_skip (h : Cfg X k env L) : Cfg X (.code .skip :: k) env L := fun a w O ha hs hr => (h a w O ha hs hr).step fun _ _ _ => .one stepR_skip
theorem c_label {l : Nat} (h : Cfg X k env L) : Cfg X (.code (.label l) :: k) env L := fun a w O ha hs hr => (h a w O ha hs hr).step fun _ _ _ => .one stepR_label
theorem c_inBlock {id : Nat} (h : Cfg X k env L) : Cfg X (.inBlock id :: k) env L := fun a w O ha hs hr => (h a w O ha hs hr).step fun _ _ _ => .one stepR_inBlock
theorem c_block {id : Nat} {c : Code} (h : Cfg X (.code c :: .inBlock id :: k) env L) : Cfg X (.code (.block id c) :: k) env L :=
  fun a w O ha hs hr => (h a w O ha hs hr).step fun _ _ _ => .one stepR_block
theorem c_exit {id : Nat} (he : exitTo id k = some k') (h : Cfg X k' env L) : Cfg X (.code (.exit id) :: k) env L :=
  fun a w O ha hs hr => (h a w O ha hs hr).step fun _ _ _ => .one (stepR_exit he)
theorem c_goto {l : Nat} (he : gotoIn l k = some k') (h : Cfg X k' env L) : Cfg X (.code (.goto l) :: k) env L :=
  fun a w O ha hs hr => (h a w O ha hs hr).step fun _ _ _ => .one (stepR_goto he)
theorem c_cond {c : Operand} {x y : Code} {t : Bool} (hc : env.eval c = some (.bool t)) (ht : t = true → Cfg X (.code x :: k) env L) (hf : t = false → Cfg X (.code y :: k) env L) :
    Cfg X (.code (.cond c x y) :: k) env L := by
  intro a w O ha hs hr
  cases t with
  | true => exact (ht rfl a w O ha hs hr).step fun b cs _ => .one (by have := stepR_cond (P := X.P) (b := b) (k := k) (cs := cs) (w := w) (x := x) (y := y) (ha.eval hc); simpa using this)
  | false => exact (hf rfl a w O ha hs hr).step fun b cs _ => .one (by have := stepR_cond (P := X.P) (b := b) (k := k) (cs := cs) (w := w) (x := x) (y := y) (ha.eval hc); simpa using this)
theorem c_cond_t {c : Operand} {x y : Code} (hc : env.eval c = some (.bool true)) (h : Cfg X (.code x :: k) env L) : Cfg X (.code (.cond c x y) :: k) env L :=
  c_cond hc (fun _ => h) (fun e => by cases e)
theorem c_cond_f {c : Operand} {x y : Code} (hc : env.eval c = some (.bool false)) (h : Cfg X (.code y :: k) env L) : Cfg X (.code (.cond c x y) :: k) env L :=
  c_cond hc (fun e => by cases e) (fun _ => h)
/-- A test of a proposition. -/
theorem c_cond_p {c : Operand} {x y : Code} {p : Prop} [Decidable p] (hc : env.eval c = some (.bool (decide p))) (ht : p → Cfg X (.code x :: k) env L) (hf : ¬ p → Cfg X (.code y :: k) env L) :
    Cfg X (.code (.cond c x y) :: k) env L :=
  c_cond hc (fun e => ht (of_decide_eq_true e)) (fun e => hf (of_decide_eq_false e))

/-- A loop: g is what is known at each round's head; the rounds lower μ. -/
theorem c_loop {c : Code} {γ : Type} (μ : γ → Nat) (J : γ → Prop) (E : γ → Env) (LL : γ → List A) (g : γ) (hJ : J g) (hE : Env.Le (E g) env) (hL : Ent L (LL g))
    (round : ∀ g, J g → (∀ g', μ g' < μ g → J g' → Cfg X (.inLoop c :: k) (E g') (LL g')) → Cfg X (.code c :: .inLoop c :: k) (E g) (LL g)) :
    Cfg X (.code (.loop c) :: k) env L := by
  have key : ∀ n g, μ g = n → J g → Cfg X (.inLoop c :: k) (E g) (LL g) := by
    intro n
    induction n using Nat.strongRecOn with
    | _ n ih =>
      intro g hn hg a w O ha hs hr
      refine (round g hg (fun g' hlt hg' => ih (μ g') (hn ▸ hlt) g' rfl hg') a w O ha hs hr).step fun _ _ _ => .one stepR_inLoop
  intro a w O ha hs hr
  refine (round g hJ (fun g' _ hg' => key _ g' rfl hg') a w O (ha.le hE) (hL w O hs) hr).step fun _ _ _ => .one stepR_loop

/-- Where ways meet again. -/
theorem c_join {γ : Type} (J : γ → Prop) (E : γ → Env) (LL : γ → List A) {i : Item} (hj : ∀ g, J g → Cfg X k (E g) (LL g)) (h : (∀ g, J g → Cfg X k (E g) (LL g)) → Cfg X (i :: k) env L) : Cfg X (i :: k) env L := h hj

theorem c_ret_any (hr : ∀ a w O, Holds X env a → Stars L w O → (∀ b, O b ≠ 0 → b < w.heap.size) → ∃ v, (results X.fn a.tmps).run X.P w = .ok v w ∧ X.R v w O)
    (hf : X.P.funcs[X.f]? = some X.fn) (hrd : X.rd = none) (hdf : X.defs = []) (hk : ∀ (a : Act) (w : World) (b : Frame) (cs : List Frame), b.kind = .normal → b.roundOf = none → Steps X.P (lone (b.atR a k) cs w) (lone { b.atR a k with mode := .returning } cs w)) : Cfg X k env L := by
  intro a w O ha hs hrel b hb hkd hro cs
  obtain ⟨v, hv, hR⟩ := hr a w O ha hs hrel.dom
  refine ⟨v, w, { b.atR a k with mode := .returning }, O, hR, hrel, hk a w b cs hkd (hro.trans hrd), ?_⟩
  unfold Fin
  rw [hrd]
  exact ⟨hb, rfl, ha.defers.trans hdf, hkd, X.fn, by simpa [Frame.atR, hb] using hf, by simpa [Frame.atR] using hv⟩

theorem steps_ret {b : Frame} {P : Program} {a : Act} {w : World} {cs : List Frame} (hb : b.roundOf = none) : Steps P (lone (b.atR a (.code .ret :: k)) cs w) (lone { b.atR a (.code .ret :: k) with mode := .returning } cs w) := .one (stepR_ret hb)

theorem getD_of {tmps : Array Value} {t : Nat} {v : Value} (h : tmps[t]? = some v) : tmps.getD t undef = v := by simp [Array.getD_eq_getD_getElem?, h]
theorem results_one {fn : Func} {t : Nat} {tmps : Array Value} {P : Program} {w : World} {v : Value} (h : fn.results = #[.tmp t]) (hv : tmps[t]? = some v) : (results fn tmps).run P w = .ok v w := by
  rw [results_tmp h, getD_of hv]
theorem results_two {fn : Func} {s t : Nat} {tmps : Array Value} {P : Program} {w : World} {u v : Value} (h : fn.results = #[.tmp s, .tmp t]) (hu : tmps[s]? = some u) (hv : tmps[t]? = some v) :
    (results fn tmps).run P w = .ok (.tuple #[u, v]) w := by
  rw [results_tmp2 h, getD_of hu, getD_of hv]
theorem results_three {fn : Func} {s t r : Nat} {tmps : Array Value} {P : Program} {w : World} {u v x : Value} (h : fn.results = #[.tmp s, .tmp t, .tmp r]) (hu : tmps[s]? = some u) (hv : tmps[t]? = some v) (hx : tmps[r]? = some x) :
    (results fn tmps).run P w = .ok (.tuple #[u, v, x]) w := by
  rw [results_tmp3 h, getD_of hu, getD_of hv, getD_of hx]
theorem results_no {fn : Func} {tmps : Array Value} {P : Program} {w : World} (h : fn.results = #[]) : (results fn tmps).run P w = .ok (.tuple #[]) w := results_none h _ _ _

theorem c_ret0 (hf : X.P.funcs[X.f]? = some X.fn) (h : X.fn.results = #[]) (fin : ∀ w O, Stars L w O → X.R (.tuple #[]) w O) (hrd : X.rd = none := by rfl) (hdf : X.defs = [] := by rfl) : Cfg X (.code .ret :: k) env L :=
  c_ret_any (fun _ w O _ hs _ => ⟨_, results_no h, fin w O hs⟩) hf hrd hdf fun _ _ _ _ _ hb => steps_ret hb
theorem c_end0 (hf : X.P.funcs[X.f]? = some X.fn) (h : X.fn.results = #[]) (fin : ∀ w O, Stars L w O → X.R (.tuple #[]) w O) (hrd : X.rd = none := by rfl) (hdf : X.defs = [] := by rfl) : Cfg X [] env L :=
  c_ret_any (fun _ w O _ hs _ => ⟨_, results_no h, fin w O hs⟩) hf hrd hdf fun _ _ _ _ _ hb => .one (stepR_end hb)
theorem c_ret1 {t : Nat} {v : Value} (hf : X.P.funcs[X.f]? = some X.fn) (h : X.fn.results = #[.tmp t]) (hv : env.look t = some v) (fin : ∀ w O, Stars L w O → X.R v w O) (hrd : X.rd = none := by rfl) (hdf : X.defs = [] := by rfl) : Cfg X (.code .ret :: k) env L :=
  c_ret_any (fun _ w O ha hs _ => ⟨_, results_one h (ha.look t v hv), fin w O hs⟩) hf hrd hdf fun _ _ _ _ _ hb => steps_ret hb
theorem c_ret2 {s t : Nat} {u v : Value} (hf : X.P.funcs[X.f]? = some X.fn) (h : X.fn.results = #[.tmp s, .tmp t]) (hu : env.look s = some u) (hv : env.look t = some v) (fin : ∀ w O, Stars L w O → X.R (.tuple #[u, v]) w O) (hrd : X.rd = none := by rfl) (hdf : X.defs = [] := by rfl) :
    Cfg X (.code .ret :: k) env L :=
  c_ret_any (fun _ w O ha hs _ => ⟨_, results_two h (ha.look s u hu) (ha.look t v hv), fin w O hs⟩) hf hrd hdf fun _ _ _ _ _ hb => steps_ret hb
theorem c_ret3 {s t r : Nat} {u v x : Value} (hf : X.P.funcs[X.f]? = some X.fn) (h : X.fn.results = #[.tmp s, .tmp t, .tmp r]) (hu : env.look s = some u) (hv : env.look t = some v) (hx : env.look r = some x)
    (fin : ∀ w O, Stars L w O → X.R (.tuple #[u, v, x]) w O) (hrd : X.rd = none := by rfl) (hdf : X.defs = [] := by rfl) : Cfg X (.code .ret :: k) env L :=
  c_ret_any (fun _ w O ha hs _ => ⟨_, results_three h (ha.look s u hu) (ha.look t v hv) (ha.look r x hx), fin w O hs⟩) hf hrd hdf fun _ _ _ _ _ hb => steps_ret hb
end

/-! ### contracts -/
/-- A function's contract: in any world in which L holds, whatever is left aside, it returns one of 'ret g'; then pu g, and L' g holds. -/
def Con (P : Program) (f : FuncId) (args : List Value) (L : List A) {γ : Type} (ret : γ → Value) (pu : γ → Prop) (L' : γ → List A) : Prop :=
  ∀ w O, Stars L w O → (∀ b, O b ≠ 0 → b < w.heap.size) →
    Calls P f args.toArray w fun e w' => ∃ g O', e = .returned (ret g) ∧ pu g ∧ Stars (L' g) w' O' ∧ Rel w O w' O'

def initEnv : Nat → List Value → Env
  | _, [] => []
  | i, v :: vs => (i, v) :: initEnv (i + 1) vs
theorem initEnv_look {vs : List Value} {i t : Nat} {v : Value} (h : (initEnv i vs).look t = some v) : i ≤ t ∧ vs[t - i]? = some v := by
  induction vs generalizing i with
  | nil => simp [initEnv, Env.look] at h
  | cons u vs ih =>
    rcases Env.look_cons h with ⟨rfl, rfl⟩ | ⟨_, h⟩
    · simp
    · obtain ⟨h1, h2⟩ := ih h
      refine ⟨by omega, ?_⟩
      rw [show t - i = (t - (i + 1)) + 1 by omega]
      simpa using h2

theorem con_of {P : Program} {f : FuncId} {fn : Func} {c : Code} {args : List Value} {L : List A} {γ : Type} {ret : γ → Value} {pu : γ → Prop} {L' : γ → List A}
    (hf : P.funcs[f]? = some fn) (hb : fn.body = some c) (hn : args.length ≤ fn.ntmps)
    (h : ∀ w0 O0, Cfg { P := P, f := f, fn := fn, R := fun v w O => ∃ g, v = ret g ∧ pu g ∧ Stars (L' g) w O, w0 := w0, O0 := O0 } [.code c] (initEnv 0 args) L) : Con P f args L ret pu L' := by
  intro w O hs hdom cs
  have henter : Frame.enter P f args.toArray .normal =
      ({ (default : Frame) with fn := f, kind := .normal, roundOf := none } : Frame).atR { tmps := args.toArray ++ Array.replicate (fn.ntmps - args.toArray.size) undef, defers := [] } [.code c] := by
    simp [Frame.enter, Frame.atR, hf, hb]
  obtain ⟨v, w', fr, O', ⟨g, rfl, hpu, hL⟩, hrel, hst, hfn, hlv⟩ := h w O { tmps := args.toArray ++ Array.replicate (fn.ntmps - args.toArray.size) undef, defers := [] } w O
    ⟨by simp; omega, rfl, fun t v ht => by
      obtain ⟨_, h2⟩ := initEnv_look ht
      have h3 : t < args.length := by
        rcases Nat.lt_or_ge t args.length with h | h
        · exact h
        · rw [Nat.sub_zero, List.getElem?_eq_none (by omega)] at h2; cases h2
      rw [Array.getElem?_append_left (by simpa using h3)]
      simpa using h2⟩ hs (Rel.refl hdom) { (default : Frame) with fn := f, kind := .normal, roundOf := none } rfl rfl rfl cs
  rw [← henter] at hst
  exact ⟨.returned (ret g), w', fr, ⟨g, O', rfl, hpu, hL, hrel⟩, hst, hfn, hlv⟩

theorem Con.pre {P : Program} {f : FuncId} {args : List Value} {L L1 : List A} {γ : Type} {ret : γ → Value} {pu : γ → Prop} {L' : γ → List A} (h : Con P f args L ret pu L') (he : Ent L1 L) : Con P f args L1 ret pu L' :=
  fun w O hs hd => h w O (he w O hs) hd
end Go.SL

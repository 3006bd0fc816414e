/- Regions, and the rules of the operations that touch no memory; calls. -/
import Derived.Test.YtnamhhmfnokfiaaQ1
import Derived.IntWalk
import Derived.Orders
import Derived.Laws.Strings
import Derived.Laws.Slices
namespace Go.SL
open Go

def Qn (X : Cx) (k : List Item) : Exit → Act → World → Prop := fun e a w => e = .normal ∧ Ok X k a w

/-- A round of a loop over a function, called: it comes back to the frame that called. -/
def Round (P : Program) (l : Nat) (f : FuncId) (tmps : Array Value) (assign body : Code) (w : World) (R : Value → World → Prop) : Prop :=
  ∀ (c : Frame) (cs : List Frame), ∃ v w', R v w' ∧ Steps P (lone (Frame.round l f tmps assign body .normal) (c :: cs) w) (lone (c.finish v) cs w')
theorem Round.mono {P : Program} {l : Nat} {f : FuncId} {tmps : Array Value} {assign body : Code} {w : World} {R R' : Value → World → Prop} (h : Round P l f tmps assign body w R) (hR : ∀ v w, R v w → R' v w) : Round P l f tmps assign body w R' := fun c cs => by
  obtain ⟨v, w', h1, h2⟩ := h c cs
  exact ⟨v, w', hR _ _ h1, h2⟩
/-- An operation that calls a round. -/
def yields (P : Program) (o : Oper) (a : Act) (w : World) (next : Act → World → Prop) : Prop :=
  ∃ l f tmps assign body w', (execOp a.eval o).run P w = .ok (.round l f tmps assign body) w' ∧ Round P l f tmps assign body w' fun v w'' => next (a.put o.dst v) w''
/-- The operations of a region, in the order of the text. -/
def wpl (P : Program) (ops : Array Oper) (Q : Exit → Act → World → Prop) : List Oper → Act → World → Prop
  | [], a, w => Q .normal a w
  | o :: rest, a, w => if Region.wanted o (yielded ops a.tmps) then o.wp P a w (wpl P ops Q rest) Q ∨ yields P o a w (wpl P ops Q rest) else wpl P ops Q rest (a.put o.dst undef) w

def noDefer (l : List Oper) : Bool := l.all fun o => match o.op with | .defer _ => false | _ => true
theorem noDefer_get {l : List Oper} {i : Nat} {o : Oper} (h : noDefer l = true) (ho : l[i]? = some o) : ∀ c, o.op ≠ .defer c := by
  intro c hc
  have := List.all_eq_true.1 h o (List.mem_of_getElem? ho)
  rw [hc] at this
  cases this

section
variable {X : Cx} {k : List Item} {ops : Array Oper}
/-- One operation, carried out. -/
theorem ok_oper {i : Nat} {rest : List Nat} {o : Oper} {a : Act} {w : World} (ho : ops[i]? = some o) (hnd : ∀ c, o.op ≠ .defer c) (hw : Region.wanted o (yielded ops a.tmps) = true)
    {next : Act → World → Prop} (hn : ∀ a w, next a w → Ok X (.inRegion ops rest :: k) a w) (h : o.wp X.P a w next (Qn X k) ∨ yields X.P o a w next) : Ok X (.inRegion ops (i :: rest) :: k) a w := by
  intro b hb hk hro cs
  have hg := stepGR_op (P := X.P) (b := b) (k := k) (cs := cs) (w := w) (rest := rest) ho hw
  rw [Oper.semAt_eq _ _ _ hnd] at hg
  have hfin : ∀ v, (b.atR a (.inRegion ops (i :: rest) :: k)).finish v = b.atR (a.put o.dst v) (.inRegion ops rest :: k) := by
    intro v; rw [Frame.finish_atR, ho]; rfl
  have go : ∀ {a' : Act} {w' : World}, next a' w' → Steps X.P (lone (b.atR a (.inRegion ops (i :: rest) :: k)) cs w) (lone (b.atR a' (.inRegion ops rest :: k)) cs w') →
      ∃ v w' fr O', X.R v w' O' ∧ Rel X.w0 X.O0 w' O' ∧ Steps X.P (lone (b.atR a (.inRegion ops (i :: rest) :: k)) cs w) (lone fr cs w') ∧ Fin X fr w' v := by
    intro a' w' hnx hst
    obtain ⟨v, w1, fr, O', hR, hrel, hst', hf⟩ := hn a' w' hnx b hb hk hro cs
    exact ⟨v, w1, fr, O', hR, hrel, hst.trans hst', hf⟩
  rcases h with h | ⟨l, f, tmps, assign, body, w', hrun, hround⟩
  · unfold Oper.wp at h
    generalize hrun : (execOp a.eval o).run X.P w = r at h
    unfold Oper.upon at h
    split at h
    · refine go h (.one (step_lone_go ?_))
      rw [hg, ← hfin]; simp [stepG.apply, hrun]
    · refine go h (.one (step_lone_go ?_))
      rw [hg, ← hfin]; simp [stepG.apply, hrun]
    · rename_i d w'
      refine go h (.one (step_lone_go ?_))
      have : ({ b.atR a (.inRegion ops (i :: rest) :: k) with defers := d :: a.defers } : Frame).finish undef = b.atR ({ a with defers := d :: a.defers }.put o.dst undef) (.inRegion ops rest :: k) := by
        have := Frame.finish_atR b { a with defers := d :: a.defers } ops i rest k undef
        rw [ho] at this; exact this
      rw [hg]; simp only [stepG.apply, Sem.runT_eq, hrun, GStep.bare_after]
      exact congrArg (fun fr => GStep.go { frame := fr, callers := cs, status := .running, dying := none } w') this
    · rename_i f args w'
      have henter : step X.P (lone (b.atR a (.inRegion ops (i :: rest) :: k)) cs w) = .next (lone (Frame.enter X.P f args .normal) (b.atR a (.inRegion ops (i :: rest) :: k) :: cs) w') :=
        step_lone_go (by rw [hg]; simp [stepG.apply, hrun, Frame.atR])
      obtain ⟨e, w'', fr, hR, hcomes, hfn, hleave⟩ := h (b.atR a (.inRegion ops (i :: rest) :: k) :: cs)
      cases e with
      | returned v =>
        refine go hR ((Steps.one henter).trans (Steps.trans hcomes (.one ?_)))
        rw [← hfin]; exact step_leave_returned hleave
      | panicked chain => exact absurd hR.1 (by simp)
      | outgrown => obtain ⟨_, _, hq⟩ := hR; exact absurd hq.1 (by simp)
    · rename_i row args w'
      have henter : step X.P (lone (b.atR a (.inRegion ops (i :: rest) :: k)) cs w) = .next (lone (Frame.ofRow X.P row args .normal) (b.atR a (.inRegion ops (i :: rest) :: k) :: cs) w') :=
        step_lone_go (by rw [hg]; simp [stepG.apply, hrun, Frame.atR])
      obtain ⟨v, w'', hR, hst⟩ := h (b.atR a (.inRegion ops (i :: rest) :: k)) cs
      rw [hfin] at hst
      exact go hR ((Steps.one henter).trans hst)
    · exact absurd h.1 (by simp)
    · exact h.elim
  · have henter : step X.P (lone (b.atR a (.inRegion ops (i :: rest) :: k)) cs w) = .next (lone (Frame.round l f tmps assign body .normal) (b.atR a (.inRegion ops (i :: rest) :: k) :: cs) w') :=
      step_lone_go (by rw [hg]; simp [stepG.apply, hrun, Frame.atR])
    obtain ⟨v, w'', hR, hst⟩ := hround (b.atR a (.inRegion ops (i :: rest) :: k)) cs
    rw [hfin] at hst
    exact go hR ((Steps.one henter).trans hst)
theorem ok_skip {i : Nat} {rest : List Nat} {o : Oper} {a : Act} {w : World} (ho : ops[i]? = some o) (hw : ¬ Region.wanted o (yielded ops a.tmps) = true) (h : Ok X (.inRegion ops rest :: k) (a.put o.dst undef) w) : Ok X (.inRegion ops (i :: rest) :: k) a w :=
  h.step fun b cs _ => .one (by
    have hs := stepR_op_skip (P := X.P) (b := b) (a := a) (k := k) (cs := cs) (w := w) (ops := ops) (i := i) (rest := rest) (by simp [ho]; simpa using hw)
    simp only [ho, Option.bind_some] at hs
    exact hs)
theorem ok_nil {a : Act} {w : World} (h : Ok X k a w) : Ok X (.inRegion ops [] :: k) a w := h.step fun _ _ _ => .one stepR_region_end
/-- The operations in the order of the text. -/
theorem ok_wpl (hnd : noDefer ops.toList = true) : ∀ (n i : Nat) (a : Act) (w : World), i + n = ops.size → wpl X.P ops (Qn X k) (ops.toList.drop i) a w → Ok X (.inRegion ops (List.range' i n) :: k) a w := by
  intro n
  induction n with
  | zero =>
    intro i a w hi h
    rw [List.drop_eq_nil_of_le (by simp; omega)] at h
    exact ok_nil h.2
  | succ n ih =>
    intro i a w hi h
    have hlt : i < ops.size := by omega
    have hd : ops.toList.drop i = ops[i] :: ops.toList.drop (i + 1) := by
      rw [List.drop_eq_getElem_cons (by simpa using hlt)]; rfl
    have ho : ops[i]? = some ops[i] := Array.getElem?_eq_getElem hlt
    rw [hd] at h
    rw [List.range'_succ]
    simp only [wpl] at h
    split at h
    · rename_i hw
      exact ok_oper ho (noDefer_get hnd (by rw [Array.getElem?_toList]; exact ho)) hw (fun a w h => ih (i + 1) a w (by omega) h) h
    · rename_i hw
      exact ok_skip ho hw (ih (i + 1) _ _ (by omega) h)
/-- The operations in a drawn order. -/
theorem ok_ops (hnd : noDefer ops.toList = true) : ∀ (l : List Nat) (a : Act) (w : World), wpOps X.P ops (Qn X k) l a w → Ok X (.inRegion ops l :: k) a w := by
  intro l
  induction l with
  | nil => intro a w h; exact ok_nil h.2
  | cons i rest ih =>
    intro a w h
    simp only [wpOps] at h
    cases ho : ops[i]? with
    | none =>
      simp only [ho] at h
      refine (ih a w h).step fun b cs _ => .one ?_
      have hs := stepR_op_skip (P := X.P) (b := b) (a := a) (k := k) (cs := cs) (w := w) (ops := ops) (i := i) (rest := rest) (by simp [ho])
      simp only [ho, Option.bind_none, Act.put] at hs
      exact hs
    | some o =>
      simp only [ho] at h
      split at h
      · rename_i hw
        rcases h with h | ⟨_, _, _, hq⟩
        · exact ok_oper ho (noDefer_get hnd (by rw [Array.getElem?_toList]; exact ho)) hw (fun a w h => ih a w h) (.inl h)
        · exact absurd hq.1 (by simp)
      · rename_i hw
        exact ok_skip ho hw (ih _ _ h)
end

/-- What is left is K. -/
def Kont (X : Cx) (env : Env) (L : List A) (K : Act → World → Prop) : Prop := ∀ a w O, Holds X env a → Stars L w O → Rel X.w0 X.O0 w O → K a w
abbrev Ops (X : Cx) (ops : Array Oper) (l : List Oper) (k : List Item) (env : Env) (L : List A) : Prop := Kont X env L (wpl X.P ops (Qn X k) l)
/-- One operation, and then K. -/
def StepK (X : Cx) (k : List Item) (o : Oper) (env : Env) (L : List A) (K : Act → World → Prop) : Prop := Kont X env L fun a w => o.wp X.P a w K (Qn X k)

section
variable {X : Cx} {ops : Array Oper} {rest : List Oper} {kk : List Item} {env env' : Env} {L L1 : List A}

theorem c_region {id : Nat} {l : List Oper} (h : Ops X l.toArray l kk env L) (hnd : noDefer l = true := by rfl) : Cfg X (.code (.region id l.toArray false) :: kk) env L := by
  intro a w O ha hs hr
  have := ok_wpl (X := X) (k := kk) (ops := l.toArray) (by simpa using hnd) l.length 0 a w (by simp) (by simpa using h a w O ha hs hr)
  refine Ok.step (fun b cs _ => .one stepR_region) ?_
  simpa [List.range_eq_range'] using this
theorem o_nil (h : Cfg X kk env L) : Ops X ops [] kk env L := fun a w O ha hs hr => ⟨rfl, h a w O ha hs hr⟩
theorem o_ent (hl : Ent L L1) (h : Ops X ops rest kk env L1) : Ops X ops rest kk env L := fun a w O ha hs hr => h a w O ha (hl w O hs) hr
theorem o_use (h : Ops X ops rest kk env' L1) (he : Env.Le env' env) (hl : Ent L L1) : Ops X ops rest kk env L := fun a w O ha hs hr => h a w O (ha.le he) (hl w O hs) hr

theorem o_step {d : Option Tmp} {op : Op} {T : TypeId} {pos : String} {af : Array Edge} (h : StepK X kk ⟨d, op, T, pos, af, none⟩ env L (wpl X.P ops (Qn X kk) rest)) : Ops X ops (⟨d, op, T, pos, af, none⟩ :: rest) kk env L := by
  intro a w O ha hs hr
  simp only [wpl, Region.wanted, if_true]
  exact .inl (h a w O ha hs hr)
/-- What every operation that tells a value comes to. -/
theorem s_main {K : Act → World → Prop} {γ : Type} {V : γ → Value} {pu : γ → Prop} {L' : γ → List A} {d : Nat} {op : Op} {T : TypeId} {pos : String} {af : Array Edge}
    (h : ∀ a w O, Holds X env a → Stars L w O → (∀ b, O b ≠ 0 → b < w.heap.size) →
      ∃ g w' O', (execOp a.eval ⟨some d, op, T, pos, af, none⟩).run X.P w = .ok (.value (V g)) w' ∧ pu g ∧ Stars (L' g) w' O' ∧ Rel w O w' O')
    (hd : d < X.fn.ntmps) (k : ∀ g, pu g → Kont X ((d, V g) :: env) (L' g) K) : StepK X kk ⟨some d, op, T, pos, af, none⟩ env L K := by
  intro a w O ha hs hr
  obtain ⟨g, w', O', hrun, hpu, hs', hrel⟩ := h a w O ha hs hr.dom
  simp only [Oper.wp, hrun, Oper.upon]
  exact k g hpu _ w' O' (ha.put hd _) hs' (hr.trans hrel)
/-- The same where nobody takes the value. -/
theorem s_main0 {K : Act → World → Prop} {γ : Type} {V : γ → Value} {pu : γ → Prop} {L' : γ → List A} {op : Op} {T : TypeId} {pos : String} {af : Array Edge}
    (h : ∀ a w O, Holds X env a → Stars L w O → (∀ b, O b ≠ 0 → b < w.heap.size) →
      ∃ g w' O', (execOp a.eval ⟨none, op, T, pos, af, none⟩).run X.P w = .ok (.value (V g)) w' ∧ pu g ∧ Stars (L' g) w' O' ∧ Rel w O w' O')
    (k : ∀ g, pu g → Kont X env (L' g) K) : StepK X kk ⟨none, op, T, pos, af, none⟩ env L K := by
  intro a w O ha hs hr
  obtain ⟨g, w', O', hrun, hpu, hs', hrel⟩ := h a w O ha hs hr.dom
  simp only [Oper.wp, hrun, Oper.upon]
  exact k g hpu _ w' O' (ha.put_none _) hs' (hr.trans hrel)
/-- The same at one that tells nothing. -/
theorem s_skip {K : Act → World → Prop} {γ : Type} {pu : γ → Prop} {L' : γ → List A} {op : Op} {T : TypeId} {pos : String} {af : Array Edge}
    (h : ∀ a w O, Holds X env a → Stars L w O → (∀ b, O b ≠ 0 → b < w.heap.size) →
      ∃ g w' O', (execOp a.eval ⟨none, op, T, pos, af, none⟩).run X.P w = .ok .skip w' ∧ pu g ∧ Stars (L' g) w' O' ∧ Rel w O w' O')
    (k : ∀ g, pu g → Kont X env (L' g) K) : StepK X kk ⟨none, op, T, pos, af, none⟩ env L K := by
  intro a w O ha hs hr
  obtain ⟨g, w', O', hrun, hpu, hs', hrel⟩ := h a w O ha hs hr.dom
  simp only [Oper.wp, hrun, Oper.upon]
  exact k g hpu _ w' O' (ha.put_none _) hs' (hr.trans hrel)
/-- An operation that turns no memory, and what it tells. -/
def Val (X : Cx) (env : Env) (L : List A) (op : Op) (T : TypeId) (v : Value) : Prop :=
  ∀ (dst : Option Tmp) (pos : String) (af : Array Edge) (g : Option (Nat × Bool)) (a : Act) (w : World) (O : Perm), Holds X env a → Stars L w O → (execOp a.eval ⟨dst, op, T, pos, af, g⟩).run X.P w = .ok (.value v) w
theorem o_val {v : Value} {d : Nat} {op : Op} {T : TypeId} {pos : String} {af : Array Edge} (h : Val X env L op T v)
    (hd : d < X.fn.ntmps) (k : Ops X ops rest kk ((d, v) :: env) L) : Ops X ops (⟨some d, op, T, pos, af, none⟩ :: rest) kk env L :=
  o_step <| s_main (γ := Unit) (V := fun _ => v) (pu := fun _ => True) (L' := fun _ => L) (fun a w O ha hs hdom => ⟨(), w, O, h _ _ _ _ a w O ha hs, trivial, hs, Rel.refl hdom⟩) hd (fun _ _ => k)
theorem o_val_none {v : Value} {op : Op} {T : TypeId} {pos : String} {af : Array Edge} (h : Val X env L op T v)
    (k : Ops X ops rest kk env L) : Ops X ops (⟨none, op, T, pos, af, none⟩ :: rest) kk env L := by
  intro a w O ha hs hr
  have := k a w O ha hs hr
  simp only [wpl, Region.wanted, if_true, Oper.wp, h none pos af none a w O ha hs, Oper.upon]
  exact .inl this
theorem Val.ent {v : Value} {op : Op} {T : TypeId} (h : Val X env L1 op T v) (he : Ent L L1) : Val X env L op T v := fun d p af g a w O ha hs => h d p af g a w O ha (he w O hs)

/-! ### guards -/
theorem o_guard {j s : Nat} {t want : Bool} {d : Option Nat} {op : Op} {T : TypeId} {pos : String} {af : Array Edge}
    (hj : (ops[j]?).bind (·.dst) = some s) (ht : env.look s = some (.bool t))
    (hy : t = want → Ops X ops (⟨d, op, T, pos, af, none⟩ :: rest) kk ((s, .bool want) :: env) L)
    (hn : t = !want → Ops X ops (⟨d, op, T, pos, af, some (j, want)⟩ :: rest) kk ((s, .bool (!want)) :: env) L) :
    Ops X ops (⟨d, op, T, pos, af, some (j, want)⟩ :: rest) kk env L := by
  intro a w O ha hs hr
  have hy1 : yielded ops a.tmps j = some t := by simp [yielded, hj, ha.look s _ ht]
  by_cases e : t = want
  · subst e
    have ha' : Holds X ((s, .bool t) :: env) a := ⟨ha.size, ha.defers, fun u v hu => by
      rcases Env.look_cons hu with ⟨rfl, rfl⟩ | ⟨_, hu⟩
      · exact ha.look _ _ ht
      · exact ha.look _ _ hu⟩
    have := hy rfl a w O ha' hs hr
    simp only [wpl, Region.wanted, hy1, beq_self_eq_true, if_true] at this ⊢
    exact this
  · have e' : t = !want := by cases t <;> cases want <;> simp_all
    refine hn e' a w O ⟨ha.size, ha.defers, fun u v hu => ?_⟩ hs hr
    rcases Env.look_cons hu with ⟨rfl, rfl⟩ | ⟨_, hu⟩
    · rw [← e']; exact ha.look _ _ ht
    · exact ha.look _ _ hu
theorem o_on {j s : Nat} {want : Bool} {d : Option Nat} {op : Op} {T : TypeId} {pos : String} {af : Array Edge}
    (hj : (ops[j]?).bind (·.dst) = some s) (ht : env.look s = some (.bool want))
    (h : Ops X ops (⟨d, op, T, pos, af, none⟩ :: rest) kk env L) : Ops X ops (⟨d, op, T, pos, af, some (j, want)⟩ :: rest) kk env L := by
  intro a w O ha hs hr
  have hy1 : yielded ops a.tmps j = some want := by simp [yielded, hj, ha.look s _ ht]
  have := h a w O ha hs hr
  simp only [wpl, Region.wanted, hy1, beq_self_eq_true, if_true] at this ⊢
  exact this
theorem o_off {j s : Nat} {t want : Bool} {d : Nat} {op : Op} {T : TypeId} {pos : String} {af : Array Edge}
    (hj : (ops[j]?).bind (·.dst) = some s) (ht : env.look s = some (.bool t)) (hne : t = !want) (hd : d < X.fn.ntmps)
    (h : Ops X ops rest kk ((d, undef) :: env) L) : Ops X ops (⟨some d, op, T, pos, af, some (j, want)⟩ :: rest) kk env L := by
  intro a w O ha hs hr
  have hy1 : yielded ops a.tmps j = some t := by simp [yielded, hj, ha.look s _ ht]
  have hw : (some t == some want) = false := by subst hne; cases want <;> rfl
  simp only [wpl, Region.wanted, hy1, hw, Bool.false_eq_true, if_false]
  exact h _ w O (ha.put hd _) hs hr
theorem o_off_none {j s : Nat} {t want : Bool} {op : Op} {T : TypeId} {pos : String} {af : Array Edge}
    (hj : (ops[j]?).bind (·.dst) = some s) (ht : env.look s = some (.bool t)) (hne : t = !want)
    (h : Ops X ops rest kk env L) : Ops X ops (⟨none, op, T, pos, af, some (j, want)⟩ :: rest) kk env L := by
  intro a w O ha hs hr
  have hy1 : yielded ops a.tmps j = some t := by simp [yielded, hj, ha.look s _ ht]
  have hw : (some t == some want) = false := by subst hne; cases want <;> rfl
  simp only [wpl, Region.wanted, hy1, hw, Bool.false_eq_true, if_false]
  exact h _ w O (ha.put_none _) hs hr

/-! ### values -/
section
variable {T : TypeId}
theorem v_move {x : Operand} {v : Value} (hx : env.eval x = some v) : Val X env L (.move x) T (v) :=
  fun _ _ _ _ a w O ha _ => by simp [execOp, ha.eval hx]
theorem v_assign {x : Operand} {v : Value} (hx : env.eval x = some v) : Val X env L (.assign x) T (v) :=
  fun _ _ _ _ a w O ha _ => by simp [execOp, ha.eval hx]
theorem v_pick_t {c x y : Operand} {v : Value} (hc : env.eval c = some (.bool true)) (hx : env.eval x = some v) : Val X env L (.pick c x y) T (v) :=
  fun _ _ _ _ a w O ha _ => by simp [execOp, ha.eval hc, ha.eval hx, asBool]
theorem v_pick_f {c x y : Operand} {v : Value} (hc : env.eval c = some (.bool false)) (hy : env.eval y = some v) : Val X env L (.pick c x y) T (v) :=
  fun _ _ _ _ a w O ha _ => by simp [execOp, ha.eval hc, ha.eval hy, asBool]
theorem v_pick {c x y : Operand} {t : Bool} {u v : Value} (hc : env.eval c = some (.bool t)) (hx : env.eval x = some u) (hy : env.eval y = some v) : Val X env L (.pick c x y) T (if t then u else v) :=
  fun _ _ _ _ a w O ha _ => by cases t <;> simp [execOp, ha.eval hc, ha.eval hx, ha.eval hy, asBool]
theorem v_extract {x : Operand} {vs : Array Value} {i : Nat} {v : Value} (hx : env.eval x = some (.tuple vs)) (hv : vs[i]? = some v) : Val X env L (.extract x i) T (v) :=
  fun _ _ _ _ a w O ha _ => by simp [execOp, ha.eval hx, Instr.extract, hv]
theorem v_not {t : Bool} {xT : TypeId} {x : Operand} (hx : env.eval x = some (.bool t)) : Val X env L (.unOp .not xT x) T (.bool (!t)) :=
  fun _ _ _ _ a w O ha _ => by simp [execOp, ha.eval hx, Op.unary]

/-! ### whole numbers -/
variable {x y : Operand} {xT yT : TypeId} {m n : Int}
theorem v_add {K : IntKind} (hx : env.eval x = some (.int K m)) (hy : env.eval y = some (.int K n)) : Val X env L (.binOp .add xT x y yT) T (.int K (K.wrap (m + n))) :=
  fun _ _ _ _ a w O ha _ => by simp [execOp, ha.eval hx, ha.eval hy, eqGuard, binOp, Op.intArith]
theorem v_sub {K : IntKind} (hx : env.eval x = some (.int K m)) (hy : env.eval y = some (.int K n)) : Val X env L (.binOp .sub xT x y yT) T (.int K (K.wrap (m - n))) :=
  fun _ _ _ _ a w O ha _ => by simp [execOp, ha.eval hx, ha.eval hy, eqGuard, binOp, Op.intArith]
theorem v_mul {K : IntKind} (hx : env.eval x = some (.int K m)) (hy : env.eval y = some (.int K n)) : Val X env L (.binOp .mul xT x y yT) T (.int K (K.wrap (m * n))) :=
  fun _ _ _ _ a w O ha _ => by simp [execOp, ha.eval hx, ha.eval hy, eqGuard, binOp, Op.intArith]
/-- Sums that fit. -/
theorem v_add64 (hx : env.eval x = some (.int .i64 m)) (hy : env.eval y = some (.int .i64 n)) (hb : -9223372036854775808 ≤ m + n ∧ m + n ≤ 9223372036854775807) : Val X env L (.binOp .add xT x y yT) T (.int .i64 (m + n)) := by
  have := v_add (X := X) (L := L) (T := T) (xT := xT) (yT := yT) hx hy; rwa [IntWalk.i64_in _ hb] at this
theorem v_sub64 (hx : env.eval x = some (.int .i64 m)) (hy : env.eval y = some (.int .i64 n)) (hb : -9223372036854775808 ≤ m - n ∧ m - n ≤ 9223372036854775807) : Val X env L (.binOp .sub xT x y yT) T (.int .i64 (m - n)) := by
  have := v_sub (X := X) (L := L) (T := T) (xT := xT) (yT := yT) hx hy; rwa [IntWalk.i64_in _ hb] at this
theorem v_mul64 (hx : env.eval x = some (.int .i64 m)) (hy : env.eval y = some (.int .i64 n)) (hb : -9223372036854775808 ≤ m * n ∧ m * n ≤ 9223372036854775807) : Val X env L (.binOp .mul xT x y yT) T (.int .i64 (m * n)) := by
  have := v_mul (X := X) (L := L) (T := T) (xT := xT) (yT := yT) hx hy; rwa [IntWalk.i64_in _ hb] at this
theorem v_lt {K : IntKind} (hx : env.eval x = some (.int K m)) (hy : env.eval y = some (.int K n)) : Val X env L (.binOp .lss xT x y yT) T (.bool (decide (m < n))) :=
  fun _ _ _ _ a w O ha _ => by simp [execOp, ha.eval hx, ha.eval hy, eqGuard, binOp, Op.intCmp]
theorem v_le {K : IntKind} (hx : env.eval x = some (.int K m)) (hy : env.eval y = some (.int K n)) : Val X env L (.binOp .leq xT x y yT) T (.bool (decide (m ≤ n))) :=
  fun _ _ _ _ a w O ha _ => by simp [execOp, ha.eval hx, ha.eval hy, eqGuard, binOp, Op.intCmp]
theorem v_gt {K : IntKind} (hx : env.eval x = some (.int K m)) (hy : env.eval y = some (.int K n)) : Val X env L (.binOp .gtr xT x y yT) T (.bool (decide (n < m))) :=
  fun _ _ _ _ a w O ha _ => by simp [execOp, ha.eval hx, ha.eval hy, eqGuard, binOp, Op.intCmp]
theorem v_ge {K : IntKind} (hx : env.eval x = some (.int K m)) (hy : env.eval y = some (.int K n)) : Val X env L (.binOp .geq xT x y yT) T (.bool (decide (n ≤ m))) :=
  fun _ _ _ _ a w O ha _ => by simp [execOp, ha.eval hx, ha.eval hy, eqGuard, binOp, Op.intCmp]
theorem beq_dec {α : Type} [BEq α] [LawfulBEq α] [DecidableEq α] (a b : α) : (a == b) = decide (a = b) := by
  by_cases h : a = b <;> simp [h]
theorem v_eq {K : IntKind} (hx : env.eval x = some (.int K m)) (hy : env.eval y = some (.int K n)) : Val X env L (.binOp .eql xT x y yT) T (.bool (decide (m = n))) :=
  fun _ _ _ _ a w O ha _ => by simp [execOp, ha.eval hx, ha.eval hy, eqGuard, binOp, Op.intCmp, beq_dec]
theorem v_ne {K : IntKind} (hx : env.eval x = some (.int K m)) (hy : env.eval y = some (.int K n)) : Val X env L (.binOp .neq xT x y yT) T (.bool (decide (m ≠ n))) :=
  fun _ _ _ _ a w O ha _ => by simp [execOp, ha.eval hx, ha.eval hy, eqGuard, binOp, Op.intCmp, bne, beq_dec]
theorem v_quo {K : IntKind} (hx : env.eval x = some (.int K m)) (hy : env.eval y = some (.int K n)) (h0 : n ≠ 0) : Val X env L (.binOp .quo xT x y yT) T (.int K (K.wrap (m.tdiv n))) :=
  fun _ _ _ _ a w O ha _ => by simp [execOp, ha.eval hx, ha.eval hy, eqGuard, binOp, Op.intDiv, h0]
theorem v_rem {K : IntKind} (hx : env.eval x = some (.int K m)) (hy : env.eval y = some (.int K n)) (h0 : n ≠ 0) : Val X env L (.binOp .rem xT x y yT) T (.int K (m.tmod n)) :=
  fun _ _ _ _ a w O ha _ => by simp [execOp, ha.eval hx, ha.eval hy, eqGuard, binOp, Op.intDiv, h0]

/-! ### bools, strings -/
theorem run_equal_bool {P : Program} {t : TypeId} {s u : Bool} {w : World} (hu : P.underlying t = some .bool) : (Op.equal t (.bool s) (.bool u)).run P w = .ok (s == u) w := by
  show (Op.equalIn (9999 + 1) t (.bool s) (.bool u)).run P w = _
  rw [Op.equalIn]
  simp only [Sem.run_bind, run_underlying hu, Result.andThen_ok]
  rfl
theorem run_eqb {P : Program} {op : BinOp} {a : Act} {s u : Bool} {w : World} {d : Option Tmp} {pos : String} {af : Array Edge} {g : Option (Nat × Bool)} (hx : a.eval x = .bool s) (hy : a.eval y = .bool u) (_ : True = True) (hu : P.underlying xT = some .bool)
    (hop : op = .eql ∨ op = .neq := by first | exact .inl rfl | exact .inr rfl) :
    (execOp a.eval ⟨d, .binOp op xT x y yT, T, pos, af, g⟩).run P w = .ok (.value (.bool (if op = .eql then decide (s = u) else decide (s ≠ u)))) w := by
  have he := run_equal_bool (s := s) (u := u) (w := w) hu
  rcases hop with rfl | rfl
  · simp only [execOp, hx, hy]
    simp only [show binOp .eql xT (.bool s) (.bool u) = (do pure (.bool (← Op.equal xT (.bool s) (.bool u)))) from rfl, show eqGuard .eql xT x y (.bool s) (.bool u) = pure () from rfl]
    simp [he, beq_dec]
  · simp only [execOp, hx, hy]
    simp only [show binOp .neq xT (.bool s) (.bool u) = (do pure (.bool (!(← Op.equal xT (.bool s) (.bool u))))) from rfl, show eqGuard .neq xT x y (.bool s) (.bool u) = pure () from rfl]
    simp [he, beq_dec]
theorem v_beq {s t : Bool} (hu : X.P.underlying xT = some .bool) (hx : env.eval x = some (.bool s)) (hy : env.eval y = some (.bool t)) : Val X env L (.binOp .eql xT x y yT) T (.bool (decide (s = t))) :=
  fun _ _ _ _ a w O ha _ => by rw [run_eqb (op := .eql) (ha.eval hx) (ha.eval hy) rfl hu]; simp
theorem v_bne {s t : Bool} (hu : X.P.underlying xT = some .bool) (hx : env.eval x = some (.bool s)) (hy : env.eval y = some (.bool t)) : Val X env L (.binOp .neq xT x y yT) T (.bool (decide (s ≠ t))) :=
  fun _ _ _ _ a w O ha _ => by rw [run_eqb (op := .neq) (ha.eval hx) (ha.eval hy) rfl hu]; simp
theorem str_beq (a b : ByteArray) : (a.toList == b.toList) = decide (a = b) := by
  rw [beq_dec, ByteArray.toList_eq, ByteArray.toList_eq]
  congr 1
  refine propext ⟨fun h => ?_, fun h => by rw [h]⟩
  cases a; cases b; simp only at h; congr 1; exact Array.ext' h
theorem v_seq {s t : ByteArray} (hx : env.eval x = some (.string s)) (hy : env.eval y = some (.string t)) : Val X env L (.binOp .eql xT x y yT) T (.bool (decide (s = t))) :=
  fun _ _ _ _ a w O ha _ => by simp only [execOp, ha.eval hx, ha.eval hy, binOp, Op.stringOp, str_beq]; simp [eqGuard]
theorem v_sne {s t : ByteArray} (hx : env.eval x = some (.string s)) (hy : env.eval y = some (.string t)) : Val X env L (.binOp .neq xT x y yT) T (.bool (decide (s ≠ t))) :=
  fun _ _ _ _ a w O ha _ => by simp only [execOp, ha.eval hx, ha.eval hy, binOp, Op.stringOp, str_beq]; simp [eqGuard]
theorem v_slt {s t : ByteArray} (hx : env.eval x = some (.string s)) (hy : env.eval y = some (.string t)) : Val X env L (.binOp .lss xT x y yT) T (.bool (Op.bytesLess s.data.toList t.data.toList)) :=
  fun _ _ _ _ a w O ha _ => by simp only [execOp, ha.eval hx, ha.eval hy, binOp, Op.stringOp, ByteArray.toList_eq]; simp [eqGuard]
theorem v_sgt {s t : ByteArray} (hx : env.eval x = some (.string s)) (hy : env.eval y = some (.string t)) : Val X env L (.binOp .gtr xT x y yT) T (.bool (!(Op.bytesLess s.data.toList t.data.toList || decide (s = t)))) :=
  fun _ _ _ _ a w O ha _ => by simp only [execOp, ha.eval hx, ha.eval hy, binOp, Op.stringOp, str_beq]; simp [eqGuard, ByteArray.toList_eq]
theorem v_sle {s t : ByteArray} (hx : env.eval x = some (.string s)) (hy : env.eval y = some (.string t)) : Val X env L (.binOp .leq xT x y yT) T (.bool (Op.bytesLess s.data.toList t.data.toList || decide (s = t))) :=
  fun _ _ _ _ a w O ha _ => by simp only [execOp, ha.eval hx, ha.eval hy, binOp, Op.stringOp, str_beq]; simp [eqGuard, ByteArray.toList_eq]
theorem v_cat {s t : ByteArray} (hx : env.eval x = some (.string s)) (hy : env.eval y = some (.string t)) (hb : s.size + t.size ≤ 9223372036854775807) : Val X env L (.binOp .add xT x y yT) T (.string (s ++ t)) :=
  fun _ _ _ _ a w O ha _ => by
    have hm : ¬ (IntKind.i64.max < ((s.size + t.size : Nat) : Int)) := by simp [IntKind.max, IntKind.bits, IntKind.signed]; omega
    simp only [execOp, ha.eval hx, ha.eval hy, binOp, Op.stringOp, gt_iff_lt, if_neg hm]; simp [eqGuard]
theorem v_len_str {s : ByteArray} {t : TypeId} (hu : X.P.underlying t = some .string) (hx : env.eval x = some (.string s)) : Val X env L (.call ⟨.builtin .len, #[x], #[t]⟩) T (.int .i64 s.size) :=
  fun _ _ _ _ a w O ha _ => by simp [execOp, resolve, invoke, builtin, Builtin.len_, ha.eval hx, run_underlying hu, goInt]
/-- A byte of a string. -/
def sAt (s : ByteArray) (i : Int) : Int := (s.data.toList.getD i.toNat 0).toNat
theorem v_index_str {s : ByteArray} {K : IntKind} (hu : X.P.underlying xT = some .string) (hx : env.eval x = some (.string s)) (hy : env.eval y = some (.int K n)) (hb : 0 ≤ n ∧ n < s.size) : Val X env L (.index xT x y) T (.int .u8 (sAt s n)) :=
  fun _ _ _ _ a w O ha _ => by
    have h1 : n.toNat < s.size := by omega
    have h2 : s[n.toNat]? = some s[n.toNat] := by simp [h1]
    have h3 : sAt s n = s[n.toNat].toNat := by
      simp only [sAt, List.getD_eq_getElem?_getD]
      rw [List.getElem?_eq_getElem (by simpa using h1)]; rfl
    simp [execOp, ha.eval hx, ha.eval hy, Instr.index, asIntOf, run_underlying hu, hb.1, h2, h3]
theorem v_sge {s t : ByteArray} (hx : env.eval x = some (.string s)) (hy : env.eval y = some (.string t)) : Val X env L (.binOp .geq xT x y yT) T (.bool (!Op.bytesLess s.data.toList t.data.toList)) :=
  fun _ _ _ _ a w O ha _ => by simp only [execOp, ha.eval hx, ha.eval hy, binOp, Op.stringOp, ByteArray.toList_eq]; simp [eqGuard]
theorem v_neg64 (hx : env.eval x = some (.int .i64 m)) (hb : -9223372036854775808 ≤ -m ∧ -m ≤ 9223372036854775807) : Val X env L (.unOp .neg xT x) T (.int .i64 (-m)) :=
  fun _ _ _ _ a w O ha _ => by simp [execOp, ha.eval hx, Op.unary, Op.intArith, IntWalk.i64_in _ hb]
theorem v_min (hx : env.eval x = some (.int .i64 m)) (hy : env.eval y = some (.int .i64 n)) {ts : Array TypeId} : Val X env L (.call ⟨.builtin .min, #[x, y], ts⟩) T (.int .i64 (min m n)) :=
  fun _ _ _ _ a w O ha _ => by
    have h : (if n < m then n else m) = min m n := by rw [Int.min_def]; split <;> split <;> omega
    simp [execOp, resolve, invoke, builtin, Builtin.min_, ha.eval hx, ha.eval hy, Builtin.min2, h]
theorem v_max (hx : env.eval x = some (.int .i64 m)) (hy : env.eval y = some (.int .i64 n)) {ts : Array TypeId} : Val X env L (.call ⟨.builtin .max, #[x, y], ts⟩) T (.int .i64 (max m n)) :=
  fun _ _ _ _ a w O ha _ => by
    have h : (if m < n then n else m) = max m n := by rw [Int.max_def]; split <;> split <;> omega
    simp [execOp, resolve, invoke, builtin, Builtin.max_, ha.eval hx, ha.eval hy, Builtin.max2, h]
/-! cuts of strings -/
theorem v_cut {s : ByteArray} {K K' : IntKind} {lo hi : Operand} (hu : X.P.underlying xT = some .string) (hx : env.eval x = some (.string s)) (hl : env.eval lo = some (.int K m)) (hh : env.eval hi = some (.int K' n)) (hb : 0 ≤ m ∧ m ≤ n ∧ n ≤ s.size) :
    Val X env L (.slice xT x (some lo) (some hi) none) T (.string (s.extract m.toNat n.toNat)) :=
  fun _ _ _ _ a w O ha _ => by
    have h1 := run_sliceBound (P := X.P) (w := w) K' n s.size .sliceAlen (by omega) hb.2.2
    have h2 := run_sliceBound (P := X.P) (w := w) K m n.toNat .sliceB hb.1 (by omega)
    simp [execOp, ha.eval hx, ha.eval hl, ha.eval hh, Instr.sliceAt, run_underlying hu, Instr.slice, Instr.sliceBounds, h1, h2]
theorem v_cut_to {s : ByteArray} {K' : IntKind} {hi : Operand} (hu : X.P.underlying xT = some .string) (hx : env.eval x = some (.string s)) (hh : env.eval hi = some (.int K' n)) (hb : 0 ≤ n ∧ n ≤ s.size) :
    Val X env L (.slice xT x none (some hi) none) T (.string (s.extract 0 n.toNat)) :=
  fun _ _ _ _ a w O ha _ => by
    have h1 := run_sliceBound (P := X.P) (w := w) K' n s.size .sliceAlen hb.1 hb.2
    simp [execOp, ha.eval hx, ha.eval hh, Instr.sliceAt, run_underlying hu, Instr.slice, Instr.sliceBounds, h1]
theorem v_cut_from {s : ByteArray} {K : IntKind} {lo : Operand} (hu : X.P.underlying xT = some .string) (hx : env.eval x = some (.string s)) (hl : env.eval lo = some (.int K m)) (hb : 0 ≤ m ∧ m ≤ s.size) :
    Val X env L (.slice xT x (some lo) none none) T (.string (s.extract m.toNat s.size)) :=
  fun _ _ _ _ a w O ha _ => by
    have h2 := run_sliceBound (P := X.P) (w := w) K m s.size .sliceB hb.1 hb.2
    simp [execOp, ha.eval hx, ha.eval hl, Instr.sliceAt, run_underlying hu, Instr.slice, Instr.sliceBounds, h2]
theorem v_conv_int {sT dT : TypeId} {dsc : TypeDesc} {K K' : IntKind} (hs : X.P.underlying sT = some dsc) (hu : X.P.underlying dT = some (.int K')) (hx : env.eval x = some (.int K m)) : Val X env L (.convert sT dT x) T (.int K' (K'.wrap m)) :=
  fun _ _ _ _ a w O ha _ => by simp [execOp, ha.eval hx, convert, run_underlying hs, run_underlying hu, Conv.intToInt]
theorem v_conv_str {sT dT : TypeId} {s : ByteArray} (hs : X.P.underlying sT = some .string) (hu : X.P.underlying dT = some .string) (hx : env.eval x = some (.string s)) : Val X env L (.convert sT dT x) T (.string s) :=
  fun _ _ _ _ a w O ha _ => by simp [execOp, ha.eval hx, convert, run_underlying hs, run_underlying hu]
end
end
end Go.SL

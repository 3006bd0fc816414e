/- The loop over a function; the way out of a function that has begun one. -/
import Derived.Test.YtnamhhmfnokfiaaQR
namespace Go.SL
open Go

theorem Ent.perm {L L' : List A} (h : L.Perm L') : Ent L L' := by
  induction h with
  | nil => exact Ent.refl _
  | cons a _ ih => exact Ent.cons ih
  | swap a b l => exact fun w O hs => (Pick.there Pick.here : Pick a (b :: a :: l) (b :: l)) w O hs
  | trans _ _ h1 h2 => exact fun w O hs => h2 w O (h1 w O hs)
theorem stars_join {L1 L2 : List A} {w : World} {O : Perm} (h : Stars (AllA L1 :: L2) w O) : Stars (L1 ++ L2) w O := by
  obtain ⟨O1, O2, s, h1, h2⟩ := h
  exact Stars.app s h1 h2

/-- An iterator: it hands on what nx lets come behind what has come, until fin, or until yield says no. -/
def Iter {α : Type} (P : Program) (g : FuncId) (caps : List Value) (Lg : List A) (nx : List α → α → Prop) (fin : List α → Prop) (enc : α → List Value) : Prop :=
  ∀ (l : Nat) (I : List α → List A) (Z : List A), (∀ pre x, nx pre x → Yield P l (enc x) (I pre) (I (pre ++ [x])) Z) →
    Con P g (.func (.yield l) #[] #[] :: caps) (Lg ++ I []) (γ := Option (List α)) (fun _ => .tuple #[]) (fun o => ∀ pre, o = some pre → fin pre) (fun o => Lg ++ (match o with | some pre => I pre | none => Z))

/-- The same at one invariant of the loop's; R: what is handed on with each. -/
def IterAt {α : Type} (P : Program) (g : FuncId) (caps : List Value) (Lg : List A) (nx : List α → α → Prop) (fin : List α → Prop) (enc : α → List Value) (R : α → List A) (I : List α → List A) : Prop :=
  ∀ (l : Nat) (o : A) (Z : List A), (∀ pre x, nx pre x → Yield P l (enc x) (o :: (R x ++ I pre)) (o :: I (pre ++ [x])) Z) →
    Con P g (.func (.yield l) #[] #[] :: caps) (Lg ++ (o :: I [])) (γ := Option (List α)) (fun _ => .tuple #[]) (fun q => ∀ pre, q = some pre → fin pre) (fun q => Lg ++ (match q with | some pre => o :: I pre | none => Z))
theorem Iter.at {α : Type} {P : Program} {g : FuncId} {caps : List Value} {Lg : List A} {nx : List α → α → Prop} {fin : List α → Prop} {enc : α → List Value} (it : Iter P g caps Lg nx fin enc) (I : List α → List A) : IterAt P g caps Lg nx fin enc (fun _ => []) I :=
  fun l o Z hy => it l (fun pre => o :: I pre) Z hy

abbrev markOf (D : Nat) : Deferred := { target := .collected D, args := #[] }
section
variable {X : Cx} {k : List Item} {env : Env} {L Lr : List A}
theorem c_rangeFuncAt {α : Type} {g : FuncId} {caps : List Value} {Lg : List A} {nx : List α → α → Prop} {fin : List α → Prop} {enc : α → List Value} {R : α → List A} {f : Operand} {ps : List Tmp} {assign body : Code} (I : List α → List A) (Z : Code → List A) (Lr : List A)
    (it : IterAt X.P g caps Lg nx fin enc R I) (hc : Callable X.P g) (hf : env.eval f = some (.func (.func g) #[] caps.toArray)) (hp : Ent L ((Lg ++ I []) ++ Lr))
    (hpar0 : (ps.all fun t => Nat.blt t X.fn.ntmps) = true) (hlen : ∀ x, (enc x).length = ps.length)
    (bd : ∀ (l : Nat) (r : Loop) pre x w0 O0, r.state = .ready → nx pre x → Cfg { P := X.P, f := X.f, fn := X.fn, R := RoundR l r (I (pre ++ [x])) Z, w0 := w0, O0 := O0, rd := some l } [.code assign, .beginRound, .code body] (putAll ps (enc x) env) (ObjA l (.loop r) :: (R x ++ I pre)))
    (done : ∀ D pre, fin pre → Cfg { X with defs := markOf D :: X.defs } k env (ObjA D (.deferred (some [])) :: (Lg ++ I pre ++ Lr)))
    (left : ∀ D j, Cfg { X with defs := markOf D :: X.defs } (.code j :: k) env (ObjA D (.deferred (some [])) :: (Lg ++ Z j ++ Lr)))
    (hrd : X.rd = none := by rfl) : Cfg X (.code (.rangeFunc f ps.toArray assign body) :: k) env L := by
  intro a w O ha hs hrel b hb hk hro cs
  have hpar : ∀ t ∈ ps, t < X.fn.ntmps := fun t ht => by
    have := List.all_eq_true.1 hpar0 t ht
    simpa [Nat.blt_eq] using this
  have henter := run_enterLoop_outer (P := X.P) (w := w) b.fn a.tmps ps.toArray assign body
  rw [← hro.trans hrd] at henter
  generalize hr0 : (Loop.mk .ready none b.fn a.tmps ps.toArray assign body w.heap.size) = r0 at henter
  have hr0s : r0.state = .ready := by rw [← hr0]
  have hr0p : ({ r0 with state := .ready, pending := none } : Loop) = r0 := by rw [← hr0]
  let l := w.heap.size + 1
  let w1 := (w.alloc (.deferred (some []))).alloc (.loop r0)
  have hl1 : (w.alloc (.deferred (some []))).heap.size = w.heap.size + 1 := by show (w.heap.push _).size = _; simp
  -- the resources behind the two new blocks
  have hs0 : Stars ((Lg ++ I []) ++ Lr) w O := hp w O hs
  have ds1 := stars_alloc (a := ObjA w.heap.size (.deferred (some []))) (.deferred (some [])) hrel.dom hs0 ⟨by simp, heap_alloc w _⟩
  have rl1 := rel_alloc (.deferred (some [])) hrel.dom
  have ds2 := stars_alloc (a := ObjA (w.heap.size + 1) (.loop r0)) (.loop r0) rl1.dom ds1 ⟨by rw [hl1]; simp, by have := heap_alloc (w.alloc (.deferred (some []))) (.loop r0); rwa [hl1] at this⟩
  have rl2 := rl1.trans (rel_alloc (.loop r0) rl1.dom)
  have ds3 : Stars ((Lg ++ (ObjA l (.loop r0) :: I [])) ++ (ObjA w.heap.size (.deferred (some [])) :: Lr)) w1 _ := Ent.perm (by
    refine List.Perm.trans ?_ (List.Perm.append_right _ (List.perm_middle.symm))
    refine List.Perm.trans ?_ (List.Perm.cons _ List.perm_middle.symm)
    exact List.Perm.refl _) _ _ ds2
  obtain ⟨O1, O2, sp3, hg1, hg2⟩ := stars_split ds3
  -- the iterator
  have hy : ∀ pre x, nx pre x → Yield X.P l (enc x) (ObjA l (.loop r0) :: (R x ++ I pre)) (ObjA l (.loop r0) :: I (pre ++ [x])) (Left l r0 Z) := by
    intro pre x hx
    have := yield_of_round (P := X.P) (f := X.f) (fn := X.fn) (l := l) (r := r0) (env := env) (args := enc x) (I := R x ++ I pre) (I1 := I (pre ++ [x])) (Z := Z) hr0s (by rw [← hr0]; exact hb) (by rw [← hr0, hlen]; simp) (by rw [← hr0]; simpa using hpar) (by rw [← hr0]; exact ha.size) (by rw [← hr0]; exact ha.look)
      (fun w0 O0 => by
        have hb' := bd l r0 pre x w0 O0 hr0s hx
        have e1 : r0.assign = assign := by rw [← hr0]
        have e2 : r0.body = body := by rw [← hr0]
        have e3 : r0.params.toList = ps := by rw [← hr0]
        rw [e1, e2, e3]; exact hb')
    rwa [hr0p] at this
  have spec := it l (ObjA l (.loop r0)) (Left l r0 Z) hy
  obtain ⟨e, w2, fr, ⟨o, O', he, hpu, hst, hrel'⟩, hcomes, hfn, hleave⟩ := spec w1 O1 hg1 (fun b hb => rl2.dom b (by have := sp3.l b; omega)) (b.atR { a with defers := markOf w.heap.size :: a.defers } (.inRangeFunc l :: k) :: cs)
  subst he
  obtain ⟨s', h2', hrel2⟩ := frame rl2.dom sp3 hg2 hrel'
  -- the machine's steps
  have hres : (resolve a.eval (rangeCall f l) 0).run X.P w1 = .ok { target := .fn (.func g) caps.toArray, args := #[.func (.yield l) #[] #[]] } w1 := by
    have h2 : a.eval (.const (.func (.yield l) #[] #[])) = .func (.yield l) #[] #[] := rfl
    simp [rangeCall, resolve, ha.eval hf, Deferred.ofValue, h2]
  have hinv : (invoke (.fn (.func g) caps.toArray) #[.func (.yield l) #[] #[]]).run X.P w1 = .ok (.enter g (.func (.yield l) #[] #[] :: caps).toArray) w1 := by
    have := hc (.func (.yield l) #[] #[] :: caps).toArray w1
    simpa [invoke] using this
  have st1 : step X.P (lone (b.atR a (.code (.rangeFunc f ps.toArray assign body) :: k)) cs w) = .next (lone (Frame.enter X.P g (.func (.yield l) #[] #[] :: caps).toArray .normal) (b.atR { a with defers := markOf w.heap.size :: a.defers } (.inRangeFunc l :: k) :: cs) w1) :=
    stepR_rangeFunc (b := b) (mark := [markOf w.heap.size]) henter hres hinv
  have st2 : step X.P (lone fr (b.atR { a with defers := markOf w.heap.size :: a.defers } (.inRangeFunc l :: k) :: cs) w2) = .next (lone (b.atR { a with defers := markOf w.heap.size :: a.defers } (.endRangeFunc l :: k)) cs w2) := by
    rw [← finish_atR_inRangeFunc]; exact step_leave_returned hleave
  have fin2 : ∀ (r : Loop) (jump : Option Code) (LL : List A), r.state ≠ .busy → r.pending = jump → Stars (ObjA l (.loop r) :: LL) w2 (fun b => max (O' b) (O2 b)) →
      Cfg { X with defs := markOf w.heap.size :: X.defs } ((jump.map Item.code).toList ++ k) env LL → ∃ v w' fr O', X.R v w' O' ∧ Rel X.w0 X.O0 w' O' ∧ Steps X.P (lone (b.atR a (.code (.rangeFunc f ps.toArray assign body) :: k)) cs w) (lone fr cs w') ∧ Fin X fr w' v := by
    intro r jump LL hbusy hpend hsl hcfg
    subst hpend
    have hend := run_endLoop (P := X.P) (obj_get hsl) hbusy
    obtain ⟨g1, g2⟩ := obj_put (o' := .loop { r with state := .exhausted }) hsl hrel2.dom
    have st3 := stepR_endRangeFunc (b := b) (a := { a with defers := markOf w.heap.size :: a.defers }) (k := k) (cs := cs) hend
    have ha' : Holds { X with defs := markOf w.heap.size :: X.defs } env { a with defers := markOf w.heap.size :: a.defers } := ⟨ha.size, by rw [ha.defers], ha.look⟩
    obtain ⟨v, w', fr', O'', hR, hre, hsteps, hf'⟩ := hcfg _ _ _ ha' (Ent.drop _ _ g1) ((hrel.trans rl2).trans (hrel2.trans g2)) b hb hk hro cs
    refine ⟨v, w', fr', O'', hR, hre, ?_, hf'⟩
    exact (Steps.one st1).trans ((Steps.trans hcomes (.one st2)).trans ((Steps.one st3).trans hsteps))
  have hall := Stars.app s' hst h2'
  cases o with
  | some pre =>
    refine fin2 r0 none _ (by rw [hr0s]; simp) (by rw [← hr0]) (Ent.perm ?_ _ _ hall) (done _ pre (hpu pre rfl))
    simp only [List.append_assoc, List.cons_append]
    refine List.Perm.trans List.perm_middle (List.Perm.cons _ ?_)
    rw [← List.append_assoc, ← List.append_assoc]
    exact List.perm_middle
  | none =>
    have h3 : Stars ((ExA fun j : Code => AllA (ObjA l (.loop { r0 with state := .done, pending := some j }) :: Z j)) :: (Lg ++ (ObjA w.heap.size (.deferred (some [])) :: Lr))) w2 (fun b => max (O' b) (O2 b)) := Ent.perm (by
      unfold Left
      simp only [List.append_assoc, List.cons_append, List.nil_append]
      exact List.perm_middle) _ _ hall
    obtain ⟨Q1, Q2, sq, ⟨j, hj⟩, hq⟩ := h3
    have h4 : Stars (AllA (ObjA l (.loop { r0 with state := .done, pending := some j }) :: Z j) :: (Lg ++ (ObjA w.heap.size (.deferred (some [])) :: Lr))) w2 (fun b => max (O' b) (O2 b)) := ⟨Q1, Q2, sq, hj, hq⟩
    refine fin2 { r0 with state := .done, pending := some j } (some j) _ (by simp) rfl (Ent.perm ?_ _ _ (stars_join h4)) (left _ j)
    rw [List.cons_append]
    refine List.Perm.cons _ ?_
    refine List.Perm.trans ?_ (List.perm_middle (l₁ := Lg ++ Z j))
    rw [← List.append_assoc]
    refine List.Perm.append_right _ ?_
    exact List.perm_append_comm

theorem c_rangeFunc {α : Type} {g : FuncId} {caps : List Value} {Lg : List A} {nx : List α → α → Prop} {fin : List α → Prop} {enc : α → List Value} {f : Operand} {ps : List Tmp} {assign body : Code} (I : List α → List A) (Z : Code → List A) (Lr : List A)
    (it : Iter X.P g caps Lg nx fin enc) (hc : Callable X.P g) (hf : env.eval f = some (.func (.func g) #[] caps.toArray)) (hp : Ent L ((Lg ++ I []) ++ Lr))
    (hpar0 : (ps.all fun t => Nat.blt t X.fn.ntmps) = true) (hlen : ∀ x, (enc x).length = ps.length)
    (bd : ∀ (l : Nat) (r : Loop) pre x w0 O0, r.state = .ready → nx pre x → Cfg { P := X.P, f := X.f, fn := X.fn, R := RoundR l r (I (pre ++ [x])) Z, w0 := w0, O0 := O0, rd := some l } [.code assign, .beginRound, .code body] (putAll ps (enc x) env) (ObjA l (.loop r) :: I pre))
    (done : ∀ D pre, fin pre → Cfg { X with defs := markOf D :: X.defs } k env (ObjA D (.deferred (some [])) :: (Lg ++ I pre ++ Lr)))
    (left : ∀ D j, Cfg { X with defs := markOf D :: X.defs } (.code j :: k) env (ObjA D (.deferred (some [])) :: (Lg ++ Z j ++ Lr)))
    (hrd : X.rd = none := by rfl) : Cfg X (.code (.rangeFunc f ps.toArray assign body) :: k) env L :=
  c_rangeFuncAt I Z Lr (it.at I) hc hf hp hpar0 hlen bd done left hrd

/-! ### the way out of a function that has begun one such loop -/
theorem c_retm_any {D : Nat} (hr : ∀ a w O, Holds X env a → Stars L w O → ∃ v, (results X.fn a.tmps).run X.P w = .ok v w ∧ X.R v w O)
    (hf : X.P.funcs[X.f]? = some X.fn) (hrd : X.rd = none) (hdf : X.defs = [markOf D])
    (hk : ∀ (a : Act) (w : World) (b : Frame) (cs : List Frame), b.kind = .normal → b.roundOf = none → Steps X.P (lone (b.atR a k) cs w) (lone { b.atR a k with mode := .returning } cs w)) : Cfg X k env (ObjA D (.deferred (some [])) :: L) := by
  intro a w O ha hs hrel b hb hkd hro cs
  obtain ⟨g1, g2⟩ := obj_put (o' := .deferred none) hs hrel.dom
  obtain ⟨v, hv, hR⟩ := hr a _ O ha (Ent.drop _ _ g1)
  have h1 := step_collected (P := X.P) (fr := { b.atR a k with mode := .returning }) (cs := cs) (d := markOf D) (ds := []) (by simp) (by show a.defers = _; rw [ha.defers, hdf]) rfl (run_takeDeferred (obj_get hs))
  refine ⟨v, _, _, O, hR, hrel.trans g2, (hk a w b cs hkd (hro.trans hrd)).trans (.one h1), ?_⟩
  unfold Fin
  rw [hrd]
  exact ⟨hb, rfl, rfl, hkd, X.fn, by simpa [Frame.atR, hb] using hf, by simpa [Frame.atR] using hv⟩
theorem c_retm1 {D t : Nat} {v : Value} (hf : X.P.funcs[X.f]? = some X.fn) (h : X.fn.results = #[.tmp t]) (hv : env.look t = some v) (hp : Pick (ObjA D (.deferred (some []))) L Lr) (fin : ∀ w O, Stars Lr w O → X.R v w O)
    (hrd : X.rd = none := by rfl) (hdf : X.defs = [markOf D] := by rfl) : Cfg X (.code .ret :: k) env L :=
  c_ent hp.ent (c_retm_any (fun _ w O ha hs => ⟨_, results_one h (ha.look t v hv), fin w O hs⟩) hf hrd hdf fun _ _ _ _ _ hb => steps_ret hb)
theorem c_retm2 {D s t : Nat} {u v : Value} (hf : X.P.funcs[X.f]? = some X.fn) (h : X.fn.results = #[.tmp s, .tmp t]) (hu : env.look s = some u) (hv : env.look t = some v) (hp : Pick (ObjA D (.deferred (some []))) L Lr) (fin : ∀ w O, Stars Lr w O → X.R (.tuple #[u, v]) w O)
    (hrd : X.rd = none := by rfl) (hdf : X.defs = [markOf D] := by rfl) : Cfg X (.code .ret :: k) env L :=
  c_ent hp.ent (c_retm_any (fun _ w O ha hs => ⟨_, results_two h (ha.look s u hu) (ha.look t v hv), fin w O hs⟩) hf hrd hdf fun _ _ _ _ _ hb => steps_ret hb)
theorem c_retm0 {D : Nat} (hf : X.P.funcs[X.f]? = some X.fn) (h : X.fn.results = #[]) (hp : Pick (ObjA D (.deferred (some []))) L Lr) (fin : ∀ w O, Stars Lr w O → X.R (.tuple #[]) w O)
    (hrd : X.rd = none := by rfl) (hdf : X.defs = [markOf D] := by rfl) : Cfg X (.code .ret :: k) env L :=
  c_ent hp.ent (c_retm_any (fun _ w O _ hs => ⟨_, results_no h, fin w O hs⟩) hf hrd hdf fun _ _ _ _ _ hb => steps_ret hb)
end

/-! ### small helps -/
theorem Pick.ex {γ : Type} {f : γ → A} {L L1 : List A} (g : γ) (h : Pick (f g) L L1) : Pick (ExA f) L L1 := fun w O hs => by
  obtain ⟨O1, O2, s, h1, h2⟩ := h w O hs
  exact ⟨O1, O2, s, ⟨g, h1⟩, h2⟩
theorem Pick.all {As L L1 : List A} (h : Picks As L L1) : Pick (AllA As) L L1 := fun w O hs => h.split w O hs
theorem Ent.last {a : A} {L : List A} : Ent (a :: L) ((L ++ [a]) ++ []) := by rw [List.append_nil]; exact Ent.perm (List.perm_append_singleton a L).symm
theorem picks_self : ∀ L : List A, Picks L L []
  | [] => .nil
  | _ :: L => .cons Pick.here (picks_self L)
theorem Pick.pu {p : Prop} {L : List A} (h : p) : Pick (Pu p) L L := Pick.beside fun _ => h
theorem c_all {X : Cx} {k : List Item} {env : Env} {L As : List A} (h : Cfg X k env (As ++ L)) : Cfg X k env (AllA As :: L) := c_ent (fun _ _ hs => stars_join hs) h
theorem Has.mem {a : A} {L : List A} (h : a ∈ L) : Has L a := by
  induction L with
  | nil => cases h
  | cons b L ih =>
    rcases List.mem_cons.1 h with rfl | h
    · exact Has.here
    · exact Has.there (ih h)
theorem c_never {X : Cx} {k : List Item} {env : Env} {L : List A} (h : Has L (Pu False)) : Cfg X k env L := c_fact h (fun _ _ h => h) (fun h => h.elim)
/-- Rows that are handed on in their order. -/
def nxL {α : Type} (xs : List α) (pre : List α) (x : α) : Prop := pre ++ [x] <+: xs
def finL {α : Type} (xs : List α) (pre : List α) : Prop := pre = xs
end Go.SL

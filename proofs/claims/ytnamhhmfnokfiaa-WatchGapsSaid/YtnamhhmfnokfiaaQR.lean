/- Loops over functions: rounds, yield, iterators' contracts, the loop itself. -/
import Derived.Test.YtnamhhmfnokfiaaQB
import Derived.RangeFuncRecord
import Derived.RangeFuncLeaves
namespace Go.SL
open Go

/-- Block b is one's own, and is this object. -/
def ObjA (b : Nat) (o : Obj) : A where
  h := fun w O => 2 ≤ O b ∧ w.heap[b]? = some o
  mono := fun ⟨h1, h2⟩ hO => ⟨Nat.le_trans h1 (hO b), h2⟩
  loc := fun ⟨h1, h2⟩ hw => ⟨h1, (hw b (by omega)).trans h2⟩
theorem obj_put {w : World} {O : Perm} {b : Nat} {o o' : Obj} {L : List A} (h : Stars (ObjA b o :: L) w O) (hd : ∀ b, O b ≠ 0 → b < w.heap.size) : Stars (ObjA b o' :: L) (w.putObj b o') O ∧ Rel w O (w.putObj b o') O := by
  obtain ⟨O1, O2, s, ⟨h1, h2⟩, h3⟩ := h
  have hb : b < w.heap.size := hd b (by have := s.l b; omega)
  refine ⟨⟨O1, O2, s, ⟨h1, World.putObj_heap_same hb⟩, h3.loc fun c hc => ?_⟩, ⟨rfl, rfl, rfl, by simp, fun c hc h => ?_, fun _ _ => Nat.le_refl _, fun c hc => by simpa using hd c hc⟩⟩
  · have : c ≠ b := by intro e; subst e; have := s.lr c h1; omega
    rw [World.putObj_heap_other this]
  · have : c ≠ b := by intro e; subst e; have := s.l c; omega
    rw [World.putObj_heap_other this]
theorem obj_get {w : World} {O : Perm} {b : Nat} {o : Obj} {L : List A} (h : Stars (ObjA b o :: L) w O) : w.heap[b]? = some o := by
  obtain ⟨O1, O2, s, ⟨h1, h2⟩, h3⟩ := h; exact h2

theorem stars_split {L1 L2 : List A} {w : World} {O : Perm} (h : Stars (L1 ++ L2) w O) : ∃ O1 O2, Split O O1 O2 ∧ Stars L1 w O1 ∧ Stars L2 w O2 := by
  induction L1 generalizing O with
  | nil => exact ⟨fun _ => 0, O, ⟨fun _ => Nat.zero_le _, fun _ => Nat.le_refl _, fun _ h => absurd h (by simp), fun _ _ => rfl⟩, trivial, h⟩
  | cons a L ih =>
    obtain ⟨P1, P2, t, g1, g2⟩ := h
    obtain ⟨Q1, Q2, u, k1, k2⟩ := ih g2
    refine ⟨fun b => max (P1 b) (Q1 b), Q2, ⟨fun b => ?_, fun b => ?_, fun b => ?_, fun b => ?_⟩, ⟨P1, Q1, ⟨fun b => ?_, fun b => ?_, fun b => ?_, fun b => ?_⟩, g1, k1⟩, k2⟩ <;>
      (have := t.l b; have := t.r b; have := t.lr b; have := t.rl b; have := u.l b; have := u.r b; have := u.lr b; have := u.rl b; omega)
section
variable {X : Cx} {k : List Item} {env : Env} {L L1 : List A} {l : Nat} {r : Loop}
theorem c_beginRound (hp : Pick (ObjA l (.loop r)) L L1) (hr : r.state = .ready) (h : Cfg X k env (ObjA l (.loop { r with state := .busy }) :: L1)) (hrd : X.rd = some l := by rfl) : Cfg X (.beginRound :: k) env L := by
  intro a w O ha hs hrel
  have hs' : Stars (ObjA l (.loop r) :: L1) w O := hp w O hs
  obtain ⟨h1, h2⟩ := obj_put (o' := .loop { r with state := .busy }) hs' hrel.dom
  refine Ok.step (fun b cs hb => .one (stepR_beginRound (hb.trans hrd) (run_beginRound (obj_get hs') hr))) (h a _ O ha h1 (hrel.trans h2))
theorem c_roundEnd (fin : ∀ w O, Stars L w O → X.R (.bool true) w O) (hrd : X.rd = some l := by rfl) : Cfg X [] env L := by
  intro a w O ha hs hrel b hb hk hro cs
  refine ⟨.bool true, w, b.atR a [], O, fin w O hs, hrel, .refl _ _, ?_⟩
  unfold Fin; rw [hrd]
  exact ⟨b, a, hb, hro.trans hrd, hk, .inl ⟨rfl, rfl⟩⟩
theorem c_roundRet (fin : ∀ w O, Stars L w O → X.R (.bool false) w O) (hrd : X.rd = some l := by rfl) : Cfg X (.code .ret :: k) env L := by
  intro a w O ha hs hrel b hb hk hro cs
  refine ⟨.bool false, w, b.atR a (.code .ret :: k), O, fin w O hs, hrel, .refl _ _, ?_⟩
  unfold Fin; rw [hrd]
  exact ⟨b, a, hb, hro.trans hrd, hk, .inr (.inl ⟨k, rfl, rfl⟩)⟩
theorem c_roundExit {id : Nat} (hx : exitTo id k = none) (fin : ∀ w O, Stars L w O → X.R (.int .i64 (id : Nat)) w O) (hrd : X.rd = some l := by rfl) : Cfg X (.code (.exit id) :: k) env L := by
  intro a w O ha hs hrel b hb hk hro cs
  refine ⟨.int .i64 (id : Nat), w, b.atR a (.code (.exit id) :: k), O, fin w O hs, hrel, .refl _ _, ?_⟩
  unfold Fin; rw [hrd]
  exact ⟨b, a, hb, hro.trans hrd, hk, .inr (.inr ⟨id, k, rfl, hx, rfl⟩)⟩
end

/-- What yield(args) comes to: true, and L1; or false, and L0. -/
def Yield (P : Program) (l : Nat) (args : List Value) (L L1 L0 : List A) : Prop :=
  ∀ w O, Stars L w O → (∀ b, O b ≠ 0 → b < w.heap.size) → ∃ f tmps assign body, (Instr.yield l args.toArray).run P w = .ok (.round l f tmps assign body) w ∧
    Round P l f tmps assign body w fun v w' => ∃ O', Rel w O w' O' ∧ ((v = .bool true ∧ Stars L1 w' O') ∨ (v = .bool false ∧ Stars L0 w' O'))

section
variable {X : Cx} {ops : Array Oper} {rest : List Oper} {kk : List Item} {env : Env} {L Lr : List A}
/-- The call of a yield. -/
theorem o_yield {l : Nat} {f : Operand} {xs : List Operand} {args : List Value} {ts : Array TypeId} {Lp L1 L0 : List A} {d : Nat} {T : TypeId} {pos : String} {af : Array Edge}
    (y : Yield X.P l args Lp L1 L0) (hf : env.eval f = some (.func (.yield l) #[] #[])) (hx : evalAll env xs = some args) (hd : d < X.fn.ntmps) (hp : Ent L (Lp ++ Lr))
    (kt : Ops X ops rest kk ((d, .bool true) :: env) (L1 ++ Lr)) (kf : Ops X ops rest kk ((d, .bool false) :: env) (L0 ++ Lr)) :
    Ops X ops (⟨some d, .call ⟨.value f, xs.toArray, ts⟩, T, pos, af, none⟩ :: rest) kk env L := by
  intro a w O ha hs hr
  simp only [wpl, Region.wanted, if_true]
  obtain ⟨O1, O2, s, h1, h2⟩ := stars_split (hp w O hs)
  obtain ⟨g, tmps, assign, body, hy, hround⟩ := y w O1 h1 (fun b hb => hr.dom b (by have := s.l b; omega))
  refine .inr ⟨l, g, tmps, assign, body, w, ?_, hround.mono ?_⟩
  · have h3 := ha.all hx
    have hargs : #[] ++ (xs.map a.eval).toArray ++ #[] = args.toArray := by rw [h3]; simp
    simp only [execOp, resolve, ha.eval hf, Deferred.ofValue, pure_bind, invoke, List.map_toArray]
    rw [h3]
    simpa using hy
  · rintro v w' ⟨O', hrel, hv⟩
    obtain ⟨s', h2', hrel'⟩ := frame hr.dom s h2 hrel
    rcases hv with ⟨rfl, hL⟩ | ⟨rfl, hL⟩
    · exact kt _ w' _ (ha.put hd _) (Stars.app s' hL h2') (hr.trans hrel')
    · exact kf _ w' _ (ha.put hd _) (Stars.app s' hL h2') (hr.trans hrel')
end

/-! ### rounds as yields -/
def jumpOf : Value → Option Code
  | .bool false => some .ret
  | .int .i64 n => some (.exit n.toNat)
  | _ => none
/-- What a round must end in. -/
def RoundR (l : Nat) (r : Loop) (I1 : List A) (Z : Code → List A) : Value → World → Perm → Prop := fun v w O =>
  (v = .bool true ∧ Stars (ObjA l (.loop { r with state := .busy }) :: I1) w O) ∨ (∃ j, jumpOf v = some j ∧ Stars (ObjA l (.loop { r with state := .busy }) :: Z j) w O)
/-- The record where a round has left by a jump. -/
def Left (l : Nat) (r : Loop) (Z : Code → List A) : List A := [ExA fun j : Code => AllA (ObjA l (.loop { r with state := .done, pending := some j }) :: Z j)]
def putAll : List Tmp → List Value → Env → Env
  | t :: ts, v :: vs, e => putAll ts vs ((t, v) :: e)
  | _, _, e => e
theorem holds_putAll {X : Cx} : ∀ (ts : List Tmp) (vs : List Value) (e : Env) (a : Act), (∀ t ∈ ts, t < X.fn.ntmps) → Holds X e a →
    Holds X (putAll ts vs e) { a with tmps := (ts.zip vs).foldl (fun (tm : Array Value) (p : Tmp × Value) => tm.setIfInBounds p.1 p.2) a.tmps }
  | [], _, _, _, _, h => h
  | _ :: _, [], _, _, _, h => h
  | t :: ts, v :: vs, e, a, ht, h => by
    have h1 := h.put (ht t (by simp)) v
    exact holds_putAll ts vs ((t, v) :: e) (a.put (some t) v) (fun t h => ht t (by simp [h])) h1

theorem yield_of_round {P : Program} {f : FuncId} {fn : Func} {l : Nat} {r : Loop} {env : Env} {args : List Value} {I I1 : List A} {Z : Code → List A} (hst : r.state = .ready) (hfn : r.fn = f) (hl : args.length = r.params.size)
    (hpar : ∀ t ∈ r.params.toList, t < fn.ntmps) (hsize : r.tmps.size = fn.ntmps) (hlook : ∀ t v, env.look t = some v → r.tmps[t]? = some v)
    (body : ∀ w0 O0, Cfg { P := P, f := f, fn := fn, R := RoundR l r I1 Z, w0 := w0, O0 := O0, rd := some l } [.code r.assign, .beginRound, .code r.body] (putAll r.params.toList args env) (ObjA l (.loop r) :: I)) :
    Yield P l args (ObjA l (.loop r) :: I) (ObjA l (.loop { r with state := .ready, pending := none }) :: I1) (Left l r Z) := by
  intro w O hs hd
  have hy := run_yield (P := P) (args := args.toArray) (obj_get hs) (by simpa using hl)
  refine ⟨r.fn, _, r.assign, r.body, hy, fun c cs => ?_⟩
  have hfold : (r.params.zip args.toArray).foldl (fun (tmps : Array Value) (x : Tmp × Value) => tmps.setIfInBounds x.1 x.2) r.tmps = (r.params.toList.zip args).foldl (fun (tm : Array Value) (p : Tmp × Value) => tm.setIfInBounds p.1 p.2) r.tmps := by
    rw [← Array.foldl_toList, Array.toList_zip]
  have ha : Holds { P := P, f := f, fn := fn, R := RoundR l r I1 Z, w0 := w, O0 := O, rd := some l } (putAll r.params.toList args env) { tmps := (r.params.toList.zip args).foldl (fun (tm : Array Value) (p : Tmp × Value) => tm.setIfInBounds p.1 p.2) r.tmps, defers := [] } :=
    holds_putAll r.params.toList args env { tmps := r.tmps, defers := [] } hpar ⟨hsize, rfl, hlook⟩
  obtain ⟨v, w', fr, O', hR, hrel, hsteps, hfin⟩ := body w O _ w O ha hs (Rel.refl hd) { (default : Frame) with fn := f, kind := .normal, roundOf := some l } rfl rfl rfl (c :: cs)
  have hround : Frame.round l r.fn ((r.params.zip args.toArray).foldl (fun (tmps : Array Value) (x : Tmp × Value) => tmps.setIfInBounds x.1 x.2) r.tmps) r.assign r.body .normal =
      ({ (default : Frame) with fn := f, kind := .normal, roundOf := some l } : Frame).atR { tmps := (r.params.toList.zip args).foldl (fun (tm : Array Value) (p : Tmp × Value) => tm.setIfInBounds p.1 p.2) r.tmps, defers := [] } [.code r.assign, .beginRound, .code r.body] := by
    rw [hfold, hfn]; rfl
  have hround' : Frame.round l r.fn (Array.foldl (fun tmps (x : Tmp × Value) => match x with | (t, a) => tmps.setIfInBounds t a) r.tmps (r.params.zip args.toArray)) r.assign r.body .normal = _ := hround
  rw [hround']
  unfold Fin at hfin
  obtain ⟨b2, a2, hb2, hr2, hk2, hcase⟩ := hfin
  have out : ∀ (v2 : Value) (w2 : World), (∃ O', Rel w O w2 O' ∧ ((v2 = .bool true ∧ Stars (ObjA l (.loop { r with state := .ready, pending := none }) :: I1) w2 O') ∨ (v2 = .bool false ∧ Stars (Left l r Z) w2 O'))) →
      step P (lone fr (c :: cs) w') = .next (lone (c.finish v2) cs w2) → ∃ v w', (∃ O', Rel w O w' O' ∧ ((v = .bool true ∧ Stars (ObjA l (.loop { r with state := .ready, pending := none }) :: I1) w' O') ∨ (v = .bool false ∧ Stars (Left l r Z) w' O'))) ∧
        Steps P (lone (({ (default : Frame) with fn := f, kind := .normal, roundOf := some l } : Frame).atR { tmps := (r.params.toList.zip args).foldl (fun (tm : Array Value) (p : Tmp × Value) => tm.setIfInBounds p.1 p.2) r.tmps, defers := [] } [.code r.assign, .beginRound, .code r.body]) (c :: cs) w) (lone (c.finish v) cs w') :=
    fun v2 w2 h1 h2 => ⟨v2, w2, h1, hsteps.trans (.one h2)⟩
  have leave : ∀ (j : Code), Stars (ObjA l (.loop { r with state := .busy }) :: Z j) w' O' → ∃ w2, (Instr.endRound l (some j)).run P w' = .ok (.bool false) w2 ∧ Stars (Left l r Z) w2 O' ∧ Rel w O w2 O' := by
    intro j hz
    have hrun := run_endRound (P := P) (some j) (obj_get hz)
    obtain ⟨g1, g2⟩ := obj_put (o' := .loop { { r with state := .busy } with state := .done, pending := some j }) hz hrel.dom
    exact ⟨_, hrun, Ent.get g1 (fun w O h => ⟨O, fun _ => 0, ⟨fun _ => Nat.le_refl _, fun _ => Nat.zero_le _, fun _ _ => rfl, fun b h => absurd h (by simp)⟩, ⟨j, h⟩, trivial⟩), hrel.trans g2⟩
  rcases hR with ⟨rfl, hI⟩ | ⟨j, hj, hz⟩
  · rcases hcase with ⟨_, rfl⟩ | ⟨k, h, _⟩ | ⟨id, k, h, _⟩
    · have hrun := run_endRound (P := P) none (obj_get hI)
      obtain ⟨g1, g2⟩ := obj_put (o' := .loop { { r with state := .busy } with state := .ready, pending := none }) hI hrel.dom
      exact out (.bool true) _ ⟨O', hrel.trans g2, .inl ⟨rfl, g1⟩⟩ (stepR_round_end hr2 hk2 hrun)
    · cases h
    · cases h
  · rcases hcase with ⟨h, _⟩ | ⟨k, rfl, rfl⟩ | ⟨id, k, rfl, hx, rfl⟩
    · subst h; cases hj
    · cases hj
      obtain ⟨w2, h1, h2, h3⟩ := leave _ hz
      exact out (.bool false) w2 ⟨O', h3, .inr ⟨rfl, h2⟩⟩ (stepR_round_ret hr2 hk2 h1)
    · simp only [jumpOf, Option.some.injEq, Int.toNat_natCast] at hj
      subst hj
      obtain ⟨w2, h1, h2, h3⟩ := leave _ hz
      exact out (.bool false) w2 ⟨O', h3, .inr ⟨rfl, h2⟩⟩ (stepR_round_exit hr2 hk2 hx h1)
end Go.SL

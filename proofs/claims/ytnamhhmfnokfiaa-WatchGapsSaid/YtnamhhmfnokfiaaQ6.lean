/- Regions that draw their order. -/
import Derived.Test.YtnamhhmfnokfiaaQ5
import Derived.Deep.Quiet
import Derived.OrdersHeld
namespace Go.SL
open Go

theorem draw_stars {L : List A} {w : World} {O : Perm} (h : Stars L w O) : Stars L { w with drawn := w.drawn + 1 } O := h.loc fun _ _ => rfl
theorem draw_rel {w0 w : World} {O0 O : Perm} (h : Rel w0 O0 w O) : Rel w0 O0 { w with drawn := w.drawn + 1 } O := ⟨h.os, h.tape, h.output, h.size, h.old, h.perm, h.dom⟩

theorem ok_any {X : Cx} {k : List Item} {ops : Array Oper} {id : Nat} {a : Act} {w : World} (hm : X.P.follows .mixedOrders = true) (hnd : noDefer ops.toList = true)
    (h : wpAny X.P .any ops (Qn X k) ops.size (Array.replicate ops.size false) a { w with drawn := w.drawn + 1 }) : Ok X (.code (.region id ops true) :: k) a w := by
  intro b hb hk hro cs
  have hst := stepR_region_draw (P := X.P) (b := b) (a := a) (k := k) (cs := cs) (w := w) (ops := ops) (id := id)
  have h2 : wpOps X.P ops (Qn X k) (Region.schedule (X.P.follows .mixedOrders) ops (w.tape w.drawn (.order b.fn id))) a { w with drawn := w.drawn + 1 } := by
    simp only [Region.schedule, hm, Bool.true_or, if_true]
    exact wpAny_sound ops.size _ _ a _ h
  obtain ⟨v, w', fr, O', hR, hrel, hst', hf⟩ := ok_ops hnd _ _ _ h2 b hb hk hro cs
  exact ⟨v, w', fr, O', hR, hrel, (Steps.one hst).trans hst', hf⟩

/-- The worlds in which L holds. -/
def QC (X : Cx) (L : List A) : World → Prop := fun w => ∃ O, Stars L w O ∧ Rel X.w0 X.O0 w O
def Qops (X : Cx) (ops : Array Oper) (l : List Oper) (k : List Item) (env : Env) (L : List A) : Prop :=
  ∀ a, Holds X env a → wpQuiet X.P ops (QC X L) (fun a' => ∀ w', QC X L w' → Qn X k .normal a' w') l a

section
variable {X : Cx} {ops : Array Oper} {rest : List Oper} {kk : List Item} {env env' : Env} {L L1 : List A}
/-- A region that draws its order and only reads. -/
theorem c_quiet {id : Nat} {l : List Oper} (hm : X.P.follows .mixedOrders = true) (hB : Region.lexB .any l.toArray = true) (h : Qops X l.toArray l kk env L) (hnd : noDefer l = true := by rfl) : Cfg X (.code (.region id l.toArray true) :: kk) env L := by
  intro a w O ha hs hr
  simp only [Region.lexB, Bool.and_eq_true] at hB
  refine ok_any hm (by simpa using hnd) (wpAny_of_quiet (Q := fun a' => ∀ w', QC X L w' → Qn X kk .normal a' w') (fun _ w' hw' h => h w' hw') _ _ _ _ ⟨O, draw_stars hs, draw_rel hr⟩ ?_)
  have := wpAnyQ_lex (C := QC X L) (md := .any) hB.1 l 0 (Array.replicate l.length false) a (by simp) (by simpa using hB.2) (h a ha)
  simpa using this
theorem q_nil (h : Cfg X kk env L) : Qops X ops [] kk env L := fun a ha w' ⟨O, hs, hr⟩ => ⟨rfl, h a w' O ha hs hr⟩
theorem q_val {v : Value} {d : Nat} {op : Op} {T : TypeId} {pos : String} {af : Array Edge} (h : Val X env L op T v) (hd : d < X.fn.ntmps) (k : Qops X ops rest kk ((d, v) :: env) L) :
    Qops X ops (⟨some d, op, T, pos, af, none⟩ :: rest) kk env L := by
  intro a ha
  simp only [wpQuiet, Region.wanted, if_true]
  refine ⟨v, fun w ⟨O, hs, _⟩ => ?_, k _ (ha.put hd v)⟩
  simp only [Oper.quietAt, h (some d) pos af none a w O ha hs, Oper.quietUpon, and_self]
theorem q_call {γ : Type} {ret : γ → Value} {pu : γ → Prop} {g : FuncId} {xs : List Operand} {args : List Value} {ts : Array TypeId} {Lp : List A} {d : Nat} {T : TypeId} {pos : String} {af : Array Edge} {v : Value}
    (hc : Callable X.P g) (spec : Con X.P g args Lp ret pu fun _ => []) (hv : ∀ g, pu g → ret g = v) (hx : evalAll env xs = some args) (hd : d < X.fn.ntmps) (hp : Picks Lp L L)
    (k : Qops X ops rest kk ((d, v) :: env) L) :
    Qops X ops (⟨some d, .call ⟨.value (.func g), xs.toArray, ts⟩, T, pos, af, none⟩ :: rest) kk env L := by
  intro a ha
  simp only [wpQuiet, Region.wanted, if_true]
  refine ⟨v, fun w ⟨O, hs, hr⟩ => ?_, k _ (ha.put hd v)⟩
  have hrun : (execOp a.eval ⟨some d, .call ⟨.value (.func g), xs.toArray, ts⟩, T, pos, af, none⟩).run X.P w = .ok (.enter g args.toArray) w := by
    have h1 := ha.all hx
    have h2 : Env.eval env (.func g) = some (.func (.func g) #[] #[]) := rfl
    simp only [execOp, resolve, ha.eval h2, Deferred.ofValue, pure_bind, invoke, List.map_toArray, h1]
    have hargs : #[] ++ args.toArray ++ #[] = args.toArray := by simp
    rw [hargs]
    exact hc _ _
  simp only [Oper.quietAt, hrun, Oper.quietUpon, true_and]
  obtain ⟨O1, O2, s, h1, h2⟩ := hp.split w O hs
  refine (spec w O1 h1 (fun b hb => hr.dom b (by have := s.l b; omega))).mono ?_
  rintro e w' ⟨g, O', rfl, hpu, _, hrel⟩
  obtain ⟨s', h2', hrel'⟩ := frame hr.dom s h2 hrel
  exact ⟨by rw [hv g hpu], _, h2'.mono s'.r, hr.trans hrel'⟩
theorem q_guard {j s : Nat} {t want : Bool} {d : Option Nat} {op : Op} {T : TypeId} {pos : String} {af : Array Edge}
    (hj : (ops[j]?).bind (·.dst) = some s) (ht : env.look s = some (.bool t))
    (hy : t = want → Qops X ops (⟨d, op, T, pos, af, none⟩ :: rest) kk ((s, .bool want) :: env) L)
    (hn : t = !want → Qops X ops (⟨d, op, T, pos, af, some (j, want)⟩ :: rest) kk ((s, .bool (!want)) :: env) L) :
    Qops X ops (⟨d, op, T, pos, af, some (j, want)⟩ :: rest) kk env L := by
  intro a ha
  have hy1 : yielded ops a.tmps j = some t := by simp [yielded, hj, ha.look s _ ht]
  by_cases e : t = want
  · subst e
    have ha' : Holds X ((s, .bool t) :: env) a := ⟨ha.size, ha.defers, fun u v hu => by
      rcases Env.look_cons hu with ⟨rfl, rfl⟩ | ⟨_, hu⟩
      · exact ha.look _ _ ht
      · exact ha.look _ _ hu⟩
    have := hy rfl a ha'
    simp only [wpQuiet, Region.wanted, hy1, beq_self_eq_true, if_true] at this ⊢
    exact this
  · have e' : t = !want := by cases t <;> cases want <;> simp_all
    refine hn e' a ⟨ha.size, ha.defers, fun u v hu => ?_⟩
    rcases Env.look_cons hu with ⟨rfl, rfl⟩ | ⟨_, hu⟩
    · rw [← e']; exact ha.look _ _ ht
    · exact ha.look _ _ hu
theorem q_on {j s : Nat} {want : Bool} {d : Option Nat} {op : Op} {T : TypeId} {pos : String} {af : Array Edge}
    (hj : (ops[j]?).bind (·.dst) = some s) (ht : env.look s = some (.bool want))
    (h : Qops X ops (⟨d, op, T, pos, af, none⟩ :: rest) kk env L) : Qops X ops (⟨d, op, T, pos, af, some (j, want)⟩ :: rest) kk env L := by
  intro a ha
  have hy1 : yielded ops a.tmps j = some want := by simp [yielded, hj, ha.look s _ ht]
  have := h a ha
  simp only [wpQuiet, Region.wanted, hy1, beq_self_eq_true, if_true] at this ⊢
  exact this
theorem q_off {j s : Nat} {t want : Bool} {d : Nat} {op : Op} {T : TypeId} {pos : String} {af : Array Edge}
    (hj : (ops[j]?).bind (·.dst) = some s) (ht : env.look s = some (.bool t)) (hne : t = !want) (hd : d < X.fn.ntmps)
    (h : Qops X ops rest kk ((d, undef) :: env) L) : Qops X ops (⟨some d, op, T, pos, af, some (j, want)⟩ :: rest) kk env L := by
  intro a ha
  have hy1 : yielded ops a.tmps j = some t := by simp [yielded, hj, ha.look s _ ht]
  have hw : (some t == some want) = false := by subst hne; cases want <;> rfl
  simp only [wpQuiet, Region.wanted, hy1, hw, Bool.false_eq_true, if_false]
  exact h _ (ha.put hd _)

/-! ### a region that draws its order and writes: what only reads first -/
def Any (X : Cx) (ops : Array Oper) (S : List A) (fuel : Nat) (listed : Array Bool) (k : List Item) (env : Env) (L : List A) : Prop :=
  Kont X env L fun a w => wpAnyH X.P .any ops (Qn X k) (fun w => ∃ O, Stars S w O) fuel listed a w
theorem c_held {id : Nat} {l : List Oper} (S : List A) (hm : X.P.follows .mixedOrders = true) (h : Any X l.toArray S l.length (Array.replicate l.length false) kk env L) (hnd : noDefer l = true := by rfl) : Cfg X (.code (.region id l.toArray true) :: kk) env L := by
  intro a w O ha hs hr
  refine ok_any hm (by simpa using hnd) (wpAny_of_held (S := fun w => ∃ O, Stars S w O) _ _ _ _ ?_)
  simpa using h a _ O ha (draw_stars hs) (draw_rel hr)
theorem a_take {S : List A} {fuel : Nat} {listed : Array Bool} (i : Nat) {v : Value} {d : Nat} {op : Op} {T : TypeId} {pos : String} {af : Array Edge} (hi : ops[i]? = some ⟨some d, op, T, pos, af, none⟩) (hs : Region.noSelect ops = true)
    (hf : Region.free .any ops listed i = true) (hr : (Region.ready .any ops listed).contains i = true) (hv : Val X env S op T v) (hS : Ent L S) (hd : d < X.fn.ntmps)
    (k : Any X ops S fuel (listed.setIfInBounds i true) kk ((d, v) :: env) L) : Any X ops S (fuel + 1) listed kk env L := by
  intro a w O ha hst hrel
  exact wpAnyH_take hi hs hf hr (fun _ _ _ h => by cases h.1) (.inl ⟨rfl, fun w ⟨O, hs'⟩ => hv _ _ _ _ a w O ha hs'⟩) ⟨O, hS w O hst⟩ (k _ w O (ha.put hd v) hst hrel)
/-- The one operation that may come up. -/
theorem a_one {S : List A} {fuel : Nat} {listed : Array Bool} (i : Nat) {d : Option Nat} {op : Op} {T : TypeId} {pos : String} {af : Array Edge} (hi : ops[i]? = some ⟨d, op, T, pos, af, none⟩) (hr : Region.ready .any ops listed = [i])
    (h : StepK X kk ⟨d, op, T, pos, af, none⟩ env L fun a w => (∃ O, Stars S w O) ∧ wpAnyH X.P .any ops (Qn X kk) (fun w => ∃ O, Stars S w O) fuel (listed.setIfInBounds i true) a w) : Any X ops S (fuel + 1) listed kk env L := by
  intro a w O ha hst hrel
  refine wpAnyH_all hr (by simp) fun j hj => ?_
  obtain rfl : j = i := by simpa using hj
  simp only [wpOp, hi, Region.wanted, if_true]
  exact .inl (h a w O ha hst hrel)
/-- On. -/
theorem a_on {S : List A} {fuel : Nat} {listed : Array Bool} (hS : Ent L S) (h : Any X ops S fuel listed kk env L) : Kont X env L fun a w => (∃ O, Stars S w O) ∧ wpAnyH X.P .any ops (Qn X kk) (fun w => ∃ O, Stars S w O) fuel listed a w :=
  fun a w O ha hst hrel => ⟨⟨O, hS w O hst⟩, h a w O ha hst hrel⟩
theorem a_done {S : List A} {listed : Array Bool} (hr : Region.ready .any ops listed = []) (h : Cfg X kk env L) (fuel : Nat) : Any X ops S fuel listed kk env L :=
  fun a w O ha hst hrel => wpAnyH_done hr ⟨rfl, h a w O ha hst hrel⟩ fuel
end
end Go.SL

import Derived.Test.YtnamhhmfnokfiaaQT
/- Regions that draw their order and write: guards. -/
namespace Go.SL
open Go
section
variable {X : Cx} {ops : Array Oper} {kk : List Item} {env : Env} {L L1 S : List A} {fuel : Nat} {listed : Array Bool}
theorem a_know {s : Nat} {v v' : Value} (ht : env.look s = some v) (e : v = v') (k : Any X ops S fuel listed kk ((s, v') :: env) L) : Any X ops S fuel listed kk env L := by
  intro a w O ha hst hrel
  subst e
  exact k a w O ⟨ha.size, ha.defers, fun u v hu => by
    rcases Env.look_cons hu with ⟨rfl, rfl⟩ | ⟨_, hu⟩
    · exact ha.look _ _ ht
    · exact ha.look _ _ hu⟩ hst hrel
theorem a_take_on (i : Nat) {j s : Nat} {want : Bool} {v : Value} {d : Nat} {op : Op} {T : TypeId} {pos : String} {af : Array Edge} (hi : ops[i]? = some ⟨some d, op, T, pos, af, some (j, want)⟩)
    (hj : (ops[j]?).bind (·.dst) = some s) (ht : env.look s = some (.bool want)) (hs : Region.noSelect ops = true)
    (hf : Region.free .any ops listed i = true) (hr : (Region.ready .any ops listed).contains i = true) (hv : Val X env S op T v) (hS : Ent L S) (hd : d < X.fn.ntmps)
    (k : Any X ops S fuel (listed.setIfInBounds i true) kk ((d, v) :: env) L) : Any X ops S (fuel + 1) listed kk env L := by
  intro a w O ha hst hrel
  have hy1 : yielded ops a.tmps j = some want := by simp [yielded, hj, ha.look s _ ht]
  exact wpAnyH_take hi hs hf hr (fun _ _ _ h => by cases h.1) (.inl ⟨by simp [Region.wanted, hy1], fun w ⟨O, hs'⟩ => hv _ _ _ _ a w O ha hs'⟩) ⟨O, hS w O hst⟩ (k _ w O (ha.put hd v) hst hrel)
theorem a_take_off (i : Nat) {j s : Nat} {t want : Bool} {d : Nat} {op : Op} {T : TypeId} {pos : String} {af : Array Edge} (hi : ops[i]? = some ⟨some d, op, T, pos, af, some (j, want)⟩)
    (hj : (ops[j]?).bind (·.dst) = some s) (ht : env.look s = some (.bool t)) (hne : t = !want) (hs : Region.noSelect ops = true)
    (hf : Region.free .any ops listed i = true) (hr : (Region.ready .any ops listed).contains i = true) (hS : Ent L S) (hd : d < X.fn.ntmps)
    (k : Any X ops S fuel (listed.setIfInBounds i true) kk ((d, undef) :: env) L) : Any X ops S (fuel + 1) listed kk env L := by
  intro a w O ha hst hrel
  have hy1 : yielded ops a.tmps j = some t := by simp [yielded, hj, ha.look s _ ht]
  exact wpAnyH_take hi hs hf hr (fun _ _ _ h => by cases h.1) (.inr ⟨by simp only [Region.wanted, hy1]; subst hne; cases want <;> rfl, rfl⟩) ⟨O, hS w O hst⟩ (k _ w O (ha.put hd undef) hst hrel)
theorem a_one_on (i : Nat) {j s : Nat} {want : Bool} {d : Option Nat} {op : Op} {T : TypeId} {pos : String} {af : Array Edge} (hi : ops[i]? = some ⟨d, op, T, pos, af, some (j, want)⟩)
    (hj : (ops[j]?).bind (·.dst) = some s) (ht : env.look s = some (.bool want)) (hr : Region.ready .any ops listed = [i])
    (h : StepK X kk ⟨d, op, T, pos, af, none⟩ env L fun a w => (∃ O, Stars S w O) ∧ wpAnyH X.P .any ops (Qn X kk) (fun w => ∃ O, Stars S w O) fuel (listed.setIfInBounds i true) a w) : Any X ops S (fuel + 1) listed kk env L := by
  intro a w O ha hst hrel
  have hy1 : yielded ops a.tmps j = some want := by simp [yielded, hj, ha.look s _ ht]
  refine wpAnyH_all hr (by simp) fun q hq => ?_
  obtain rfl : q = i := by simpa using hq
  simp only [wpOp, hi, Region.wanted, hy1, beq_self_eq_true, if_true]
  exact .inl (h a w O ha hst hrel)
end
/-! ### calls that take some and read some -/
theorem mix_frame {w w' : World} {O O1 O2 O' : Perm} {l L1 : List A} (s : Split O O1 O2) (hdom : ∀ b, O b ≠ 0 → b < w.heap.size) (h2 : Stars L1 w O2) (hr : Rel w (fun b => max (O1 b) (min (O2 b) 1)) w' O') (hl : Stars l w' O') (hsep : Seps l) :
    ∃ P, Stars (l ++ L1) w' P ∧ Rel w O w' P := by
  have hl' := hsep.stars hl
  have hd2 : ∀ b, O2 b ≠ 0 → b < w.heap.size := fun b hb => hdom b (by have := s.r b; omega)
  have hz : ∀ b, b < w.heap.size → 2 ≤ O' b → 2 ≤ O1 b ∧ O2 b = 0 ∧ O' b ≤ O1 b := fun b hb h => by
    have h1 : O' b ≤ max (O1 b) (min (O2 b) 1) := hr.perm b hb
    have h3 : 2 ≤ O1 b := by omega
    have h4 := s.lr b h3
    exact ⟨h3, h4, by omega⟩
  have hlow : ∀ b, 1 ≤ O2 b → O1 b < 2 := fun b hb => by
    rcases Nat.lt_or_ge (O1 b) 2 with h | h
    · exact h
    · have := s.lr b h; omega
  refine ⟨fun b => max (if 2 ≤ O' b then O' b else 0) (O2 b), Stars.app ⟨fun b => Nat.le_max_left _ _, fun b => Nat.le_max_right _ _, fun b hb => ?_, fun b hb => ?_⟩ hl' (h2.loc fun b hb => hr.old b (hd2 b (by omega)) ?_), ⟨hr.os, hr.tape, hr.output, hr.size, fun b hb ho => hr.old b hb ?_, fun b hb => ?_, fun b hb => ?_⟩⟩
  · split at hb
    · rename_i h
      rcases Nat.eq_zero_or_pos (O2 b) with h0 | h0
      · exact h0
      · exact (hz b (hd2 b (by omega)) h).2.1
    · omega
  · show (if _ then _ else _) = 0
    rw [if_neg fun h => by
      have := (hz b (hd2 b (by omega)) h).2.1
      omega]
  · have := hlow b (by omega); show max _ _ < 2; omega
  · have := s.l b; show max _ _ < 2; omega
  · show max _ _ ≤ _
    have h5 := s.r b
    split
    · rename_i h
      have := hz b hb h; have := s.l b; omega
    · omega
  · have hb' : max (if 2 ≤ O' b then O' b else 0) (O2 b) ≠ 0 := hb
    by_cases h : 2 ≤ O' b
    · exact hr.dom b (by omega)
    · rw [if_neg h] at hb'
      have := hd2 b (by omega); have := hr.size; omega
section
variable {K : Act → World → Prop} {X : Cx} {kk : List Item} {env : Env} {L L1 : List A} {d : Nat} {T : TypeId} {pos : String} {af : Array Edge}
theorem s_callf_mix {γ : Type} {ret : γ → Value} {pu : γ → Prop} {L' : γ → List A} {g : FuncId} {xs : List Operand} {args : List Value} {ts : Array TypeId} {La : List A} (n : Nat)
    (hc : Callable X.P g) (spec : Con X.P g args La ret pu L') (hx : evalAll env xs = some args) (hd : d < X.fn.ntmps) (hpk : Picks (La.take n) L L1) (hp : Reads L1 (La.drop n)) (hsep : ∀ g, Seps (L' g))
    (k : ∀ g, pu g → Kont X ((d, ret g) :: env) (L' g ++ L1) K) :
    StepK X kk ⟨some d, .call ⟨.value (.func g), xs.toArray, ts⟩, T, pos, af, none⟩ env L K := by
  intro a w O ha hs hr
  have hrun : (execOp a.eval ⟨some d, .call ⟨.value (.func g), xs.toArray, ts⟩, T, pos, af, none⟩).run X.P w = .ok (.enter g args.toArray) w := by
    have h1 := ha.all hx
    have hargs : (#[] : Array Value) ++ (xs.map a.eval).toArray ++ (#[] : Array Value) = args.toArray := by rw [h1]; simp
    have hf : a.eval (.func g) = .func (.func g) #[] #[] := ha.eval (show env.eval (.func g) = some (.func (.func g) #[] #[]) from rfl)
    simp only [execOp, resolve, hf, Deferred.ofValue, pure_bind, invoke, List.map_toArray]
    rw [hargs]
    exact hc _ _
  simp only [Oper.wp, hrun, Oper.upon]
  obtain ⟨O1, O2, s, h1, h2⟩ := hpk.split w O hs
  have hdo : ∀ b, O b ≠ 0 → b < w.heap.size := hr.dom
  have hall : Stars La w fun b => max (O1 b) (min (O2 b) 1) := by
    have := Stars.app (O := fun b => max (O1 b) (min (O2 b) 1)) ⟨fun b => Nat.le_max_left _ _, fun b => Nat.le_max_right _ _, fun b hb => by have := s.lr b hb; show min _ _ = 0; omega, fun b hb => by
      have hb' : 2 ≤ min (O2 b) 1 := hb
      omega⟩ h1 (hp.stars h2)
    rwa [List.take_append_drop] at this
  refine (spec w _ hall (fun b hb => hdo b (by
    have hb' : max (O1 b) (min (O2 b) 1) ≠ 0 := hb
    have := s.l b; have := s.r b; omega))).mono ?_
  rintro e w' ⟨g, O', rfl, hpu, hL, hrel⟩
  obtain ⟨P, hP, hR⟩ := mix_frame s hdo h2 hrel hL (hsep g)
  exact k g hpu _ w' P (ha.put hd _) hP (hr.trans hR)
end
end Go.SL

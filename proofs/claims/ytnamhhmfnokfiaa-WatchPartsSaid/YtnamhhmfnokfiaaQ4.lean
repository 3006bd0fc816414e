/- The rules of the operations on memory, and of calls. -/
import Derived.Test.YtnamhhmfnokfiaaQ3
import Derived.Laws.Slices
import Derived.Laws.CopyRow
namespace Go.SL
open Go

def evalAll (e : Env) : List Operand → Option (List Value)
  | [] => some []
  | x :: xs => match e.eval x, evalAll e xs with
    | some v, some vs => some (v :: vs)
    | _, _ => none
theorem Holds.all {X : Cx} {e : Env} {a : Act} (h : Holds X e a) : ∀ {xs : List Operand} {vs : List Value}, evalAll e xs = some vs → xs.map a.eval = vs
  | [], vs, hv => by simp [evalAll] at hv; simp [hv]
  | x :: xs, vs, hv => by
    unfold evalAll at hv
    split at hv
    · rename_i v vs' h1 h2
      cases hv
      rw [List.map_cons, h.eval h1, h.all h2]
    · cases hv

/-- A function with a body. -/
def Callable (P : Program) (f : FuncId) : Prop := ∀ args w, (callFunc f args).run P w = .ok (.enter f args) w
theorem callable_of {P : Program} {f : FuncId} {fn : Func} (hf : P.funcs[f]? = some fn) (hn : (fn.name == "runtime.NumGoroutine") = false) (hb : fn.body.isNone = false) : Callable P f := by
  intro args w
  have hb' : fn.body ≠ none := by intro h; rw [h] at hb; cases hb
  have hn' : fn.name ≠ "runtime.NumGoroutine" := by intro h; rw [h] at hn; simp at hn
  simp [callFunc, program, Sem.run, hf, hn', hb']

theorem Stars.app {l1 l2 : List A} {w : World} {O O1 O2 : Perm} (hs : Split O O1 O2) (h1 : Stars l1 w O1) (h2 : Stars l2 w O2) : Stars (l1 ++ l2) w O := by
  induction l1 generalizing O O1 with
  | nil => exact h2.mono hs.r
  | cons a l ih =>
    obtain ⟨P1, P2, t, g1, g2⟩ := h1
    refine ⟨P1, fun b => max (P2 b) (O2 b), ⟨fun b => ?_, fun b => ?_, fun b => ?_, fun b => ?_⟩, g1, ih (O := fun b => max (P2 b) (O2 b)) (O1 := P2) ⟨fun b => ?_, fun b => ?_, fun b => ?_, fun b => ?_⟩ g2⟩ <;>
      (have := hs.l b; have := hs.r b; have := hs.lr b; have := hs.rl b; have := t.l b; have := t.r b; have := t.lr b; have := t.rl b; omega)

/-- What is set aside stays, behind a step that touches the rest alone. -/
theorem frame {w w' : World} {O O1 O2 O' : Perm} {L2 : List A} (hdom : ∀ b, O b ≠ 0 → b < w.heap.size) (s : Split O O1 O2) (h2 : Stars L2 w O2) (hr : Rel w O1 w' O') :
    Split (fun b => max (O' b) (O2 b)) O' O2 ∧ Stars L2 w' O2 ∧ Rel w O w' (fun b => max (O' b) (O2 b)) := by
  have h2b : ∀ b, O2 b ≠ 0 → b < w.heap.size := fun b hb => hdom b (by have := s.r b; omega)
  refine ⟨⟨fun b => by omega, fun b => by omega, fun b hb => ?_, fun b hb => ?_⟩, h2.loc fun b hb => hr.old b (h2b b hb) ?_, ⟨hr.os, hr.tape, hr.output, hr.size, fun b hb hlt => hr.old b hb (by have := s.l b; omega), fun b hb => ?_, fun b hb => ?_⟩⟩
  · rcases Nat.lt_or_ge b w.heap.size with h | h
    · exact s.lr b (by have := hr.perm b h; omega)
    · rcases Nat.eq_zero_or_pos (O2 b) with h0 | h0
      · exact h0
      · exact absurd (h2b b (by omega)) (by omega)
  · have hb2 := h2b b (by omega)
    have := hr.perm b hb2
    have := s.rl b hb
    omega
  · have := s.lr b
    rcases Nat.lt_or_ge (O1 b) 2 with h | h
    · exact h
    · exact absurd (this h) hb
  · have := hr.perm b hb; have := s.l b; have := s.r b
    omega
  · by_cases h0 : O' b = 0
    · have : O2 b ≠ 0 := by
        have hb' : max (O' b) (O2 b) ≠ 0 := hb
        omega
      have := h2b b this; have := hr.size; omega
    · exact hr.dom b h0

/-! ### steps of the world -/
def fresh (w : World) (O : Perm) : Perm := fun b => if b = w.heap.size then 2 else O b
theorem rel_alloc {w : World} {O : Perm} (o : Obj) (hdom : ∀ b, O b ≠ 0 → b < w.heap.size) : Rel w O (w.alloc o) (fresh w O) := by
  refine ⟨rfl, rfl, rfl, by simp, fun b hb _ => ?_, fun b hb => ?_, fun b hb => ?_⟩
  · show (w.heap.push o)[b]? = _
    rw [Array.getElem?_push, if_neg (by omega)]
  · simp only [fresh]; rw [if_neg (by omega)]; omega
  · show b < (w.heap.push o).size
    simp only [Array.size_push]
    by_cases h : b = w.heap.size
    · omega
    · simp only [fresh, if_neg h] at hb; have := hdom b hb; omega
theorem stars_alloc {w : World} {O : Perm} {L : List A} {a : A} (o : Obj) (hdom : ∀ b, O b ≠ 0 → b < w.heap.size) (hs : Stars L w O) (ha : a.h (w.alloc o) fun b => if b = w.heap.size then 2 else 0) :
    Stars (a :: L) (w.alloc o) (fresh w O) := by
  have hn : O w.heap.size = 0 := by
    rcases Nat.eq_zero_or_pos (O w.heap.size) with h | h
    · exact h
    · have := hdom w.heap.size (by omega); omega
  refine ⟨_, O, ⟨fun b => ?_, fun b => ?_, fun b hb => ?_, fun b hb => ?_⟩, ha, hs.loc fun b hb => ?_⟩
  · simp only [fresh]; split <;> omega
  · simp only [fresh]; split
    · rename_i h; rw [h, hn]; omega
    · omega
  · by_cases h : b = w.heap.size
    · rw [h, hn]
    · simp [h] at hb
  · by_cases h : b = w.heap.size
    · rw [h, hn] at hb; omega
    · simp [h]
  · show (w.heap.push o)[b]? = _
    have := hdom b hb
    rw [Array.getElem?_push, if_neg (by omega)]
theorem heap_alloc (w : World) (o : Obj) : (w.alloc o).heap[w.heap.size]? = some o := by
  show (w.heap.push o)[w.heap.size]? = _
  simp

section
variable {K : Act → World → Prop} {X : Cx} {ops : Array Oper} {rest : List Oper} {kk : List Item} {env : Env} {L L1 : List A} {d : Nat} {T : TypeId} {pos : String} {af : Array Edge} {x y : Operand}

/-- A call. -/
theorem s_call {γ : Type} {ret : γ → Value} {pu : γ → Prop} {L' : γ → List A} {f : Operand} {g : FuncId} {first cap : List Value} {xs : List Operand} {args vs : List Value} {ts : Array TypeId} {Lp : List A}
    (hc : Callable X.P g) (spec : Con X.P g args Lp ret pu L')
    (hf : env.eval f = some (.func (.func g) first.toArray cap.toArray)) (hx : evalAll env xs = some vs) (hv : args = first ++ vs ++ cap) (hd : d < X.fn.ntmps) (hp : Picks Lp L L1)
    (k : ∀ g, pu g → Kont X ((d, ret g) :: env) (L' g ++ L1) K) :
    StepK X kk ⟨some d, .call ⟨.value f, xs.toArray, ts⟩, T, pos, af, none⟩ env L K := by
  intro a w O ha hs hr
  have hrun : (execOp a.eval ⟨some d, .call ⟨.value f, xs.toArray, ts⟩, T, pos, af, none⟩).run X.P w = .ok (.enter g args.toArray) w := by
    have h1 := ha.all hx
    have hargs : first.toArray ++ (xs.map a.eval).toArray ++ cap.toArray = args.toArray := by rw [h1, hv]; simp
    simp only [execOp, resolve, ha.eval hf, Deferred.ofValue, pure_bind, invoke, List.map_toArray]
    rw [hargs]
    exact hc _ _
  simp only [Oper.wp, hrun, Oper.upon]
  obtain ⟨O1, O2, s, h1, h2⟩ := hp.split w O hs
  refine (spec w O1 h1 (fun b hb => hr.dom b (by have := s.l b; omega))).mono ?_
  rintro e w' ⟨g, O', rfl, hpu, hL, hrel⟩
  obtain ⟨s', h2', hrel'⟩ := frame hr.dom s h2 hrel
  exact k g hpu _ w' _ (ha.put hd _) (Stars.app s' hL h2') (hr.trans hrel')
/-- A call of a function by its name. -/
theorem s_callf {γ : Type} {ret : γ → Value} {pu : γ → Prop} {L' : γ → List A} {g : FuncId} {xs : List Operand} {args : List Value} {ts : Array TypeId} {Lp : List A}
    (hc : Callable X.P g) (spec : Con X.P g args Lp ret pu L') (hx : evalAll env xs = some args) (hd : d < X.fn.ntmps) (hp : Picks Lp L L1)
    (k : ∀ g, pu g → Kont X ((d, ret g) :: env) (L' g ++ L1) K) :
    StepK X kk ⟨some d, .call ⟨.value (.func g), xs.toArray, ts⟩, T, pos, af, none⟩ env L K :=
  s_call hc spec (first := []) (cap := []) rfl hx (by simp) hd hp k

/-! ### slices -/
variable {α : Type} {e : Enc α} {v u : Value} {zs ys : List α} {E : TypeId}
theorem v_len_sl {t : TypeId} (hu : X.P.underlying t = some (.slice E)) (hx : env.eval x = some v) (hs : Has L (Sl e v zs)) : Val X env L (.call ⟨.builtin .len, #[x], #[t]⟩) T (.int .i64 zs.length) :=
  fun _ _ _ _ a w O ha hl => by
    obtain ⟨a0, cap, rfl, _⟩ := hs w O hl
    simp [execOp, resolve, invoke, builtin, Builtin.len_, ha.eval hx, run_underlying hu, goInt]

/-- The cells of an element's type. -/
def TI (P : Program) (t : TypeId) (z : Value) (n b : Nat) : Prop := ∃ i, P.info? t = some i ∧ i.zero = some z ∧ i.size = n ∧ i.bytes = b
theorem ti_of {P : Program} {t : TypeId} {z : Value} {n b : Nat} (h : (P.info? t).map (fun i => (i.zero, i.size, i.bytes)) = some (some z, n, b)) : TI P t z n b := by
  cases hi : P.info? t with
  | none => rw [hi] at h; cases h
  | some i =>
    rw [hi] at h
    simp only [Option.map_some, Option.some.injEq, Prod.mk.injEq] at h
    exact ⟨i, hi, h.1, h.2.1, h.2.2⟩
theorem v_indexAddr {t : TypeId} {K : IntKind} {n : Int} {z0 : Value} {bt : Nat} (hu : X.P.underlying t = some (.slice E)) (hE : TI X.P E z0 e.n bt) (hx : env.eval x = some v) (hy : env.eval y = some (.int K n))
    (hs : Has L (Sl e v zs)) (hb : 0 ≤ n ∧ n < zs.length) :
    Val X env L (.indexAddr t x y) T (.pointer (some (elemAddr v n.toNat e.n))) := by
  intro _ _ _ _ a w O ha hl
  obtain ⟨a0, cap, rfl, h1, h2, h3⟩ := hs w O hl
  obtain ⟨i, hi, _, hsz, _⟩ := hE
  rcases h3 with ⟨_, rfl⟩ | ⟨b, off, cs, rfl, _, _, _⟩
  · simp at hb; omega
  · have hadd : (⟨b, off, none⟩ : Addr).add (n.toNat * i.size) = elemAddr (.slice (some ⟨b, off, none⟩) zs.length cap) n.toNat e.n := by
      rw [hsz]
      show (if n.toNat * e.n = 0 then _ else _) = (⟨b, off + n.toNat * e.n, none⟩ : Addr)
      split
      · rename_i h; rw [h, Nat.add_zero]
      · rfl
    simp [execOp, ha.eval hx, ha.eval hy, Instr.indexAt, asIntOf, run_underlying hu, sizeOf, typeInfo, hi, hb, hadd]

/-- A type whose values have one cell, and are no struct. -/
def Lone (P : Program) (t : TypeId) : Prop := ∃ dsc, P.underlying t = some dsc ∧ (∀ g, dsc ≠ .struct g) ∧ ∀ n e, dsc ≠ .array n e
def loneB : TypeDesc → Bool
  | .struct _ | .array _ _ => false
  | _ => true
theorem lone_of {P : Program} {t : TypeId} {d : TypeDesc} (h : P.underlying t = some d) (hb : loneB d = true) : Lone P t :=
  ⟨d, h, (fun g e => by rw [e] at hb; cases hb), (fun n e h => by rw [h] at hb; cases hb)⟩
theorem Lone.run {P : Program} {t : TypeId} (h : Lone P t) (w : World) : (isAgg t).run P w = .ok false w := by
  obtain ⟨dsc, hu, h1, h2⟩ := h
  simp only [isAgg, Sem.run_bind, run_underlying hu, Result.andThen_ok]
  cases dsc <;> first | rfl | exact absurd rfl (h1 _) | exact absurd rfl (h2 _ _)
theorem run_loadLone {P : Program} {t : TypeId} {a : Addr} {w : World} {u : Value} (h : Lone P t) (hc : w.cell? a = some u) : (loadVar t a).run P w = .ok u w := by
  simp only [loadVar, Sem.run_bind, h.run, Result.andThen_ok]
  simp [hc]
/-- Some cells at an address. -/
def CellsAt (w : World) (a : Addr) (cs : List Value) : Prop := ∀ j u, cs[j]? = some u → w.cell? (a.add j) = some u
theorem run_loadAgg {P : Program} {t : TypeId} {a : Addr} {w : World} {cs : List Value} {i : TypeInfo} (h : ∃ fs, P.underlying t = some (.struct fs)) (hi : P.info? t = some i) (hn : i.size = cs.length) (hc : CellsAt w a cs) :
    (loadVar t a).run P w = .ok (.agg cs.toArray) w := by
  obtain ⟨fs, hu⟩ := h
  have hia : (isAgg t).run P w = .ok true w := by simp [isAgg, run_underlying hu]
  simp only [loadVar, Sem.run_bind, hia, Result.andThen_ok]
  have := run_loadCells_list (P := P) w a cs hc
  simp [sizeOf, typeInfo, hi, hn, this]

theorem v_field {i : Nat} {cs : Array Value} {u : Value} {xT : TypeId} {fs : Array Field} {f : Field} (hu : X.P.underlying xT = some (.struct fs)) (hf : fs[i]? = some f) (hv : Lone X.P f.type)
    (hx : env.eval x = some (.agg cs)) (hc : cs[f.offset]? = some u) : Val X env L (.field xT x i) T u :=
  fun _ _ _ _ a w O ha _ => by simp [execOp, ha.eval hx, Instr.field, run_underlying hu, hf, part, hv.run, hc, asAgg]
theorem v_indexAddrN {t : TypeId} {K : IntKind} {n : Nat} {z0 : Value} {bt : Nat} (hu : X.P.underlying t = some (.slice E)) (hE : TI X.P E z0 e.n bt) (hx : env.eval x = some v) (hy : env.eval y = some (.int K (n : Int)))
    (hs : Has L (Sl e v zs)) (hb : n < zs.length) : Val X env L (.indexAddr t x y) T (.pointer (some (elemAddr v n e.n))) := by
  have := v_indexAddr (X := X) (T := T) hu hE hx hy hs ⟨by omega, by omega⟩
  simpa using this

theorem v_makeFunc {f : Fn} {as bs : List Operand} {us vs : List Value} (h1 : evalAll env as = some us) (h2 : evalAll env bs = some vs) : Val X env L (.makeFunc f as.toArray bs.toArray) T (.func f us.toArray vs.toArray) :=
  fun _ _ _ _ a w O ha _ => by simp [execOp, Instr.makeFunc, ha.all h1, ha.all h2]
/-- An element of one cell is read. -/
theorem s_load_elem {i : Nat} {z : α} {t : TypeId} (ht : Lone X.P t) (h1 : e.n = 1) (hx : env.eval x = some (.pointer (some (elemAddr v i e.n)))) (hd : d < X.fn.ntmps)
    (he : Elem L e v i z) (k : ∀ u, Kont X ((d, u) :: env) (Rd e [u] z :: L) K) : StepK X kk ⟨some d, .load t x, T, pos, af, none⟩ env L K := by
  refine s_main (γ := Value) (V := fun u => u) (pu := fun _ => True) (L' := fun u => Rd e [u] z :: L) ?_ hd (fun u _ => k u)
  intro a w O ha hst hdom
  obtain ⟨c, hs, _, hc⟩ := he w O hst
  have hl : c.length = 1 := by
    obtain ⟨_, _, _, h, _⟩ := hs
    rw [e.len h, h1]
  obtain ⟨u, rfl⟩ := List.length_eq_one_iff.1 hl
  have hcell := hc 0 u rfl
  refine ⟨u, w, O, ?_, trivial, hs, Rel.refl hdom⟩
  have hsp : (elemAddr v i e.n).spot = none := by unfold elemAddr; split <;> rfl
  have : elemAddr v i e.n = ⟨(elemAddr v i e.n).block, (elemAddr v i e.n).off + 0, none⟩ := by
    rw [Nat.add_zero]
    cases hh : elemAddr v i e.n
    rw [hh] at hsp
    simp only at hsp
    rw [hsp]
  rw [← this] at hcell
  simp [execOp, ha.eval hx, Instr.loadAt, Instr.sureAddr, run_loadLone ht hcell]
/-- The same where the value is told by the element alone. -/
theorem v_load_val {i : Nat} {z : α} {t : TypeId} {f : α → Value} (ht : Lone X.P t) (hf : ∀ w O cs x, e.rd w O cs x → cs = [f x]) (hx : env.eval x = some (.pointer (some (elemAddr v i e.n))))
    (he : Elem L e v i z) : Val X env L (.load t x) T (f z) := by
  intro _ _ _ _ a w O ha hst
  obtain ⟨c, hs, _, hc⟩ := he w O hst
  have hl : c = [f z] := by
    obtain ⟨_, _, _, h, _⟩ := hs
    exact hf _ _ _ _ h
  subst hl
  have hcell := hc 0 _ rfl
  have hsp : (elemAddr v i e.n).spot = none := by unfold elemAddr; split <;> rfl
  have : elemAddr v i e.n = ⟨(elemAddr v i e.n).block, (elemAddr v i e.n).off + 0, none⟩ := by
    rw [Nat.add_zero]
    cases hh : elemAddr v i e.n
    rw [hh] at hsp
    simp only at hsp
    rw [hsp]
  rw [← this] at hcell
  simp [execOp, ha.eval hx, Instr.loadAt, Instr.sureAddr, run_loadLone ht hcell]
theorem v_load_str {i : Nat} {z : ByteArray} {t : TypeId} (ht : Lone X.P t) (hx : env.eval x = some (.pointer (some (elemAddr v i 1)))) (he : Elem L eStr v i z) : Val X env L (.load t x) T (.string z) :=
  v_load_val (e := eStr) ht (fun _ _ _ _ h => h) hx he
theorem v_load_int {i : Nat} {K : IntKind} {z : Int} {t : TypeId} (ht : Lone X.P t) (hx : env.eval x = some (.pointer (some (elemAddr v i 1)))) (he : Elem L (eInt K) v i z) : Val X env L (.load t x) T (.int K z) :=
  v_load_val (e := eInt K) ht (fun _ _ _ _ h => h) hx he
theorem v_load_bool {i : Nat} {z : Bool} {t : TypeId} (ht : Lone X.P t) (hx : env.eval x = some (.pointer (some (elemAddr v i 1)))) (he : Elem L eBool v i z) : Val X env L (.load t x) T (.bool z) :=
  v_load_val (e := eBool) ht (fun _ _ _ _ h => h) hx he
/-- An element that is a struct. -/
theorem s_load_agg {i : Nat} {z : α} {t : TypeId} {z0 : Value} {bt : Nat} (ht : ∃ fs, X.P.underlying t = some (.struct fs)) (hE : TI X.P t z0 e.n bt) (hx : env.eval x = some (.pointer (some (elemAddr v i e.n)))) (hd : d < X.fn.ntmps)
    (he : Elem L e v i z) (k : ∀ c : List Value, Kont X ((d, .agg c.toArray) :: env) (Rd e c z :: L) K) : StepK X kk ⟨some d, .load t x, T, pos, af, none⟩ env L K := by
  refine s_main (γ := List Value) (V := fun c => .agg c.toArray) (pu := fun _ => True) (L' := fun c => Rd e c z :: L) ?_ hd (fun u _ => k u)
  intro a w O ha hst hdom
  obtain ⟨c, hs, _, hc⟩ := he w O hst
  have hl : c.length = e.n := by
    obtain ⟨_, _, _, h, _⟩ := hs
    exact e.len h
  obtain ⟨ti, hi, _, hsz, _⟩ := hE
  have hca : CellsAt w (elemAddr v i e.n) c := fun j u hj => by
    have := hc j u hj
    have hsp : (elemAddr v i e.n).spot = none := by unfold elemAddr; split <;> rfl
    unfold Addr.add
    split
    · rename_i h0
      subst h0
      cases hh : elemAddr v i e.n
      rw [hh] at hsp this
      simp only at hsp this
      rw [hsp]; simpa using this
    · exact this
  refine ⟨c, w, O, ?_, trivial, hs, Rel.refl hdom⟩
  have := run_loadAgg ht hi (by rw [hsz, hl]) hca
  simp [execOp, ha.eval hx, Instr.loadAt, Instr.sureAddr, this]

/-! ### cuts -/
theorem SlP.cut {w : World} {O : Perm} {a0 : Option Addr} {cap lo hi c' : Nat} (h : SlP e w O (.slice a0 zs.length cap) zs) (h1 : lo ≤ hi) (h2 : hi ≤ zs.length) (h3 : hi ≤ c') (h4 : c' ≤ cap) :
    SlP e w O (.slice (if c' = lo then a0 else a0.map (·.add (lo * e.n))) (hi - lo) (c' - lo)) ((zs.take hi).drop lo) := by
  obtain ⟨a, cap', hv, g1, g2, g3⟩ := h
  simp only [Value.slice.injEq, true_and] at hv
  obtain ⟨rfl, rfl⟩ := hv
  have hlen : ((zs.take hi).drop lo).length = hi - lo := by simp; omega
  refine ⟨_, _, by rw [hlen], by rw [hlen]; omega, by omega, ?_⟩
  rcases g3 with ⟨ha, rfl⟩ | ⟨b, off, cs, rfl, hb, hr, hc⟩
  · left; constructor
    · rcases ha with rfl | ha
      · left; split <;> rfl
      · right; omega
    · simp
  · right
    by_cases hc' : c' = lo
    · rw [if_pos hc']
      have : (zs.take hi).drop lo = [] := List.eq_nil_of_length_eq_zero (by rw [hlen]; omega)
      rw [this]
      exact ⟨b, off, [], rfl, hb, rfl, fun j u hj => by simp at hj⟩
    · rw [if_neg hc']
      refine ⟨b, off + lo * e.n, (cs.take (hi * e.n)).drop (lo * e.n), ?_, hb, (hr.take hi).drop lo, fun j u hj => ?_⟩
      · simp only [Option.map_some, Option.some.injEq, Addr.add]
        split
        · rename_i h; rw [h, Nat.add_zero]
        · rfl
      · rw [List.getElem?_drop, List.getElem?_take] at hj
        split at hj
        · have := hc _ u hj
          rwa [← Nat.add_assoc] at this
        · cases hj

/-- v[lo:hi], v[lo:], v[:hi], within the length. -/
theorem s_slice {t : TypeId} {z0 : Value} {bt sz : Nat} {lo hi : Option Operand} {l h : Nat} (hu : X.P.underlying t = some (.slice E)) (hE : TI X.P E z0 sz bt) (hx : env.eval x = some v) (hp : Pick (Sl e v zs) L L1) (hsz0 : e.n = sz)
    (hlo : (lo = none ∧ l = 0) ∨ ∃ o K n, lo = some o ∧ env.eval o = some (.int K n) ∧ 0 ≤ n ∧ n.toNat = l)
    (hhi : (hi = none ∧ h = zs.length) ∨ ∃ o K n, hi = some o ∧ env.eval o = some (.int K n) ∧ 0 ≤ n ∧ n.toNat = h)
    (h1 : l ≤ h) (h2 : h ≤ zs.length) (hd : d < X.fn.ntmps)
    (k : ∀ u, Kont X ((d, u) :: env) (Sl e u ((zs.take h).drop l) :: Sl e v zs :: L1) K) :
    StepK X kk ⟨some d, .slice t x lo hi none, T, pos, af, none⟩ env L K := by
  subst hsz0
  refine s_main (γ := Value) (V := fun u => u) (pu := fun _ => True) (L' := fun u => Sl e u ((zs.take h).drop l) :: Sl e v zs :: L1) ?_ hd (fun u _ => k u)
  intro a w O ha hst hdom
  obtain ⟨O1, O2, s, hs1, hs2⟩ := hp w O hst
  have hs1' := hs1
  obtain ⟨a0, cap, rfl, g1, g2, g3⟩ := hs1'
  obtain ⟨ti, hi', _, hsz, _⟩ := hE
  have hcut : ∀ w O, (Sl e (.slice a0 zs.length cap) zs).h w O → (Sl e (.slice (if cap = l then a0 else a0.map (·.add (l * e.n))) (h - l) (cap - l)) ((zs.take h).drop l)).h w O := fun w O hh => SlP.cut hh h1 h2 (by omega) (Nat.le_refl _)
  refine ⟨.slice (if cap = l then a0 else a0.map (·.add (l * e.n))) (h - l) (cap - l), w, O, ?_, trivial, ?_, Rel.refl hdom⟩
  · have hbl : ∀ {o : Operand} {K : IntKind} {n : Int} {m : Nat} {c : BoundsCode}, env.eval o = some (.int K n) → 0 ≤ n → n.toNat ≤ m → (Instr.sliceBound (a.eval o) m c).run X.P w = .ok n.toNat w := by
      intro o K n m c ho h0 hm
      rw [ha.eval ho, run_sliceBound (w := w) K n m c h0 (by omega)]
    have hbd : (Instr.sliceBounds true zs.length cap (lo.map a.eval) (hi.map a.eval) none).run X.P w = .ok (l, h, cap) w := by
      rcases hlo with ⟨rfl, rfl⟩ | ⟨o1, K1, n1, rfl, ho1, hn1, rfl⟩ <;> rcases hhi with ⟨rfl, rfl⟩ | ⟨o2, K2, n2, rfl, ho2, hn2, rfl⟩
      · simp [Instr.sliceBounds]
      · simp [Instr.sliceBounds, hbl (m := cap) (c := .sliceAcap) ho2 hn2 (by omega)]
      · simp [Instr.sliceBounds, hbl (m := zs.length) (c := .sliceB) ho1 hn1 (by omega)]
      · simp [Instr.sliceBounds, hbl (m := cap) (c := .sliceAcap) ho2 hn2 (by omega), hbl (m := n2.toNat) (c := .sliceB) ho1 hn1 (by omega)]
    have hst : (Instr.sliceAt t (.slice a0 zs.length cap) (lo.map a.eval) (hi.map a.eval) none).run X.P w = .ok (.slice (if cap = l then a0 else a0.map (·.add (l * e.n))) (h - l) (cap - l)) w := by
      simp [Instr.sliceAt, Instr.slice, run_underlying hu, hbd, sizeOf, typeInfo, hi', hsz]
    simp [execOp, ha.eval hx, hst]
  · have := Lend.pick (L := Sl e (.slice a0 zs.length cap) zs :: L1) (b := Sl e (.slice (if cap = l then a0 else a0.map (·.add (l * e.n))) (h - l) (cap - l)) ((zs.take h).drop l)) Pick.here (Lend.dup (Sl.isDup e _ zs) hcut) w O ⟨O1, O2, s, hs1, hs2⟩
    exact this
end
end Go.SL

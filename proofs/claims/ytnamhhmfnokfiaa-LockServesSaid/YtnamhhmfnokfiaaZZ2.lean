/- The texts Q6, Q7, Q8, QA, QB, QR, QS, QM, QN, QK, one behind the other. -/
import Derived.Test.YtnamhhmfnokfiaaZZ1
import Derived.Deep.Quiet
import Derived.OrdersHeld
import Derived.Laws.BytesArg
import Derived.Lib.Strings
import Derived.Lib.UnsafeStr
import Derived.RangeFuncRecord
import Derived.RangeFuncLeaves
import Derived.WideLaws
import Derived.MapKept
import Derived.Maps.RangeRun
set_option linter.unusedVariables false
set_option linter.unusedSimpArgs false
/- Regions that draw their order. -/
namespace Go.SL
open Go

theorem draw_stars {L : List A} {w : World} {O : Perm} (h : Stars L w O) : Stars L { w with drawn := w.drawn + 1 } O := h.loc fun _ _ => rfl
theorem draw_rel {w0 w : World} {O0 O : Perm} (h : Rel w0 O0 w O) : Rel w0 O0 { w with drawn := w.drawn + 1 } O := ⟨h.os, h.tape, h.output, h.size, h.old, h.perm, h.dom⟩

theorem ok_any {X : Cx} {k : List Item} {ops : Array Oper} {id : Nat} {a : Act} {w : World} (hm : X.P.follows .mixedOrders = true) (hnd : noDefer ops.toList = true)
    (h : wpAny X.P .any ops (Qn X k) ops.size (Array.replicate ops.size false) a { w with drawn := w.drawn + 1 }) : Ok X (.code (.region id ops true) :: k) a w := by
  intro b hb hk hro cs
  have hst := stepR_region_draw (P := X.P) (b := b) (a := a) (k := k) (cs := cs) (w := w) (ops := ops) (id := id)
  have h2 : wpOps X.P ops (Qn X k) (Region.schedule (X.P.follows .mixedOrders) ops (w.tape w.drawn (.order b.fn id))) a { w with drawn := w.drawn + 1 } := by
    simp only [Region.schedule, hm, Bool.true_or, if_true]
    exact wpAny_sound ops.size _ _ a _ h
  obtain ⟨v, w', fr, O', hR, hrel, hst', hf⟩ := ok_ops hnd _ _ _ h2 b hb hk hro cs
  exact ⟨v, w', fr, O', hR, hrel, (Steps.one hst).trans hst', hf⟩

/-- The worlds in which L holds. -/
def QC (X : Cx) (L : List A) : World → Prop := fun w => ∃ O, Stars L w O ∧ Rel X.w0 X.O0 w O
def Qops (X : Cx) (ops : Array Oper) (l : List Oper) (k : List Item) (env : Env) (L : List A) : Prop :=
  ∀ a, Holds X env a → wpQuiet X.P ops (QC X L) (fun a' => ∀ w', QC X L w' → Qn X k .normal a' w') l a

section
variable {X : Cx} {ops : Array Oper} {rest : List Oper} {kk : List Item} {env env' : Env} {L L1 : List A}
/-- A region that draws its order and only reads. -/
theorem c_quiet {id : Nat} {l : List Oper} (hm : X.P.follows .mixedOrders = true) (hB : Region.lexB .any l.toArray = true) (h : Qops X l.toArray l kk env L) (hnd : noDefer l = true := by rfl) : Cfg X (.code (.region id l.toArray true) :: kk) env L := by
  intro a w O ha hs hr
  simp only [Region.lexB, Bool.and_eq_true] at hB
  refine ok_any hm (by simpa using hnd) (wpAny_of_quiet (Q := fun a' => ∀ w', QC X L w' → Qn X kk .normal a' w') (fun _ w' hw' h => h w' hw') _ _ _ _ ⟨O, draw_stars hs, draw_rel hr⟩ ?_)
  have := wpAnyQ_lex (C := QC X L) (md := .any) hB.1 l 0 (Array.replicate l.length false) a (by simp) (by simpa using hB.2) (h a ha)
  simpa using this
theorem q_nil (h : Cfg X kk env L) : Qops X ops [] kk env L := fun a ha w' ⟨O, hs, hr⟩ => ⟨rfl, h a w' O ha hs hr⟩
theorem q_val {v : Value} {d : Nat} {op : Op} {T : TypeId} {pos : String} {af : Array Edge} (h : Val X env L op T v) (hd : d < X.fn.ntmps) (k : Qops X ops rest kk ((d, v) :: env) L) :
    Qops X ops (⟨some d, op, T, pos, af, none⟩ :: rest) kk env L := by
  intro a ha
  simp only [wpQuiet, Region.wanted, if_true]
  refine ⟨v, fun w ⟨O, hs, _⟩ => ?_, k _ (ha.put hd v)⟩
  simp only [Oper.quietAt, h (some d) pos af none a w O ha hs, Oper.quietUpon, and_self]
theorem q_call {γ : Type} {ret : γ → Value} {pu : γ → Prop} {g : FuncId} {xs : List Operand} {args : List Value} {ts : Array TypeId} {Lp : List A} {d : Nat} {T : TypeId} {pos : String} {af : Array Edge} {v : Value}
    (hc : Callable X.P g) (spec : Con X.P g args Lp ret pu fun _ => []) (hv : ∀ g, pu g → ret g = v) (hx : evalAll env xs = some args) (hd : d < X.fn.ntmps) (hp : Picks Lp L L)
    (k : Qops X ops rest kk ((d, v) :: env) L) :
    Qops X ops (⟨some d, .call ⟨.value (.func g), xs.toArray, ts⟩, T, pos, af, none⟩ :: rest) kk env L := by
  intro a ha
  simp only [wpQuiet, Region.wanted, if_true]
  refine ⟨v, fun w ⟨O, hs, hr⟩ => ?_, k _ (ha.put hd v)⟩
  have hrun : (execOp a.eval ⟨some d, .call ⟨.value (.func g), xs.toArray, ts⟩, T, pos, af, none⟩).run X.P w = .ok (.enter g args.toArray) w := by
    have h1 := ha.all hx
    have h2 : Env.eval env (.func g) = some (.func (.func g) #[] #[]) := rfl
    simp only [execOp, resolve, ha.eval h2, Deferred.ofValue, pure_bind, invoke, List.map_toArray, h1]
    have hargs : #[] ++ args.toArray ++ #[] = args.toArray := by simp
    rw [hargs]
    exact hc _ _
  simp only [Oper.quietAt, hrun, Oper.quietUpon, true_and]
  obtain ⟨O1, O2, s, h1, h2⟩ := hp.split w O hs
  refine (spec w O1 h1 (fun b hb => hr.dom b (by have := s.l b; omega))).mono ?_
  rintro e w' ⟨g, O', rfl, hpu, _, hrel⟩
  obtain ⟨s', h2', hrel'⟩ := frame hr.dom s h2 hrel
  exact ⟨by rw [hv g hpu], _, h2'.mono s'.r, hr.trans hrel'⟩
theorem q_guard {j s : Nat} {t want : Bool} {d : Option Nat} {op : Op} {T : TypeId} {pos : String} {af : Array Edge}
    (hj : (ops[j]?).bind (·.dst) = some s) (ht : env.look s = some (.bool t))
    (hy : t = want → Qops X ops (⟨d, op, T, pos, af, none⟩ :: rest) kk ((s, .bool want) :: env) L)
    (hn : t = !want → Qops X ops (⟨d, op, T, pos, af, some (j, want)⟩ :: rest) kk ((s, .bool (!want)) :: env) L) :
    Qops X ops (⟨d, op, T, pos, af, some (j, want)⟩ :: rest) kk env L := by
  intro a ha
  have hy1 : yielded ops a.tmps j = some t := by simp [yielded, hj, ha.look s _ ht]
  by_cases e : t = want
  · subst e
    have ha' : Holds X ((s, .bool t) :: env) a := ⟨ha.size, ha.defers, fun u v hu => by
      rcases Env.look_cons hu with ⟨rfl, rfl⟩ | ⟨_, hu⟩
      · exact ha.look _ _ ht
      · exact ha.look _ _ hu⟩
    have := hy rfl a ha'
    simp only [wpQuiet, Region.wanted, hy1, beq_self_eq_true, if_true] at this ⊢
    exact this
  · have e' : t = !want := by cases t <;> cases want <;> simp_all
    refine hn e' a ⟨ha.size, ha.defers, fun u v hu => ?_⟩
    rcases Env.look_cons hu with ⟨rfl, rfl⟩ | ⟨_, hu⟩
    · rw [← e']; exact ha.look _ _ ht
    · exact ha.look _ _ hu
theorem q_on {j s : Nat} {want : Bool} {d : Option Nat} {op : Op} {T : TypeId} {pos : String} {af : Array Edge}
    (hj : (ops[j]?).bind (·.dst) = some s) (ht : env.look s = some (.bool want))
    (h : Qops X ops (⟨d, op, T, pos, af, none⟩ :: rest) kk env L) : Qops X ops (⟨d, op, T, pos, af, some (j, want)⟩ :: rest) kk env L := by
  intro a ha
  have hy1 : yielded ops a.tmps j = some want := by simp [yielded, hj, ha.look s _ ht]
  have := h a ha
  simp only [wpQuiet, Region.wanted, hy1, beq_self_eq_true, if_true] at this ⊢
  exact this
theorem q_off {j s : Nat} {t want : Bool} {d : Nat} {op : Op} {T : TypeId} {pos : String} {af : Array Edge}
    (hj : (ops[j]?).bind (·.dst) = some s) (ht : env.look s = some (.bool t)) (hne : t = !want) (hd : d < X.fn.ntmps)
    (h : Qops X ops rest kk ((d, undef) :: env) L) : Qops X ops (⟨some d, op, T, pos, af, some (j, want)⟩ :: rest) kk env L := by
  intro a ha
  have hy1 : yielded ops a.tmps j = some t := by simp [yielded, hj, ha.look s _ ht]
  have hw : (some t == some want) = false := by subst hne; cases want <;> rfl
  simp only [wpQuiet, Region.wanted, hy1, hw, Bool.false_eq_true, if_false]
  exact h _ (ha.put hd _)

/-! ### a region that draws its order and writes: what only reads first -/
def Any (X : Cx) (ops : Array Oper) (S : List A) (fuel : Nat) (listed : Array Bool) (k : List Item) (env : Env) (L : List A) : Prop :=
  Kont X env L fun a w => wpAnyH X.P .any ops (Qn X k) (fun w => ∃ O, Stars S w O) fuel listed a w
theorem c_held {id : Nat} {l : List Oper} (S : List A) (hm : X.P.follows .mixedOrders = true) (h : Any X l.toArray S l.length (Array.replicate l.length false) kk env L) (hnd : noDefer l = true := by rfl) : Cfg X (.code (.region id l.toArray true) :: kk) env L := by
  intro a w O ha hs hr
  refine ok_any hm (by simpa using hnd) (wpAny_of_held (S := fun w => ∃ O, Stars S w O) _ _ _ _ ?_)
  simpa using h a _ O ha (draw_stars hs) (draw_rel hr)
theorem a_take {S : List A} {fuel : Nat} {listed : Array Bool} (i : Nat) {v : Value} {d : Nat} {op : Op} {T : TypeId} {pos : String} {af : Array Edge} (hi : ops[i]? = some ⟨some d, op, T, pos, af, none⟩) (hs : Region.noSelect ops = true)
    (hf : Region.free .any ops listed i = true) (hr : (Region.ready .any ops listed).contains i = true) (hv : Val X env S op T v) (hS : Ent L S) (hd : d < X.fn.ntmps)
    (k : Any X ops S fuel (listed.setIfInBounds i true) kk ((d, v) :: env) L) : Any X ops S (fuel + 1) listed kk env L := by
  intro a w O ha hst hrel
  exact wpAnyH_take hi hs hf hr (fun _ _ _ h => by cases h.1) (.inl ⟨rfl, fun w ⟨O, hs'⟩ => hv _ _ _ _ a w O ha hs'⟩) ⟨O, hS w O hst⟩ (k _ w O (ha.put hd v) hst hrel)
/-- The one operation that may come up. -/
theorem a_one {S : List A} {fuel : Nat} {listed : Array Bool} (i : Nat) {d : Option Nat} {op : Op} {T : TypeId} {pos : String} {af : Array Edge} (hi : ops[i]? = some ⟨d, op, T, pos, af, none⟩) (hr : Region.ready .any ops listed = [i])
    (h : StepK X kk ⟨d, op, T, pos, af, none⟩ env L fun a w => (∃ O, Stars S w O) ∧ wpAnyH X.P .any ops (Qn X kk) (fun w => ∃ O, Stars S w O) fuel (listed.setIfInBounds i true) a w) : Any X ops S (fuel + 1) listed kk env L := by
  intro a w O ha hst hrel
  refine wpAnyH_all hr (by simp) fun j hj => ?_
  obtain rfl : j = i := by simpa using hj
  simp only [wpOp, hi, Region.wanted, if_true]
  exact .inl (h a w O ha hst hrel)
/-- On. -/
theorem a_on {S : List A} {fuel : Nat} {listed : Array Bool} (hS : Ent L S) (h : Any X ops S fuel listed kk env L) : Kont X env L fun a w => (∃ O, Stars S w O) ∧ wpAnyH X.P .any ops (Qn X kk) (fun w => ∃ O, Stars S w O) fuel listed a w :=
  fun a w O ha hst hrel => ⟨⟨O, hS w O hst⟩, h a w O ha hst hrel⟩
theorem a_done {S : List A} {listed : Array Bool} (hr : Region.ready .any ops listed = []) (h : Cfg X kk env L) (fuel : Nat) : Any X ops S fuel listed kk env L :=
  fun a w O ha hst hrel => wpAnyH_done hr ⟨rfl, h a w O ha hst hrel⟩ fuel
end
end Go.SL
/- Made slices; bytes and strings; values inside a step. -/
namespace Go.SL
open Go

def eByte : Enc UInt8 := eMap (fun b => (b.toNat : Int)) (eInt .u8)
theorem eByte_rows {w : World} {O : Perm} {cs : List Value} {l : List UInt8} : Rows eByte w O cs l ↔ cs = l.map fun b => .int .u8 b.toNat := by
  induction l generalizing cs with
  | nil => simp [Rows]
  | cons b l ih =>
    simp only [Rows, List.map_cons]
    constructor
    · rintro ⟨c1, c2, rfl, h1, h2⟩
      rw [ih] at h2
      have h1' : c1 = [.int .u8 b.toNat] := h1
      rw [h1', h2]; rfl
    · rintro rfl
      exact ⟨[.int .u8 b.toNat], _, rfl, rfl, ih.2 rfl⟩

section
variable {K : Act → World → Prop} {X : Cx} {ops : Array Oper} {rest : List Oper} {kk : List Item} {env : Env} {L L1 L2 : List A} {d : Nat} {T : TypeId} {pos : String} {af : Array Edge} {x y : Operand}
variable {α : Type} {e : Enc α} {v u : Value} {zs ys : List α} {E : TypeId}

theorem s_val {v : Value} {op : Op} (h : Val X env L op T v) (hd : d < X.fn.ntmps) (k : Kont X ((d, v) :: env) L K) : StepK X kk ⟨some d, op, T, pos, af, none⟩ env L K :=
  s_main (γ := Unit) (V := fun _ => v) (pu := fun _ => True) (L' := fun _ => L) (fun a w O ha hs hdom => ⟨(), w, O, h _ _ _ _ a w O ha hs, trivial, hs, Rel.refl hdom⟩) hd (fun _ _ => k)

theorem v_conv_bytes {sT dT : TypeId} {l : List UInt8} (hs : X.P.underlying sT = some (.slice E)) (he : X.P.underlying E = some (.int .u8)) (hu : X.P.underlying dT = some .string) (hx : env.eval x = some v) (hl : Has L (Sl eByte v l)) :
    Val X env L (.convert sT dT x) T (.string ⟨l.toArray⟩) :=
  fun _ _ _ _ a w O ha hst => by
    obtain ⟨a0, cap, rfl, _, _, h3⟩ := hl w O hst
    have hrun : (convert sT dT (.slice a0 l.length cap)).run X.P w = .ok (.string ⟨l.toArray⟩) w := by
      rcases h3 with ⟨_, rfl⟩ | ⟨b, off, cs, rfl, _, hr, hc⟩
      · cases a0 with
        | some a => simp [convert, run_underlying hs, run_underlying hu, run_underlying he, loadCells, loadCellsFrom, Conv.bytesToString]; rfl
        | none =>
        rw [List.length_nil, run_convert_bytes_nil w sT E hs he]
        · rfl
        · exact hu
      · rw [eByte_rows] at hr
        subst hr
        rw [run_convert_bytes_arg w sT E hs he b off l.length cap (l.map fun b => (b.toNat : Int)) (by simp) ?_ dT hu]
        · congr 2
          simp [strOfNums, Function.comp_def]
        · intro i hi
          refine hc i _ ?_
          simp [hi]
    simp [execOp, ha.eval hx, hrun]

theorem o_guard_t {j s : Nat} {p : Prop} [Decidable p] {d : Option Nat} {op : Op} (hj : (ops[j]?).bind (·.dst) = some s) (ht : env.look s = some (.bool (decide p)))
    (hy : p → Ops X ops (⟨d, op, T, pos, af, none⟩ :: rest) kk ((s, .bool true) :: env) L)
    (hn : ¬ p → Ops X ops (⟨d, op, T, pos, af, some (j, true)⟩ :: rest) kk ((s, .bool false) :: env) L) : Ops X ops (⟨d, op, T, pos, af, some (j, true)⟩ :: rest) kk env L :=
  o_guard hj ht (fun h => hy (of_decide_eq_true h)) (fun h => hn (of_decide_eq_false h))
theorem o_guard_f {j s : Nat} {p : Prop} [Decidable p] {d : Option Nat} {op : Op} (hj : (ops[j]?).bind (·.dst) = some s) (ht : env.look s = some (.bool (decide p)))
    (hy : ¬ p → Ops X ops (⟨d, op, T, pos, af, none⟩ :: rest) kk ((s, .bool false) :: env) L)
    (hn : p → Ops X ops (⟨d, op, T, pos, af, some (j, false)⟩ :: rest) kk ((s, .bool true) :: env) L) : Ops X ops (⟨d, op, T, pos, af, some (j, false)⟩ :: rest) kk env L :=
  o_guard hj ht (fun h => hy (of_decide_eq_false h)) (fun h => hn (of_decide_eq_true h))
theorem q_guard_t {j s : Nat} {p : Prop} [Decidable p] {d : Option Nat} {op : Op} (hj : (ops[j]?).bind (·.dst) = some s) (ht : env.look s = some (.bool (decide p)))
    (hy : p → Qops X ops (⟨d, op, T, pos, af, none⟩ :: rest) kk ((s, .bool true) :: env) L)
    (hn : ¬ p → Qops X ops (⟨d, op, T, pos, af, some (j, true)⟩ :: rest) kk ((s, .bool false) :: env) L) : Qops X ops (⟨d, op, T, pos, af, some (j, true)⟩ :: rest) kk env L :=
  q_guard hj ht (fun h => hy (of_decide_eq_true h)) (fun h => hn (of_decide_eq_false h))
theorem q_guard_f {j s : Nat} {p : Prop} [Decidable p] {d : Option Nat} {op : Op} (hj : (ops[j]?).bind (·.dst) = some s) (ht : env.look s = some (.bool (decide p)))
    (hy : ¬ p → Qops X ops (⟨d, op, T, pos, af, none⟩ :: rest) kk ((s, .bool false) :: env) L)
    (hn : p → Qops X ops (⟨d, op, T, pos, af, some (j, false)⟩ :: rest) kk ((s, .bool true) :: env) L) : Qops X ops (⟨d, op, T, pos, af, some (j, false)⟩ :: rest) kk env L :=
  q_guard hj ht (fun h => hy (of_decide_eq_false h)) (fun h => hn (of_decide_eq_true h))

/-! ### slices that are written out -/
theorem fold_set (off : Nat) : ∀ (l : List Value) (k : Nat) (cells : Array Value), off + k + l.length ≤ cells.size →
    (l.zipIdx k).foldl (fun cs (x : Value × Nat) => cs.setIfInBounds (off + x.2) x.1) cells = (cells.toList.take (off + k) ++ l ++ cells.toList.drop (off + k + l.length)).toArray := by
  intro l
  induction l with
  | nil => intro k cells h; simp
  | cons c l ih =>
    intro k cells h
    simp only [List.length_cons] at h
    rw [List.zipIdx_cons, List.foldl_cons, ih (k + 1) _ (by simp; omega)]
    obtain ⟨C⟩ := cells
    simp only [List.size_toArray] at h
    have hlt : off + k < C.length := by omega
    congr 1
    simp only [List.setIfInBounds_toArray]
    rw [show off + (k + 1) = (off + k) + 1 by omega, List.drop_set_of_lt (by omega)]
    have h1 : (C.set (off + k) c).take (off + k + 1) = C.take (off + k) ++ [c] := by
      rw [List.take_succ_eq_append_getElem (by simpa using hlt), List.take_set_of_le (by omega)]
      simp
    rw [h1, List.length_cons, show off + k + 1 + l.length = off + k + (l.length + 1) by omega]
    simp
theorem fill_row (size : Nat) : ∀ (vs : List Value) (i : Nat) (cells : Array Value), (∀ v ∈ vs, v.cells.size = size) → cells.size = (i + vs.length) * size →
    Instr.fill (fun i => some (i * size, size)) cells ((vs.zipIdx i).map fun (x : Value × Nat) => (x.2, x.1)) = some (cells.toList.take (i * size) ++ (vs.map (fun u : Value => u.cells.toList)).flatten).toArray := by
  intro vs
  induction vs with
  | nil => intro i cells _ h; simp [Instr.fill]; rw [List.take_of_length_le (by simp [h])]
  | cons v vs ih =>
    intro i cells hv h
    have hsz := hv v List.mem_cons_self
    simp only [List.length_cons] at h
    have hle : i * size + size ≤ cells.size := by rw [h, Nat.add_mul, Nat.add_mul]; omega
    simp only [List.zipIdx_cons, List.map_cons, Instr.fill]
    rw [if_neg (by simp [hsz]; omega)]
    have hf := fold_set (i * size) v.cells.toList 0 cells (by simp [hsz]; omega)
    have e1 : (cells.toList.take (i * size)).length = i * size := by rw [List.length_take, Array.length_toList]; omega
    have e2 : v.cells.toList.length = size := by simp [hsz]
    have hcon : (v.cells.zipIdx.foldl (fun cs (x : Value × Nat) => cs.setIfInBounds (i * size + x.2) x.1) cells) = (cells.toList.take (i * size) ++ v.cells.toList ++ cells.toList.drop (i * size + size)).toArray := by
      rw [← Array.foldl_toList]
      simpa [hsz] using hf
    have hlen : ((cells.toList.take (i * size) ++ v.cells.toList ++ cells.toList.drop (i * size + size)).toArray).size = (i + 1 + vs.length) * size := by
      rw [List.size_toArray, List.length_append, List.length_append, e1, e2, List.length_drop, Array.length_toList, h]
      simp only [Nat.add_mul]; omega
    rw [hcon, ih (i + 1) _ (fun u hu => hv u (List.mem_cons_of_mem _ hu)) hlen]
    congr 2
    simp only [List.flatten_cons]
    rw [List.take_left' (by rw [List.length_append, e1, e2, Nat.add_mul]; omega), List.append_assoc]
/-- The values of a slice that is written out, in order. -/
def partsOf (env : Env) : Nat → List (Nat × Operand) → Option (List Value)
  | _, [] => some []
  | i, (j, x) :: ps => if i = j then match env.eval x, partsOf env (i + 1) ps with
      | some v, some vs => some (v :: vs)
      | _, _ => none
    else none
theorem partsOf_map {X : Cx} {env : Env} {a : Act} (ha : Holds X env a) : ∀ {ps : List (Nat × Operand)} {i : Nat} {vs : List Value}, partsOf env i ps = some vs → ps.map (fun (x : Nat × Operand) => (x.1, a.eval x.2)) = (vs.zipIdx i).map fun (x : Value × Nat) => (x.2, x.1) := by
  intro ps
  induction ps with
  | nil => intro i vs h; simp [partsOf] at h; simp [h]
  | cons p ps ih =>
    obtain ⟨j, x⟩ := p
    intro i vs h
    unfold partsOf at h
    split at h
    · rename_i hij
      subst hij
      split at h
      · rename_i v vs' h1 h2
        cases h
        simp only [List.map_cons, List.zipIdx_cons, ha.eval h1, ih h2]
      · cases h
    · cases h
/-- What such a slice's values read as. -/
def RowsA {α : Type} (e : Enc α) (vs : List Value) (xs : List α) : A := ⟨fun w O => Rows e w O (vs.map (fun u : Value => u.cells.toList)).flatten xs ∧ ∀ v ∈ vs, v.cells.size = e.n, fun h hO => ⟨h.1.mono hO, h.2⟩, fun h hw => ⟨h.1.loc hw, h.2⟩⟩
theorem RowsA.isDup {α : Type} (e : Enc α) (vs : List Value) (xs : List α) : (RowsA e vs xs).Dup := fun _ _ h => ⟨h.1.dup, h.2⟩
theorem Beside.pure {a : A} {L : List A} (h : ∀ w, a.h w fun _ => 0) : Beside a L := fun w O hs =>
  ⟨fun _ => 0, O, ⟨fun b => Nat.zero_le _, fun b => Nat.le_refl _, fun b h => by omega, fun b h => rfl⟩, h w, hs⟩
theorem run_buildSlice {P : Program} {t : TypeId} {z : Value} {n nb : Nat} {w : World} (hu : P.underlying t = some (.slice E)) (hE : TI P E z n nb) (hzs : z.cells.size = n) {vs : List Value} (hv : ∀ v ∈ vs, v.cells.size = n) (hn : vs.length * n ≤ 16777216) {parts : Array (Nat × Value)}
    (hp : parts.toList = (vs.zipIdx 0).map fun (x : Value × Nat) => (x.2, x.1)) :
    (Instr.buildSlice t vs.length parts).run P w = .ok (.slice (some ⟨w.heap.size, 0, none⟩) vs.length vs.length) (w.alloc (.cells (vs.map (fun u : Value => u.cells.toList)).flatten.toArray E)) := by
  obtain ⟨i, hi, hz, hsz, _⟩ := hE
  have hfill := fill_row n vs 0 ((Array.range (vs.length * n)).map (z.cells[· % z.cells.size]!)) hv (by simp)
  have hfill0 := fill_row n vs 0 ((Array.range (vs.length * n)).map ((#[] : Array Value)[· % (#[] : Array Value).size]!)) hv (by simp)
  simp only [Nat.zero_mul, List.take_zero, List.nil_append] at hfill hfill0
  have hne : ¬ (vs.length * n > 2 ^ 24) := by omega
  by_cases h0 : vs.length * n = 0
  · simp [Instr.buildSlice, run_underlying hu, sizeOf, typeInfo, hi, hsz, hp, h0, newRow, newObj, Sem.run]
    rw [h0] at hfill0
    simp at hfill0
    simp [hfill0, Sem.run]
  · simp [Instr.buildSlice, run_underlying hu, sizeOf, typeInfo, hi, hsz, hp, h0, hne, zeroValue, hz, newRow, newObj, Sem.run]
    simp [hfill, Sem.run]
theorem s_buildSlice {t : TypeId} {z : Value} {nb n sz : Nat} {parts : List (Nat × Operand)} {vs : List Value} (hu : X.P.underlying t = some (.slice E)) (hE : TI X.P E z sz nb) (hzs : z.cells.size = sz) (hp : partsOf env 0 parts = some vs) (hn : vs.length = n)
    (hn2 : n * sz ≤ 16777216) (hn3 : n ≤ 16777216) (hb : Beside (RowsA e vs zs) L) (hlen : zs.length = n) (hsz0 : e.n = sz) (hd : d < X.fn.ntmps)
    (k : ∀ u, Kont X ((d, u) :: env) (Own e E u zs :: L) K) : StepK X kk ⟨some d, .buildSlice t n parts.toArray, T, pos, af, none⟩ env L K := by
  subst hsz0
  refine s_main (γ := Value) (V := fun u => u) (pu := fun _ => True) (L' := fun u => Own e E u zs :: L) ?_ hd (fun u _ => k u)
  intro a w O ha hst hdom
  obtain ⟨O1, O2, s, ⟨hr, hv⟩, hs2⟩ := hb w O hst
  subst hn
  have hrun := run_buildSlice (P := X.P) (w := w) (t := t) (E := E) hu hE hzs hv hn2 (parts := (parts.map fun (x : Nat × Operand) => (x.1, a.eval x.2)).toArray) (by simpa using partsOf_map ha hp)
  have hl : (vs.map (fun u : Value => u.cells.toList)).flatten.length = vs.length * e.n := by rw [← hlen]; exact hr.length
  have hO1 : O1 w.heap.size = 0 := by have := dom_zero hdom; have := s.l w.heap.size; omega
  refine ⟨.slice (some ⟨w.heap.size, 0, none⟩) vs.length vs.length, w.alloc (.cells (vs.map (fun u : Value => u.cells.toList)).flatten.toArray E), fresh w O, by simp [execOp, hrun], trivial, ?_, rel_alloc _ hdom⟩
  refine ⟨fun b => if b = w.heap.size then 2 else min (O1 b) 1, O2, ⟨fun b => ?_, fun b => ?_, fun b hb => ?_, fun b hb => ?_⟩, ?_, hs2.loc fun b hb => ?_⟩
  · have := s.l b; have := Nat.min_le_left (O1 b) 1
    show (if _ then _ else _) ≤ (if _ then _ else _)
    split
    · exact Nat.le_refl _
    · exact Nat.le_trans (Nat.min_le_left _ _) (s.l b)
  · have := s.r b
    show _ ≤ (if _ then _ else _)
    split
    · rename_i h; have h2 := dom_zero hdom; rw [← h] at h2; omega
    · exact this
  · by_cases h : b = w.heap.size
    · have h2 := dom_zero hdom; have := s.r b; rw [← h] at h2; omega
    · have hb' : 2 ≤ (if b = w.heap.size then 2 else min (O1 b) 1) := hb
      have := Nat.min_le_right (O1 b) 1
      rw [if_neg h] at hb'; omega
  · show (if _ then _ else _) = 0
    have := s.rl b hb; have := Nat.min_le_left (O1 b) 1
    split
    · rename_i h; have h2 := dom_zero hdom; have := s.r b; rw [← h] at h2; omega
    · exact Nat.le_antisymm (Nat.le_trans (Nat.min_le_left _ _) (Nat.le_of_eq (s.rl b hb))) (Nat.zero_le _)
  · refine ⟨fun b => if b = w.heap.size then 2 else 0, fun b => min (O1 b) 1, (vs.map (fun u : Value => u.cells.toList)).flatten, ⟨fun b => ?_, fun b => ?_, fun b hb => ?_, fun b hb => ?_⟩, ?_, fun k hk => ?_, ?_⟩
    · show (if _ then _ else _) ≤ (if _ then _ else _); split <;> omega
    · have := Nat.min_le_right (O1 b) 1; show _ ≤ (if _ then _ else _); split
      · omega
      · exact Nat.le_refl _
    · by_cases h : b = w.heap.size
      · rw [h, hO1]; rfl
      · have hb' : 2 ≤ (if b = w.heap.size then 2 else 0) := hb
        rw [if_neg h] at hb'; omega
    · have : 2 ≤ min (O1 b) 1 := hb; have := Nat.min_le_right (O1 b) 1; omega
    · rw [hlen]
      exact World.ownsRow_lit w (vs.map (fun u : Value => u.cells.toList)).flatten.toArray vs.length (Nat.zero_le _) (by simp only [maxLen]; omega) (by simpa using hl)
    · simp only [Value.ownBlock, Option.some.injEq] at hk
      subst hk; simp
    · refine (hr.dup).loc fun b hb => ?_
      have hb' : O1 b ≠ 0 := by intro h; apply hb; show min (O1 b) 1 = 0; have := Nat.min_le_left (O1 b) 1; omega
      have := hdom b (by have := s.l b; omega)
      show (w.heap.push _)[b]? = _
      rw [Array.getElem?_push, if_neg (by omega)]
  · have := hdom b (by have := s.r b; omega)
    show (w.heap.push _)[b]? = _
    rw [Array.getElem?_push, if_neg (by omega)]
theorem Pick.own_sl {α : Type} {e : Enc α} {T : TypeId} {v : Value} {xs : List α} {L : List A} : Pick (Sl e v xs) (Own e T v xs :: L) L := Pick.of Pick.here fun _ _ h => Own.sl h
theorem rows_scalar {α : Type} {e : Enc α} {f : α → Value} (hf : ∀ w O x, e.rd w O [f x] x) (hc : ∀ x, (f x).cells = #[f x]) (w : World) (O : Perm) : ∀ xs : List α, Rows e w O ((xs.map f).map (fun u : Value => u.cells.toList)).flatten xs
  | [] => rfl
  | x :: xs => ⟨[f x], _, by simp [hc], hf w O x, rows_scalar hf hc w O xs⟩
theorem beside_scalar {α : Type} {e : Enc α} {f : α → Value} {L : List A} (h1 : e.n = 1) (hf : ∀ w O x, e.rd w O [f x] x) (hc : ∀ x, (f x).cells = #[f x]) (xs : List α) : Beside (RowsA e (xs.map f) xs) L :=
  Beside.pure fun w => ⟨rows_scalar hf hc w _ xs, fun v hv => by
    obtain ⟨x, _, rfl⟩ := List.mem_map.1 hv
    rw [hc, h1]; rfl⟩
theorem beside_str {L : List A} (xs : List ByteArray) : Beside (RowsA eStr (xs.map .string) xs) L := beside_scalar rfl (fun _ _ _ => rfl) (fun _ => rfl) xs
theorem beside_int {L : List A} (k : IntKind) (xs : List Int) : Beside (RowsA (eInt k) (xs.map (.int k)) xs) L := beside_scalar rfl (fun _ _ _ => rfl) (fun _ => rfl) xs
theorem beside_byte {L : List A} (xs : List UInt8) : Beside (RowsA eByte (xs.map fun b => .int .u8 b.toNat) xs) L := beside_scalar rfl (fun _ _ _ => rfl) (fun _ => rfl) xs
end
theorem sAt_nat (s : ByteArray) (k : Nat) (h : k < s.size) : sAt s (k : Int) = ((s.data.toList[k]'(by rw [← Lib.size_eq]; exact h)).toNat : Int) := by
  simp only [sAt, Int.toNat_natCast, List.getD_eq_getElem?_getD]
  rw [List.getElem?_eq_getElem (by rw [← Lib.size_eq]; exact h)]; rfl
theorem byte_of {b : UInt8} {n : Nat} (h : ((b.toNat : Nat) : Int) = (n : Int)) (hn : n < 256) : b = UInt8.ofNat n := by
  have : b.toNat = n := by omega
  rw [← this]; simp
end Go.SL
/- Cuts with explicit values; slices that may be appended to without being owned (their capacity is their length). -/
namespace Go.SL
open Go

section
variable {K : Act → World → Prop} {X : Cx} {ops : Array Oper} {rest : List Oper} {kk : List Item} {env : Env} {L L1 L2 : List A} {d : Nat} {T : TypeId} {pos : String} {af : Array Edge} {x y : Operand}
variable {α : Type} {e : Enc α} {v u : Value} {zs ys : List α} {E : TypeId}

def cutV (a0 : Option Addr) (l h c n : Nat) : Value := .slice (if c = l then a0 else a0.map (·.add (l * n))) (h - l) (c - l)
theorem v_slice {t : TypeId} {z0 : Value} {bt n len cap : Nat} {a0 : Option Addr} {lo hi mx : Option Operand} {l h c : Nat} (hu : X.P.underlying t = some (.slice E)) (hE : TI X.P E z0 n bt) (hx : env.eval x = some (.slice a0 len cap))
    (hlo : (lo = none ∧ l = 0) ∨ ∃ o K n, lo = some o ∧ env.eval o = some (.int K n) ∧ 0 ≤ n ∧ n.toNat = l)
    (hhi : (hi = none ∧ h = len ∧ mx = none) ∨ ∃ o K n, hi = some o ∧ env.eval o = some (.int K n) ∧ 0 ≤ n ∧ n.toNat = h)
    (hmx : (mx = none ∧ c = cap) ∨ ∃ o K n, mx = some o ∧ env.eval o = some (.int K n) ∧ 0 ≤ n ∧ n.toNat = c)
    (h1 : l ≤ h) (h2 : h ≤ c) (h3 : c ≤ cap) :
    Val X env L (.slice t x lo hi mx) T (cutV a0 l h c n) := by
  intro _ _ _ _ a w O ha _
  obtain ⟨ti, hi', _, hsz, _⟩ := hE
  have hbl : ∀ {o : Operand} {K : IntKind} {n : Int} {m : Nat} {c : BoundsCode}, env.eval o = some (.int K n) → 0 ≤ n → n.toNat ≤ m → (Instr.sliceBound (a.eval o) m c).run X.P w = .ok n.toNat w := by
    intro o K n m c ho h0 hm
    rw [ha.eval ho, run_sliceBound (w := w) K n m c h0 (by omega)]
  have hbd : (Instr.sliceBounds true len cap (lo.map a.eval) (hi.map a.eval) (mx.map a.eval)).run X.P w = .ok (l, h, c) w := by
    rcases hmx with ⟨rfl, rfl⟩ | ⟨o3, K3, n3, rfl, ho3, hn3, rfl⟩
    · rcases hlo with ⟨rfl, rfl⟩ | ⟨o1, K1, n1, rfl, ho1, hn1, rfl⟩ <;> rcases hhi with ⟨rfl, rfl, _⟩ | ⟨o2, K2, n2, rfl, ho2, hn2, rfl⟩
      · simp [Instr.sliceBounds]
      · simp [Instr.sliceBounds, hbl (m := c) (c := .sliceAcap) ho2 hn2 (by omega)]
      · simp [Instr.sliceBounds, hbl (m := h) (c := .sliceB) ho1 hn1 (by omega)]
      · simp [Instr.sliceBounds, hbl (m := c) (c := .sliceAcap) ho2 hn2 (by omega), hbl (m := n2.toNat) (c := .sliceB) ho1 hn1 (by omega)]
    · rcases hhi with ⟨_, _, h⟩ | ⟨o2, K2, n2, rfl, ho2, hn2, rfl⟩
      · cases h
      · rcases hlo with ⟨rfl, rfl⟩ | ⟨o1, K1, n1, rfl, ho1, hn1, rfl⟩
        · simp [Instr.sliceBounds, hbl (m := cap) (c := .slice3Acap) ho3 hn3 (by omega), hbl (m := n3.toNat) (c := .slice3B) ho2 hn2 (by omega)]
        · simp [Instr.sliceBounds, hbl (m := cap) (c := .slice3Acap) ho3 hn3 (by omega), hbl (m := n3.toNat) (c := .slice3B) ho2 hn2 (by omega), hbl (m := n2.toNat) (c := .slice3C) ho1 hn1 (by omega)]
  have hst : (Instr.sliceAt t (.slice a0 len cap) (lo.map a.eval) (hi.map a.eval) (mx.map a.eval)).run X.P w = .ok (cutV a0 l h c n) w := by
    simp [Instr.sliceAt, Instr.slice, run_underlying hu, hbd, sizeOf, typeInfo, hi', hsz, cutV]
  simp [execOp, ha.eval hx, hst]

theorem Sl.cutV {w : World} {O : Perm} {a0 : Option Addr} {cap lo hi c : Nat} (h : (Sl e (.slice a0 zs.length cap) zs).h w O) (h1 : lo ≤ hi) (h2 : hi ≤ zs.length) (h3 : hi ≤ c) (h4 : c ≤ cap) :
    (Sl e (cutV a0 lo hi c e.n) ((zs.take hi).drop lo)).h w O := SlP.cut h h1 h2 h3 h4
/-- A slice's explicit form. -/
theorem Sl.form {w : World} {O : Perm} (h : (Sl e v zs).h w O) : ∃ a0 cap, v = .slice a0 zs.length cap ∧ zs.length ≤ cap ∧ cap ≤ maxLen := by
  obtain ⟨a0, cap, hv, h1, h2, _⟩ := h
  exact ⟨a0, cap, hv, h1, h2⟩

/-- What may be appended to: a row of one's own, or one whose capacity is its length. -/
def Apd {α : Type} (e : Enc α) (T : TypeId) (v : Value) (xs : List α) : A where
  h := fun w O => (Own e T v xs).h w O ∨ ∃ a, v = .slice a xs.length xs.length ∧ SlP e w O v xs
  mono := fun h hO => h.imp (fun h => (Own e T v xs).mono h hO) (fun ⟨a, h1, h2⟩ => ⟨a, h1, h2.mono hO⟩)
  loc := fun h hw => h.imp (fun h => (Own e T v xs).loc h hw) (fun ⟨a, h1, h2⟩ => ⟨a, h1, h2.loc hw⟩)
theorem Apd.sl {w : World} {O : Perm} (h : (Apd e E v zs).h w O) : (Sl e v zs).h w O := by
  rcases h with h | ⟨_, _, h⟩
  · exact Own.sl h
  · exact h
theorem Own.apd {w : World} {O : Perm} (h : (Own e E v zs).h w O) : (Apd e E v zs).h w O := .inl h
theorem Has.sl_apd {α : Type} {e : Enc α} {T : TypeId} {v : Value} {xs : List α} {L : List A} : Has (Apd e T v xs :: L) (Sl e v xs) := Has.here.imp fun _ _ h => Apd.sl h

/-- A new row behind an append to what is not owned. -/
theorem tight_grow {w w' : World} {O O1 O2 O3 O4 : Perm} {v' : Value} {c0 cs' : List Value} {a' : A} (hdom : ∀ b, O b ≠ 0 → b < w.heap.size) (s : Split O O1 O2) (hO : Rows e w (fun b => min (O1 b) 1) c0 zs)
    (s3 : Split O2 O3 O4) (hsl : a'.h w (fun b => min (O3 b) 1)) (hs4 : Stars L2 w O4) (hr : Rows e w (fun b => min (O3 b) 1) cs' ys)
    (hrow : w'.ownsRow w.heap.size E e.n v' (zs.length + ys.length) (c0 ++ cs')) (hg : w.grownBy w' none) :
    ∃ P, Stars (Own e E v' (zs ++ ys) :: a' :: L2) w' P ∧ Rel w O w' P := by
  have hblk : ∀ b, v'.ownBlock = some b → b < w'.heap.size ∧ w.heap.size ≤ b := by
    intro b hb
    rcases hrow.2 with ⟨rfl, _⟩ | ⟨g, cap, cur, rfl, hbase, hgg, _⟩
    · simp [Value.ownBlock] at hb
    · simp only [Value.ownBlock, Option.some.injEq] at hb
      subst hb
      refine ⟨?_, hbase⟩
      rcases Nat.lt_or_ge g w'.heap.size with h | h
      · exact h
      · rw [Array.getElem?_eq_none h] at hgg; cases hgg
  have hold : ∀ b, b < w.heap.size → w'.heap[b]? = w.heap[b]? := fun b hb => hg.block b hb (by simp)
  have d1 : ∀ b, O1 b ≠ 0 → b < w.heap.size := fun b hb => hdom b (by have := s.l b; omega)
  have d2 : ∀ b, O2 b ≠ 0 → b < w.heap.size := fun b hb => hdom b (by have := s.r b; omega)
  have d3 : ∀ b, O3 b ≠ 0 → b < w.heap.size := fun b hb => d2 b (by have := s3.l b; omega)
  have d4 : ∀ b, O4 b ≠ 0 → b < w.heap.size := fun b hb => d2 b (by have := s3.r b; omega)
  have n1 : ∀ b, min (O1 b) 1 ≠ 0 → b < w.heap.size := fun b hb => d1 b (by intro h; rw [h] at hb; exact hb rfl)
  have n3 : ∀ b, min (O3 b) 1 ≠ 0 → b < w.heap.size := fun b hb => d3 b (by intro h; rw [h] at hb; exact hb rfl)
  have hr1 : Rows e w' (fun b => max (min (O1 b) 1) (min (O3 b) 1)) c0 zs := (hO.loc fun b hb => hold b (n1 b hb)).mono fun b => Nat.le_max_left _ _
  have hr2 : Rows e w' (fun b => max (min (O1 b) 1) (min (O3 b) 1)) cs' ys := (hr.loc fun b hb => hold b (n3 b hb)).mono fun b => Nat.le_max_right _ _
  have hlen : (zs ++ ys).length = zs.length + ys.length := List.length_append
  have hrow0 : w'.ownsRow 0 E e.n v' (zs ++ ys).length (c0 ++ cs') := by
    rw [hlen]; exact ⟨hrow.1, hrow.2.imp id fun ⟨g, cap, cur, e1, _, r⟩ => ⟨g, cap, cur, e1, Nat.zero_le _, r⟩⟩
  let NB : Perm := fun b => if v'.ownBlock = some b then 2 else 0
  have nb : ∀ b, NB b = if v'.ownBlock = some b then 2 else 0 := fun _ => rfl
  have nbo : ∀ b, b < w.heap.size → NB b = 0 := fun b hb => by
    rw [nb]
    by_cases h : v'.ownBlock = some b
    · have := (hblk b h).2; omega
    · rw [if_neg h]
  have m1 : ∀ b, min (O1 b) 1 ≤ O1 b := fun b => Nat.min_le_left _ _
  have m1' : ∀ b, min (O1 b) 1 ≤ 1 := fun b => Nat.min_le_right _ _
  have m3 : ∀ b, min (O3 b) 1 ≤ O3 b := fun b => Nat.min_le_left _ _
  have m3' : ∀ b, min (O3 b) 1 ≤ 1 := fun b => Nat.min_le_right _ _
  have hown : (Own e E v' (zs ++ ys)).h w' (fun b => max (NB b) (max (min (O1 b) 1) (min (O3 b) 1))) := by
    refine Own.of_row hrow0 (hr1.append hr2) (fun b hb => ?_) (fun b => ?_) (fun b => ?_) (fun b hb => ?_)
    · have h := (hblk b hb).2
      have h1 : min (O1 b) 1 = 0 := by
        rcases Nat.eq_zero_or_pos (min (O1 b) 1) with h0 | h0
        · exact h0
        · have := n1 b (by omega); omega
      have h3 : min (O3 b) 1 = 0 := by
        rcases Nat.eq_zero_or_pos (min (O3 b) 1) with h0 | h0
        · exact h0
        · have := n3 b (by omega); omega
      show max _ _ = 0; rw [h1, h3]; rfl
    · exact Nat.max_le.2 ⟨m1' b, m3' b⟩
    · exact Nat.le_max_right _ _
    · show 2 ≤ max _ _
      have : NB b = 2 := by rw [nb, if_pos hb]
      rw [this]; exact Nat.le_max_left _ _
  have hrel : Rel w O w' (fun b => max (NB b) (O b)) := by
    refine ⟨hg.os, hg.tape, hg.output, hg.size, fun b hb _ => hold b hb, fun b hb => ?_, fun b hb => ?_⟩
    · show max _ _ ≤ _; rw [nbo b hb]; omega
    · by_cases h : v'.ownBlock = some b
      · exact (hblk b h).1
      · have hb' : max (NB b) (O b) ≠ 0 := hb
        rw [nb, if_neg h] at hb'
        have := hdom b (by omega); have := hg.size; omega
  refine ⟨_, ⟨fun b => max (NB b) (max (min (O1 b) 1) (min (O3 b) 1)), fun b => max (min (O3 b) 1) (O4 b), ⟨fun b => ?_, fun b => ?_, fun b hb => ?_, fun b hb => ?_⟩, hown, fun b => min (O3 b) 1, O4, ⟨fun b => ?_, fun b => ?_, fun b hb => ?_, fun b hb => ?_⟩, a'.loc hsl fun b hb => hold b (n3 b hb), hs4.loc fun b hb => hold b (d4 b hb)⟩, hrel⟩
  · have := s.l b; have := s.r b; have := s3.l b; have := m1 b; have := m3 b
    show max _ (max _ _) ≤ max _ _
    refine Nat.max_le.2 ⟨Nat.le_max_left _ _, Nat.max_le.2 ⟨Nat.le_trans ?_ (Nat.le_max_right _ _), Nat.le_trans ?_ (Nat.le_max_right _ _)⟩⟩ <;> omega
  · have := s.r b; have := s3.l b; have := s3.r b; have := m3 b
    show max _ _ ≤ max _ _
    refine Nat.max_le.2 ⟨Nat.le_trans ?_ (Nat.le_max_right _ _), Nat.le_trans ?_ (Nat.le_max_right _ _)⟩ <;> omega
  · have h1 : v'.ownBlock = some b := by
      by_cases h : v'.ownBlock = some b
      · exact h
      · have hb' : 2 ≤ max (NB b) (max (min (O1 b) 1) (min (O3 b) 1)) := hb
        rw [nb, if_neg h] at hb'
        have := m1' b; have := m3' b
        have : max (min (O1 b) 1) (min (O3 b) 1) ≤ 1 := Nat.max_le.2 ⟨m1' b, m3' b⟩
        omega
    have h2 := (hblk b h1).2
    have h3 : min (O3 b) 1 = 0 := by
      rcases Nat.eq_zero_or_pos (min (O3 b) 1) with h0 | h0
      · exact h0
      · have := n3 b (by omega); omega
    have h4 : O4 b = 0 := by
      rcases Nat.eq_zero_or_pos (O4 b) with h0 | h0
      · exact h0
      · have := d4 b (by omega); omega
    show max _ _ = 0; rw [h3, h4]; rfl
  · have h1 : 2 ≤ O4 b := by
      have hb' : 2 ≤ max (min (O3 b) 1) (O4 b) := hb
      have := m3' b
      omega
    have h2 := s3.rl b h1
    have h3 := s3.r b
    have h4 := s.rl b (by omega)
    have h5 := nbo b (d4 b (by omega))
    show max _ (max _ _) = 0
    rw [h2, h4, h5]; rfl
  · exact Nat.le_max_left _ _
  · exact Nat.le_max_right _ _
  · have h' : 2 ≤ min (O3 b) 1 := hb; have := m3' b; omega
  · have h1 := s3.rl b hb
    show min _ _ = 0; rw [h1]; rfl

theorem add_off (b off j : Nat) : (⟨b, off, none⟩ : Addr).add j = ⟨b, off + j, none⟩ := by
  unfold Addr.add; split
  · rename_i h; rw [h, Nat.add_zero]
  · rfl
/-- append(x, y...) of what may be appended to. -/
theorem s_append_apd {t : TypeId} {z : Value} {nb sz : Nat} (hu : X.P.underlying t = some (.slice E)) (hE : TI X.P E z sz nb) (hzs : z.cells.size = sz) (hn : 0 < sz)
    (hx : env.eval x = some v) (hy : env.eval y = some u) (hd : d < X.fn.ntmps) (hp : Pick (Apd e E v zs) L L1) (hq : Pick (Sl e u ys) L1 L2) (hsz0 : e.n = sz) (hb : (zs.length + ys.length) * nb ≤ 140737488355328)
    (hb2 : zs.length + ys.length ≤ maxLen)
    (k : ∀ v', Kont X ((d, v') :: env) (Apd e E v' (zs ++ ys) :: Sl e u ys :: L2) K) :
    StepK X kk ⟨some d, .call ⟨.builtin .append, #[x, y], #[t, t]⟩, T, pos, af, none⟩ env L K := by
  subst hsz0
  intro a w O ha hst hrel
  obtain ⟨O1, O2, s, hO, hs2⟩ := hp w O hst
  rcases hO with hO | ⟨a1, rfl, hO⟩
  · have h1 : Stars (Own e E v zs :: L1) w O := ⟨O1, O2, s, hO, hs2⟩
    have := s_append (K := K) (X := X) (kk := kk) (T := T) (pos := pos) (af := af) (L := Own e E v zs :: L1) hu hE hzs hn hx hy hd Pick.here hq rfl hb hb2 (fun v' => fun a w O ha hs hr => k v' a w O ha (Ent.head (fun _ _ h => Own.apd h) w O hs) hr)
    exact this a w O ha h1 hrel
  · have main : StepK X kk ⟨some d, .call ⟨.builtin .append, #[x, y], #[t, t]⟩, T, pos, af, none⟩ env (Sl e (.slice a1 zs.length zs.length) zs :: L1) K := by
      refine s_main (γ := Value) (V := fun u => u) (pu := fun _ => True) (L' := fun v' => Apd e E v' (zs ++ ys) :: Sl e u ys :: L2) ?_ hd (fun u _ => k u)
      intro a w O ha hst hdom
      obtain ⟨O1, O2, s, hO, hs2⟩ := hst
      obtain ⟨O3, O4, s3, hsl, hs4⟩ := hq w O2 hs2
      have hOD := SlP.dup hO
      have hslD := SlP.dup hsl
      obtain ⟨ti, hi, hz0, hsz, hbt⟩ := hE
      obtain ⟨a0, cap, rfl, q1, q2, q3⟩ := id hslD
      obtain ⟨a2, cap2, hv2, p1, p2, p3⟩ := id hOD
      simp only [Value.slice.injEq] at hv2
      obtain ⟨rfl, _, rfl⟩ := hv2
      have keep : ys.length = 0 → ∃ P, Stars (Apd e E (.slice a1 zs.length zs.length) (zs ++ ys) :: Sl e (.slice a0 ys.length cap) ys :: L2) w P ∧ Rel w O w P := fun h0 => by
        have : ys = [] := List.eq_nil_of_length_eq_zero h0
        subst this
        refine ⟨O, ⟨O1, O2, s, .inr ⟨a1, by simp, by rw [List.append_nil]; exact hO⟩, ⟨O3, O4, s3, hsl, hs4⟩⟩, Rel.refl hdom⟩
      have hsrc : (a0 = none ∧ ys.length = 0) ∨ ∃ a cs', a0 = some a ∧ cs'.length = ys.length * e.n ∧ (∀ j u, cs'[j]? = some u → w.cell? (a.add j) = some u) ∧ (∀ u ∈ cs', u.oneCell' = true) ∧ Rows e w (fun b => min (O3 b) 1) cs' ys := by
        rcases q3 with ⟨_, rfl⟩ | ⟨b, off, cs', rfl, hb1, hr, hc⟩
        · cases a0 with
          | none => exact .inl ⟨rfl, rfl⟩
          | some a => exact .inr ⟨a, [], rfl, by simp, (fun j u hj => by simp at hj), (fun u hu => by cases hu), rfl⟩
        · exact .inr ⟨_, cs', rfl, hr.length, fun j u hj => by rw [add_off]; exact hc j u hj, hr.one, hr⟩
      have fin : ∀ {v' : Value} {w' : World} {P : Perm}, (Builtin.append_ #[t, t] T #[.slice a1 zs.length zs.length, .slice a0 ys.length cap]).run X.P w = .ok v' w' → Stars (Apd e E v' (zs ++ ys) :: Sl e (.slice a0 ys.length cap) ys :: L2) w' P → Rel w O w' P →
          ∃ g w' O', (execOp a.eval ⟨some d, .call ⟨.builtin .append, #[x, y], #[t, t]⟩, T, pos, af, none⟩).run X.P w = .ok (.value g) w' ∧ True ∧ Stars (Apd e E g (zs ++ ys) :: Sl e (.slice a0 ys.length cap) ys :: L2) w' O' ∧ Rel w O w' O' := by
        intro v' w' P hrun hs hr
        have hruns : (Builtin.append_ #[t, t] T #[a.eval x, a.eval y]).run X.P w = .ok v' w' := by rw [ha.eval hx, ha.eval hy]; exact hrun
        exact ⟨v', w', P, by simp [execOp, resolve, invoke, builtin, hruns], trivial, hs, hr⟩
      by_cases h0 : ys.length = 0
      · obtain ⟨P, hP, hR⟩ := keep h0
        refine fin ?_ hP hR
        rcases hsrc with ⟨rfl, _⟩ | ⟨a, cs', rfl, hl, _, _, _⟩
        · cases a1 <;> simp [Builtin.append_, run_underlying hu, sizeOf, typeInfo, hi, Builtin.lenOf, Builtin.firstCells, storeCells, h0]
        · cases a1 <;> simp [Builtin.append_, run_underlying hu, sizeOf, typeInfo, hi, Builtin.lenOf, Builtin.firstCells, storeCells, loadCells, loadCellsFrom, h0]
      · obtain ⟨a, cs', rfl, hl, hnews, h1, hr⟩ := hsrc.resolve_left (fun h => h0 h.2)
        have hgrow : ∃ v' w' c0, (Builtin.append_ #[t, t] T #[.slice a1 zs.length zs.length, .slice (some a) ys.length cap]).run X.P w = .ok v' w' ∧ w'.ownsRow w.heap.size E e.n v' (zs.length + ys.length) (c0 ++ cs') ∧ w.grownBy w' none ∧ Rows e w (fun b => min (O1 b) 1) c0 zs := by
          rcases p3 with ⟨_, rfl⟩ | ⟨b, off, c0, rfl, hb1, hr0, hc⟩
          · cases a1 with
            | some a1 =>
              obtain ⟨v', w', hrun, hown', hgr⟩ := run_append_arg_grows (P := X.P) (w := w) t T E ti z e.n nb hu hi hz0 hsz hbt hzs hn a1 0 0 [] (by simp) (fun j u hj => by simp at hj) a ys.length cap cs' hl hnews (Nat.lt_add_of_pos_right (Nat.pos_of_ne_zero h0)) (by simpa using hb2) (by simpa using hb)
              exact ⟨v', w', [], hrun, by simpa using hown', hgr, rfl⟩
            | none =>
            have g1' : w.ownsRow w.heap.size E e.n (.slice none 0 0) 0 [] := ⟨by simp, .inl ⟨rfl, rfl⟩⟩
            obtain ⟨v', w', hrun, hown', hgr, _⟩ := run_append_own (P := X.P) w w.heap.size t T E ti z e.n nb hu hi hz0 hsz hbt hzs hn _ 0 [] g1' a ys.length cap cs' hl hnews h1 (by simpa using hb2) (by simpa using hb) (Nat.le_refl _)
            exact ⟨v', w', [], hrun, by simpa using hown', hgr, rfl⟩
          · obtain ⟨v', w', hrun, hown', hgr⟩ := run_append_arg_grows (P := X.P) (w := w) t T E ti z e.n nb hu hi hz0 hsz hbt hzs hn ⟨b, off, none⟩ zs.length zs.length c0 hr0.length (fun j u hj => by rw [add_off]; exact hc j u hj) a ys.length cap cs' hl hnews (Nat.lt_add_of_pos_right (Nat.pos_of_ne_zero h0)) hb2 hb
            exact ⟨v', w', c0, hrun, hown', hgr, hr0⟩
        obtain ⟨v', w', c0, hrun, hown', hgr, hr0⟩ := hgrow
        obtain ⟨P, hP, hR⟩ := tight_grow (a' := Sl e (.slice (some a) ys.length cap) ys) hdom s hr0 s3 hslD hs4 hr hown' hgr
        exact fin hrun (Ent.head (fun _ _ h => Own.apd h) w' P hP) hR
    exact main a w O ha ⟨O1, O2, s, hO, hs2⟩ hrel
theorem Pick.beside {a : A} {L : List A} (h : ∀ w, a.h w fun _ => 0) : Pick a L L := fun w O hs =>
  ⟨fun _ => 0, O, ⟨fun b => Nat.zero_le _, fun b => Nat.le_refl _, fun b h => by omega, fun b h => rfl⟩, h w, hs⟩
theorem Pick.sl_nil {α : Type} {e : Enc α} {L : List A} : Pick (Sl e (.slice none 0 0) []) L L := Pick.beside fun w => Sl.nil e w _
theorem Pick.own_nil {α : Type} {e : Enc α} {T : TypeId} {L : List A} : Pick (Own e T (.slice none 0 0) []) L L := Pick.beside fun w => Own.nil e T w _
theorem Pick.apd_sl {α : Type} {e : Enc α} {T : TypeId} {v : Value} {xs : List α} {L : List A} : Pick (Sl e v xs) (Apd e T v xs :: L) L := Pick.of Pick.here fun _ _ h => Apd.sl h
theorem Has.sl_nil {α : Type} {e : Enc α} {L : List A} : Has L (Sl e (.slice none 0 0) []) := fun w O _ => Sl.nil e w O
theorem Ent.get {L L' : List A} {w : World} {O : Perm} (hs : Stars L w O) (h : Ent L L') : Stars L' w O := h w O hs
theorem stars_own_nil {α : Type} {e : Enc α} {T : TypeId} {w : World} {O : Perm} : Stars [Own e T (.slice none 0 0) ([] : List α)] w O := Ent.get (L := []) trivial (Ent.beside fun w _ _ => Own.nil e T w _)
end
end Go.SL
/- Pointers; calls of functions without a body; strings put behind bytes; strings that share bytes. -/
namespace Go.SL
open Go

section
variable {K : Act → World → Prop} {X : Cx} {ops : Array Oper} {rest : List Oper} {kk : List Item} {env : Env} {L L1 L2 : List A} {d : Nat} {T : TypeId} {pos : String} {af : Array Edge} {x y : Operand} {xT yT : TypeId}
variable {α : Type} {e : Enc α} {v u : Value} {zs ys : List α} {E : TypeId}

/-- Rules for '==' and '!=' of values that are compared by Op.equal. -/
theorem v_eql_any {a b : Value} {r : Bool} (hx : env.eval x = some a) (hy : env.eval y = some b) (hne : ∀ op, binOp op xT a b = match op with
      | .eql => (do pure (.bool (← Op.equal xT a b)))
      | .neq => (do pure (.bool (!(← Op.equal xT a b))))
      | _ => binOp op xT a b) (hg : ∀ op, eqGuard op xT x y a b = pure ()) (h : ∀ w O, Stars L w O → (Op.equal xT a b).run X.P w = .ok r w) : Val X env L (.binOp .eql xT x y yT) T (.bool r) :=
  fun _ _ _ _ ac w O ha hs => by
    have h1 := hne .eql
    simp only at h1
    simp only [execOp, ha.eval hx, ha.eval hy, hg, h1]
    simp [h w O hs]
theorem v_neq_any {a b : Value} {r : Bool} (hx : env.eval x = some a) (hy : env.eval y = some b) (hne : ∀ op, binOp op xT a b = match op with
      | .eql => (do pure (.bool (← Op.equal xT a b)))
      | .neq => (do pure (.bool (!(← Op.equal xT a b))))
      | _ => binOp op xT a b) (hg : ∀ op, eqGuard op xT x y a b = pure ()) (h : ∀ w O, Stars L w O → (Op.equal xT a b).run X.P w = .ok r w) : Val X env L (.binOp .neq xT x y yT) T (.bool (!r)) :=
  fun _ _ _ _ ac w O ha hs => by
    have h1 := hne .neq
    simp only at h1
    simp only [execOp, ha.eval hx, ha.eval hy, hg, h1]
    simp [h w O hs]
theorem equal_succ {P : Program} {t : TypeId} {a b : Value} {w : World} {d : TypeDesc} (hu : P.underlying t = some d) : (Op.equal t a b).run P w = (Op.equalIn (9999 + 1) t a b).run P w := rfl
theorem v_eq_sl_nil {a0 : Option Addr} {n c : Nat} (hu : X.P.underlying xT = some (.slice E)) (hx : env.eval x = some (.slice a0 n c)) (hy : env.eval y = some (.slice none 0 0)) : Val X env L (.binOp .eql xT x y yT) T (.bool a0.isNone) :=
  v_eql_any hx hy (fun op => by cases op <;> rfl) (fun op => by cases op <;> rfl) fun w O _ => by
    rw [equal_succ hu, Op.equalIn]
    simp only [Sem.run_bind, run_underlying hu, Result.andThen_ok]
    cases a0 <;> rfl
theorem v_eq_ptr_nil {a0 : Option Addr} {t : TypeId} (hu : X.P.underlying xT = some (.pointer t)) (hx : env.eval x = some (.pointer a0)) (hy : env.eval y = some (.pointer none)) : Val X env L (.binOp .eql xT x y yT) T (.bool a0.isNone) :=
  v_eql_any hx hy (fun op => by cases op <;> cases a0 <;> rfl) (fun op => by cases op <;> rfl) fun w O _ => by
    rw [equal_succ hu, Op.equalIn]
    simp only [Sem.run_bind, run_underlying hu, Result.andThen_ok]
    cases a0 <;> rfl
theorem v_ne_ptr_nil {a0 : Option Addr} {t : TypeId} (hu : X.P.underlying xT = some (.pointer t)) (hx : env.eval x = some (.pointer a0)) (hy : env.eval y = some (.pointer none)) : Val X env L (.binOp .neq xT x y yT) T (.bool (!a0.isNone)) :=
  v_neq_any hx hy (fun op => by cases op <;> cases a0 <;> rfl) (fun op => by cases op <;> rfl) fun w O _ => by
    rw [equal_succ hu, Op.equalIn]
    simp only [Sem.run_bind, run_underlying hu, Result.andThen_ok]
    cases a0 <;> rfl
theorem v_ne_ptr_self {b off : Nat} {t : TypeId} {z : Value} {n nb : Nat} (hu : X.P.underlying xT = some (.pointer t)) (ht : TI X.P t z n nb) (hn : n ≠ 0) (hx : env.eval x = some (.pointer (some ⟨b, off, none⟩))) (hy : env.eval y = some (.pointer (some ⟨b, off, none⟩))) :
    Val X env L (.binOp .neq xT x y yT) T (.bool false) :=
  v_neq_any (r := true) hx hy (fun op => by cases op <;> rfl) (fun op => by cases op <;> rfl) fun w O _ => by
    obtain ⟨i, hi, _, hsz, _⟩ := ht
    have : i.size ≠ 0 := by omega
    rw [equal_succ hu, Op.equalIn]
    simp only [Sem.run_bind, run_underlying hu, Result.andThen_ok]
    simp [sizeOf, typeInfo, hi, this, sameAddr]
/-- A call of a function without a body, that tells a value. -/
theorem v_ext {g : FuncId} {xs : List Operand} {args : List Value} {ts : Array TypeId} (h : ∀ w, (callFunc g args.toArray).run X.P w = .ok (.value v) w) (hx : evalAll env xs = some args) : Val X env L (.call ⟨.value (.func g), xs.toArray, ts⟩) T v :=
  fun _ _ _ _ a w O ha _ => by
    have h1 := ha.all hx
    have h2 : Env.eval env (.func g) = some (.func (.func g) #[] #[]) := rfl
    simp only [execOp, resolve, ha.eval h2, Deferred.ofValue, pure_bind, invoke, List.map_toArray, h1]
    have hargs : #[] ++ args.toArray ++ #[] = args.toArray := by simp
    rw [hargs]; exact h w

theorem seen_self {P : Program} {w : World} {b off : Nat} {bt : TypeId} {cs : Array Value} {fz : Nat × Nat} (h : w.heap[b]? = some (.cells cs bt fz)) : (Conv.seenAt ⟨b, off, none⟩).run P w = .ok ⟨b, off, none⟩ w := by
  have hs : w.shape? b = some (bt, cs.size) := by simp [World.shape?, h]
  simp [Conv.seenAt, viewAt, shape, Sem.run, hs]
theorem v_toUnsafe {sT dT t : TypeId} {z : Value} {n nb b off : Nat} {bt : TypeId} {cs : List Value} (hs : X.P.underlying sT = some (.pointer t)) (hd : X.P.underlying dT = some .unsafePointer) (ht : TI X.P t z n nb) (hn : n ≠ 0)
    (hx : env.eval x = some (.pointer (some ⟨b, off, none⟩))) (hb : Has L (BlkR b bt cs)) (ho : off < cs.length) : Val X env L (.convert sT dT x) T (.pointer (some ⟨b, off, none⟩)) :=
  fun _ _ _ _ a w O ha hst => by
    obtain ⟨_, fz, hh⟩ := hb w O hst
    obtain ⟨i, hi, _, hsz, _⟩ := ht
    have h0 : i.size ≠ 0 := by omega
    have hsh : w.shape? b = some (bt, cs.length) := by simp [World.shape?, hh]
    have hse := seen_self (P := X.P) (off := off) hh
    have hno : ¬ (cs.length ≤ off) := by omega
    simp [execOp, ha.eval hx, convert, run_underlying hs, run_underlying hd, Conv.unsafePointer, hse, cellsIn, shape, Sem.run, hsh, sizeOf, typeInfo, hi, h0, hno]
theorem v_fromUnsafe {sT dT t : TypeId} {z : Value} {n nb b off : Nat} {bt : TypeId} {cs : List Value} (hs : X.P.underlying sT = some .unsafePointer) (hd : X.P.underlying dT = some (.pointer t)) (ht : TI X.P t z n nb) (hn : n ≠ 0)
    (hx : env.eval x = some (.pointer (some ⟨b, off, none⟩))) (hb : Has L (BlkR b bt cs)) (hl : liesAt X.P X.P.depth bt (cs.length / X.P.cellsOf bt) off t 1 = true) : Val X env L (.convert sT dT x) T (.pointer (some ⟨b, off, none⟩)) :=
  fun _ _ _ _ a w O ha hst => by
    obtain ⟨_, fz, hh⟩ := hb w O hst
    obtain ⟨i, hi, _, hsz, _⟩ := ht
    have h0 : i.size ≠ 0 := by omega
    have hsh : w.shape? b = some (bt, cs.length) := by simp [World.shape?, hh]
    have hse := seen_self (P := X.P) (off := off) hh
    simp [execOp, ha.eval hx, convert, run_underlying hs, run_underlying hd, Conv.unsafePointer, hse, shape, Sem.run, hsh, sizeOf, typeInfo, hi, h0, variablesAt, program, hl]

/-! ### a slice is stored -/
theorem s_store_any {t : TypeId} {b off : Nat} {bt : TypeId} {cs cs' : List Value} {u : Value} {z : Value} {nb : Nat} (ht : TI X.P t z 1 nb) (hx : env.eval x = some (.pointer (some ⟨b, off, none⟩))) (hy : env.eval y = some u) (h1 : Has L (Sl e u zs))
    (hp : Pick (Blk b bt cs) L L1) (hlt : off < cs.length) (hset : cs.set off u = cs') (k : Kont X env (Blk b bt cs' :: L1) K) : StepK X kk ⟨none, .store t x y, T, pos, af, none⟩ env L K := by
  intro a w O ha hst hrel
  obtain ⟨a0, cap, hu, _⟩ := h1 w O hst
  exact s_store ht hx hy (by rw [hu]; rfl) hp hlt hset k a w O ha hst hrel

/-! ### append of a string to bytes -/
theorem s_append_str {t t2 : TypeId} {s : ByteArray} {l : List UInt8} (hu : X.P.underlying t = some (.slice E)) (hu2 : X.P.underlying t2 = some .string) (hE : TI X.P E (.int .u8 0) 1 1)
    (hx : env.eval x = some v) (hy : env.eval y = some (.string s)) (hd : d < X.fn.ntmps) (hp : Pick (Own eByte E v l) L L1) (hb : l.length + s.size ≤ 140737488355328)
    (k : ∀ v', Kont X ((d, v') :: env) (Own eByte E v' (l ++ s.data.toList) :: L1) K) :
    StepK X kk ⟨some d, .call ⟨.builtin .append, #[x, y], #[t, t2]⟩, T, pos, af, none⟩ env L K := by
  refine s_main (γ := Value) (V := fun u => u) (pu := fun _ => True) (L' := fun v' => Own eByte E v' (l ++ s.data.toList) :: L1) ?_ hd (fun u _ => k u)
  intro a w O ha hst hdom
  obtain ⟨O1, O2, s1, hO, hs2⟩ := hp w O hst
  obtain ⟨ti, hi, hz0, hsz, hbt⟩ := hE
  obtain ⟨P1, P2, cs, t1, g1, g2, g3⟩ := id hO
  have hcs := eByte_rows.1 g3
  have hss : s.size = s.data.toList.length := Lib.size_eq s
  have hm : l.length + s.size ≤ maxLen := by simp only [maxLen]; omega
  have key : ∃ v' w', (Builtin.append_ #[t, t2] T #[v, .string s]).run X.P w = .ok v' w' ∧ w'.ownsRow 0 E 1 v' (l.length + s.size) (cs ++ Lib.strCells s) ∧ w.grownBy w' v.ownBlock ∧ ∀ b, v'.ownBlock = some b → b < w'.heap.size ∧ (v.ownBlock = some b ∨ w.heap.size ≤ b) := by
    have hblk : ∀ {w' : World} {v' : Value} {base n : Nat} {xs : List Value}, w'.ownsRow base E 1 v' n xs → ∀ b, v'.ownBlock = some b → b < w'.heap.size ∧ base ≤ b := by
      intro w' v' base n xs h b hb
      rcases h.2 with ⟨rfl, _⟩ | ⟨g, cap, cur, rfl, hbase, hg, _⟩
      · simp [Value.ownBlock] at hb
      · simp only [Value.ownBlock, Option.some.injEq] at hb
        subst hb
        refine ⟨?_, hbase⟩
        rcases Nat.lt_or_ge g w'.heap.size with h | h
        · exact h
        · rw [Array.getElem?_eq_none h] at hg; cases hg
    have weak : ∀ {w' : World} {v' : Value} {base n : Nat} {xs : List Value}, w'.ownsRow base E 1 v' n xs → w'.ownsRow 0 E 1 v' n xs := by
      intro w' v' base n xs h
      exact ⟨h.1, h.2.imp id fun ⟨g, cap, cur, e, _, r⟩ => ⟨g, cap, cur, e, Nat.zero_le _, r⟩⟩
    rcases g1.2 with ⟨rfl, h0⟩ | ⟨g, cap', cur, rfl, hbg, hg, hnc, hcm, hcs', htake⟩
    · have g1' : w.ownsRow w.heap.size E 1 (.slice none 0 0) l.length cs := ⟨g1.1, .inl ⟨rfl, h0⟩⟩
      obtain ⟨v', w', hrun, hown', hgr, _⟩ := Lib.run_append_own_string (P := X.P) (w := w) w.heap.size t t2 T E ti hu hu2 hi hz0 hsz hbt _ l.length cs g1' s hm hb (Nat.le_refl _)
      exact ⟨v', w', hrun, weak hown', hgr, fun b hb => ⟨(hblk hown' b hb).1, .inr (hblk hown' b hb).2⟩⟩
    · by_cases hroom : l.length + s.size ≤ cap'
      · have hsz1 : cur.size = cap' := by rw [hcs']; exact Nat.mul_one _
        have hr := Lib.run_append_room_string (P := X.P) (w := w) t t2 T E ti hu hu2 hi hsz g l.length cap' cur hg s hroom (by rw [hsz1]; exact hroom)
        have hcl : cs.length = l.length := by rw [hcs]; simp
        have hlen : (cs ++ Lib.strCells s).length = (l.length + s.size) * 1 := by rw [List.length_append, hcl, Lib.strCells_length, Nat.mul_one]
        have htake' : cur.toList.take l.length = cs := by have h := htake; rw [show eByte.n = 1 from rfl, Nat.mul_one] at h; exact h
        have hown' : (w.setRow g (cur.toList.take l.length ++ Lib.strCells s ++ cur.toList.drop (l.length + s.size)).toArray).ownsRow 0 E 1 (.slice (some ⟨g, 0, none⟩) (l.length + s.size) cap') (l.length + s.size) (cs ++ Lib.strCells s) := by
          refine ⟨hlen, .inr ⟨g, cap', _, rfl, Nat.zero_le _, setRow_heap w g cur _ E _ hg, hroom, hcm, ?_, ?_⟩⟩
          · simp only [List.size_toArray, List.length_append, List.length_take, List.length_drop, Array.length_toList, Lib.strCells_length]
            omega
          · rw [htake', ← hlen]
            exact List.take_left
        refine ⟨_, _, hr, hown', ⟨rfl, rfl, rfl, by simp, fun k _ hk => setRow_other w g k _ (fun e => hk (by simp [Value.ownBlock, e]))⟩, fun b hb => ⟨(hblk hown' b hb).1, .inl hb⟩⟩
      · have holds : ∀ j u, cs[j]? = some u → w.cell? ((⟨g, 0, none⟩ : Addr).add j) = some u := by
          intro j u hj
          have hjl := cell_in hj
          rw [g1.1] at hjl
          rw [add_off, blk_cell hg]
          rw [← htake, List.getElem?_take, if_pos hjl] at hj
          simpa using hj
        have hcl : cs.length = l.length * ti.size := by rw [g1.1, hsz]; rfl
        have hrun := Lib.run_append_grow_string (P := X.P) (w := w) t t2 T E ti (.int .u8 0) hu hu2 hi hz0 ⟨g, 0, none⟩ l.length cap' cs hcl holds s (by omega) (by have := hm; simp only [maxLen] at this; omega) (growslice_fits (by omega) (by rw [hbt]; omega))
        obtain ⟨v1, w1, hrun1, hown1, hgr1, _⟩ := Lib.run_append_own_string (P := X.P) (w := w) 0 t t2 T E ti hu hu2 hi hz0 hsz hbt _ l.length cs ⟨g1.1, .inr ⟨g, cap', cur, rfl, hbg, hg, hnc, hcm, hcs', htake⟩⟩ s hm hb (Nat.zero_le _)
        have e1 := hrun1.symm.trans hrun
        injection e1 with e1 e2
        refine ⟨v1, w1, hrun1, hown1, hgr1, fun b hb => ⟨(hblk hown1 b hb).1, .inr ?_⟩⟩
        rw [e1] at hb
        simp only [Value.ownBlock, Option.some.injEq] at hb
        omega
  obtain ⟨v', w', hrun, hown', hgr, hv'⟩ := key
  obtain ⟨P, hP, hrel⟩ := own_grow (e := eByte) (ys := s.data.toList) (a' := Pu True) (v' := v') (cs' := Lib.strCells s) (O3 := fun _ => 0) (O4 := O2) hdom s1 hO ⟨fun _ => Nat.zero_le _, fun _ => Nat.le_refl _, fun _ h => by omega, fun _ _ => rfl⟩ trivial hs2
    (eByte_rows.2 rfl) (fun Q1 Q2 c0 _ h1 h3 => by
      have : c0 = cs := by rw [eByte_rows.1 h3, hcs]
      rw [this, ← hss]; exact hown') hgr hv'
  have hruns : (Builtin.append_ #[t, t2] T #[a.eval x, a.eval y]).run X.P w = .ok v' w' := by rw [ha.eval hx, ha.eval hy]; exact hrun
  exact ⟨v', w', P, by simp [execOp, resolve, invoke, builtin, hruns], trivial, Ent.get hP (Ent.cons Ent.drop), hrel⟩

/-! ### a string that shares a row's bytes -/
theorem v_sliceData {ts : Array TypeId} {a0 : Addr} {n c : Nat} (hx : env.eval x = some (.slice (some a0) n c)) (hc : c ≠ 0) : Val X env L (.call ⟨.builtin .unsafeSliceData, #[x], ts⟩) T (.pointer (some a0)) :=
  fun _ _ _ _ a w O ha _ => by
    have := Lib.run_unsafeSliceData_row (P := X.P) (w := w) ts T a0 n c hc
    simp [execOp, resolve, invoke, builtin, ha.eval hx, this]
theorem v_sliceData_nil {ts : Array TypeId} {n c : Nat} (hx : env.eval x = some (.slice none n c)) : Val X env L (.call ⟨.builtin .unsafeSliceData, #[x], ts⟩) T (.pointer none) :=
  fun _ _ _ _ a w O ha _ => by
    have := Lib.run_unsafeSliceData_nil (P := X.P) (w := w) ts T n c
    simp [execOp, resolve, invoke, builtin, ha.eval hx, this]
theorem v_unsafeString_nil {pt it : TypeId} (hx : env.eval x = some (.pointer none)) (hy : env.eval y = some (.int .i64 0)) : Val X env L (.call ⟨.builtin .unsafeString, #[x, y], #[pt, it]⟩) T (.string ByteArray.empty) :=
  fun _ _ _ _ a w O ha _ => by
    have := Lib.run_unsafeString_none (P := X.P) (w := w) pt it T none
    simp [execOp, resolve, invoke, builtin, ha.eval hx, ha.eval hy, this]
theorem s_unsafeString {pt it : TypeId} {g c : Nat} {l : List UInt8} (hp : X.P.underlying pt = some (.pointer E)) (hc : X.P.cellsOf E = 1) (hx : env.eval x = some (.pointer (some ⟨g, 0, none⟩))) (hy : env.eval y = some (.int .i64 l.length)) (h0 : l ≠ [])
    (ho : Pick (Own eByte E (.slice (some ⟨g, 0, none⟩) l.length c) l) L L1) (hd : d < X.fn.ntmps) (k : Kont X ((d, .string ⟨l.toArray⟩) :: env) L1 K) :
    StepK X kk ⟨some d, .call ⟨.builtin .unsafeString, #[x, y], #[pt, it]⟩, T, pos, af, none⟩ env L K := by
  refine s_main (γ := Unit) (V := fun _ => .string ⟨l.toArray⟩) (pu := fun _ => True) (L' := fun _ => L1) ?_ hd (fun _ _ => k)
  intro a w O ha hst hdom
  obtain ⟨O1, O2, s1, ⟨P1, P2, cs, t1, g1, g2, g3⟩, hs2⟩ := ho w O hst
  have hcs := eByte_rows.1 g3
  have hP := g2 g rfl
  rcases g1.2 with ⟨h, _⟩ | ⟨g', cap', cur, h', _, hg, hle, hmx, hsz, htk⟩
  · cases h
  · cases h'
    have hsh : w.shape? g = some (E, cur.size) := by simp [World.shape?, hg]
    have hcurl : l.length ≤ cur.size := by rw [hsz]; show _ ≤ c * 1; omega
    have hrun := Lib.run_unsafeString_row (P := X.P) (w := w) pt it T E hp hc g cur.size hsh l h0 hcurl (by simp only [maxLen] at hmx; omega) (fun j b hj => by
      rw [add_off, blk_cell hg, Nat.zero_add]
      have hjl : j < l.length := by
        rcases Nat.lt_or_ge j l.length with h | h
        · exact h
        · rw [List.getElem?_eq_none h] at hj; cases hj
      have h1 : cs[j]? = some (.int .u8 b.toNat) := by rw [hcs]; simp [hj]
      rw [← htk, List.getElem?_take, if_pos (by show j < l.length * 1; omega)] at h1
      simpa using h1)
    have hO1 := t1.l g
    have hO := s1.l g
    refine ⟨(), w.freeze ⟨g, 0, none⟩ l.length, O, by simp [execOp, resolve, invoke, builtin, ha.eval hx, ha.eval hy, hrun], trivial, ?_, ?_⟩
    · refine (hs2.loc fun b hb => ?_).mono s1.r
      have hne : b ≠ g := by
        intro e; subst e
        have := s1.lr b (by omega); omega
      unfold World.freeze
      split
      · rfl
      · simp only [Array.getElem?_modify]
        rw [if_neg (fun e => hne e.symm)]
    · refine ⟨?_, ?_, ?_, ?_, fun b hb hlt => ?_, fun _ _ => Nat.le_refl _, fun b hb => ?_⟩
      · unfold World.freeze; split <;> rfl
      · unfold World.freeze; split <;> rfl
      · unfold World.freeze; split <;> rfl
      · unfold World.freeze; split
        · exact Nat.le_refl _
        · simp
      · have hne : b ≠ g := by intro e; subst e; omega
        unfold World.freeze
        split
        · rfl
        · simp only [Array.getElem?_modify]
          rw [if_neg (fun e => hne e.symm)]
      · have := hdom b hb
        unfold World.freeze; split
        · exact this
        · simpa using this
end
end Go.SL
/- Cuts in regions that draw their order; facts of what a contract takes. -/
namespace Go.SL
open Go

theorem Con.fact {P : Program} {f : FuncId} {args : List Value} {L : List A} {γ : Type} {ret : γ → Value} {pu : γ → Prop} {L' : γ → List A} {p : Prop}
    (hp : ∀ w O, Stars L w O → p) (h : p → Con P f args L ret pu L') : Con P f args L ret pu L' :=
  fun w O hs hd => h (hp w O hs) w O hs hd
theorem Con.form {P : Program} {f : FuncId} {args : List Value} {L : List A} {γ : Type} {ret : γ → Value} {pu : γ → Prop} {L' : γ → List A} {α : Type} {e : Enc α} {v : Value} {xs : List α}
    (hp : Has L (Sl e v xs)) (h : ∀ a0 cap, v = .slice a0 xs.length cap → xs.length ≤ cap → cap ≤ maxLen → Con P f args L ret pu L') : Con P f args L ret pu L' :=
  fun w O hs hd => by
    obtain ⟨a0, cap, h1, h2, h3⟩ := Sl.form (hp w O hs)
    exact h a0 cap h1 h2 h3 w O hs hd
theorem Sl.none_nil {α : Type} {e : Enc α} {n c : Nat} {xs : List α} {w : World} {O : Perm} (h : (Sl e (.slice none n c) xs).h w O) : xs = [] := by
  obtain ⟨a, cap, hv, h1, h2, h3⟩ := h
  cases hv
  rcases h3 with ⟨_, h⟩ | ⟨_, _, _, h, _⟩
  · exact h
  · cases h
theorem Sl.apdCut {α : Type} {e : Enc α} {E : TypeId} {zs : List α} {a0 : Option Addr} {k cap : Nat} {w : World} {O : Perm} (h : (Sl e (.slice a0 zs.length cap) zs).h w O) (h1 : k ≤ zs.length) (h2 : zs.length ≤ cap) :
    (Apd e E (Go.SL.cutV a0 0 k k e.n) (zs.take k)).h w O := by
  have h3 := Go.SL.Sl.cutV (lo := 0) (hi := k) (c := k) h (Nat.zero_le _) h1 (Nat.le_refl _) (by omega)
  rw [List.drop_zero] at h3
  refine .inr ⟨if k = 0 then a0 else a0.map (·.add (0 * e.n)), ?_, h3⟩
  simp only [Go.SL.cutV, List.length_take, Nat.sub_zero]
  rw [Nat.min_eq_left h1]
theorem Own.form {α : Type} {e : Enc α} {T : TypeId} {v : Value} {xs : List α} {w : World} {O : Perm} (h : (Own e T v xs).h w O) : (v = .slice none 0 0 ∧ xs = []) ∨ ∃ g cap, v = .slice (some ⟨g, 0, none⟩) xs.length cap ∧ xs.length ≤ cap := by
  obtain ⟨O1, O2, cs, s, h1, h2, h3⟩ := h
  rcases h1.2 with ⟨rfl, h0⟩ | ⟨g, cap, cur, rfl, _, hg, hle, _⟩
  · exact .inl ⟨rfl, List.eq_nil_of_length_eq_zero h0⟩
  · exact .inr ⟨g, cap, rfl, hle⟩
theorem Con.own {P : Program} {f : FuncId} {args : List Value} {L : List A} {γ : Type} {ret : γ → Value} {pu : γ → Prop} {L' : γ → List A} {α : Type} {e : Enc α} {T : TypeId} {v : Value} {xs : List α}
    (hp : Has L (Own e T v xs)) (h0 : v = .slice none 0 0 → xs = [] → Con P f args L ret pu L') (h1 : ∀ g cap, v = .slice (some ⟨g, 0, none⟩) xs.length cap → xs.length ≤ cap → Con P f args L ret pu L') : Con P f args L ret pu L' :=
  fun w O hs hd => by
    rcases Own.form (hp w O hs) with ⟨h, h'⟩ | ⟨g, cap, h, h'⟩
    · exact h0 h h' w O hs hd
    · exact h1 g cap h h' w O hs hd
theorem Pick.r_blk {b : Nat} {T : TypeId} {cs : List Value} {L : List A} : Pick (BlkR b T cs) (Blk b T cs :: L) L := Pick.of Pick.here fun _ _ h => Blk.r h
theorem cutV_zero (a0 : Option Addr) (h c n : Nat) : cutV a0 0 h c n = .slice a0 h c := by
  have h1 : a0.map (·.add (0 * n)) = a0 := by cases a0 <;> simp [Addr.add]
  simp only [Go.SL.cutV, h1, ite_self, Nat.sub_zero]
/-- A contract of a function that leaves the world as it is. -/
theorem con_pure {P : Program} {f : FuncId} {args : List Value} {v : Value} {L : List A} (h : ∀ w O, Stars L w O → Calls P f args.toArray w fun e w' => e = .returned v ∧ w' = w) :
    Con P f args L (γ := Unit) (fun _ => v) (fun _ => True) (fun _ => []) := fun w O hs hd => (h w O hs).mono fun e w' ⟨he, hw⟩ => by
  subst hw
  exact ⟨(), O, he, trivial, trivial, Rel.refl hd⟩
theorem Env.int {e : Env} {t : Nat} {K : IntKind} {a b : Int} (h : e.look t = some (.int K a)) (hab : a = b) : e.look t = some (.int K b) := by rw [h, hab]
theorem Env.as {e : Env} {t : Nat} {a b : Value} (h : e.look t = some a) (hab : a = b) : e.look t = some b := by rw [h, hab]
theorem wrap_add (a b : Int) : IntKind.i64.wrap (IntKind.i64.wrap a + b) = IntKind.i64.wrap (a + b) := by
  rw [IntKind.wrap_i64, IntKind.wrap_i64, IntKind.wrap_i64]; omega
theorem has_cell {b off : Nat} {T : TypeId} {cs : List Value} {L : List A} {u : Value} (h : Has L (BlkR b T cs)) (hc : cs[off]? = some u) {w : World} {O : Perm} (hs : Stars L w O) : w.cell? ⟨b, off, none⟩ = some u := by
  obtain ⟨_, fz, hh⟩ := h w O hs
  rw [blk_cell hh]; simpa using hc
/-- A contract of a function that hands out a new row of scalars. -/
theorem con_newrow {P : Program} {f : FuncId} {args : List Value} {L : List A} {α : Type} {e : Enc α} {E : TypeId} {xs : List α} {g : α → Value} (hn : e.n = 1) (hg : ∀ w O x, e.rd w O [g x] x) (hl : xs.length ≤ maxLen)
    (h : ∀ w O, Stars L w O → Calls P f args.toArray w fun r w' => r = .returned (.slice (some ⟨w.heap.size, 0, none⟩) xs.length xs.length) ∧ w' = w.alloc (.cells (xs.map g).toArray E)) :
    Con P f args L (γ := Value) (fun r => r) (fun _ => True) (fun r => [Own e E r xs]) := fun w O hs hd => (h w O hs).mono fun r w' ⟨he, hw⟩ => by
  subst hw
  have hrows : ∀ (ys : List α) (w : World) (O : Perm), Rows e w O (ys.map g) ys := by
    intro ys w O
    induction ys with
    | nil => exact rfl
    | cons y ys ih => exact ⟨[g y], ys.map g, rfl, hg w O y, ih⟩
  refine ⟨_, fresh w O, he, trivial, ⟨fresh w O, fun _ => 0, ⟨fun b => Nat.le_refl _, fun b => Nat.zero_le _, fun _ _ => rfl, fun b h => absurd h (by simp)⟩, ?_, trivial⟩, rel_alloc _ hd⟩
  refine ⟨fresh w O, fun _ => 0, xs.map g, ⟨fun b => Nat.le_refl _, fun b => Nat.zero_le _, fun _ _ => rfl, fun b h => absurd h (by simp)⟩, ?_, fun k hk => ?_, hrows xs _ _⟩
  · rw [hn]
    exact World.ownsRow_lit w (xs.map g).toArray xs.length (Nat.zero_le _) hl (by simp)
  · simp only [Value.ownBlock, Option.some.injEq] at hk
    subst hk; simp [fresh]

section
variable {X : Cx} {ops : Array Oper} {rest : List Oper} {kk : List Item} {env : Env} {L L1 : List A} {d : Nat} {T : TypeId} {pos : String} {af : Array Edge} {x : Operand}
theorem c_join2 {γ : Type} {k : List Item} (J : γ → Prop) (E : γ → Env) (LL : γ → List A) {i j : Item} (hj : ∀ g, J g → Cfg X k (E g) (LL g)) (h : (∀ g, J g → Cfg X k (E g) (LL g)) → Cfg X (i :: j :: k) env L) : Cfg X (i :: j :: k) env L := h hj
theorem v_len_form {t : TypeId} {E : TypeId} {a0 : Option Addr} {n c : Nat} (hu : X.P.underlying t = some (.slice E)) (hx : env.eval x = some (.slice a0 n c)) : Val X env L (.call ⟨.builtin .len, #[x], #[t]⟩) T (.int .i64 n) :=
  fun _ _ _ _ a w O ha hl => by
    simp [execOp, resolve, invoke, builtin, Builtin.len_, ha.eval hx, run_underlying hu, goInt]
theorem q_ent (h1 : Ent L L1) (h2 : Ent L1 L) (h : Qops X ops rest kk env L1) : Qops X ops rest kk env L := by
  have e : QC X L = QC X L1 := funext fun w => propext ⟨fun ⟨O, hs, hr⟩ => ⟨O, h1 w O hs, hr⟩, fun ⟨O, hs, hr⟩ => ⟨O, h2 w O hs, hr⟩⟩
  unfold Qops
  rw [e]
  exact h
theorem q_slice {α : Type} {e : Enc α} {zs : List α} {E : TypeId} {t : TypeId} {z0 : Value} {bt cap : Nat} {a0 : Option Addr} {lo hi mx : Option Operand} {l h c : Nat} (hu : X.P.underlying t = some (.slice E)) (hE : TI X.P E z0 e.n bt)
    (hx : env.eval x = some (.slice a0 zs.length cap)) (hp : Pick (Sl e (.slice a0 zs.length cap) zs) L L1)
    (hlo : (lo = none ∧ l = 0) ∨ ∃ o K n, lo = some o ∧ env.eval o = some (.int K n) ∧ 0 ≤ n ∧ n.toNat = l)
    (hhi : (hi = none ∧ h = zs.length ∧ mx = none) ∨ ∃ o K n, hi = some o ∧ env.eval o = some (.int K n) ∧ 0 ≤ n ∧ n.toNat = h)
    (hmx : (mx = none ∧ c = cap) ∨ ∃ o K n, mx = some o ∧ env.eval o = some (.int K n) ∧ 0 ≤ n ∧ n.toNat = c)
    (h1 : l ≤ h) (h2 : h ≤ zs.length) (h3 : h ≤ c) (h4 : c ≤ cap) (hd : d < X.fn.ntmps)
    (hback : Ent (Sl e (.slice a0 zs.length cap) zs :: L1) L)
    (k : Qops X ops rest kk ((d, cutV a0 l h c e.n) :: env) (Sl e (cutV a0 l h c e.n) ((zs.take h).drop l) :: Sl e (.slice a0 zs.length cap) zs :: L1)) :
    Qops X ops (⟨some d, .slice t x lo hi mx, T, pos, af, none⟩ :: rest) kk env L :=
  q_val (v_slice hu hE hx hlo hhi hmx h1 h3 h4) hd
    (q_ent (Ent.share hp (Sl.isDup _ _ _) fun _ _ h => Sl.cutV h h1 h2 h3 h4) (fun w O hs => hback w O (Ent.drop w O hs)) k)
/-- An element that is a slice. -/
theorem s_load_sl {α : Type} {e : Enc α} {v : Value} {K : Act → World → Prop} {i : Nat} {z : List α} {t : TypeId} (ht : Lone X.P t) (hx : env.eval x = some (.pointer (some (elemAddr v i 1)))) (hd : d < X.fn.ntmps)
    (he : Elem L (eSl e) v i z) (k : ∀ u, Kont X ((d, u) :: env) (Sl e u z :: L) K) : StepK X kk ⟨some d, .load t x, T, pos, af, none⟩ env L K :=
  s_load_elem (e := eSl e) ht rfl hx hd he fun u a w O ha hs hr => k u a w O ha (Ent.head (fun w O h => by
    obtain ⟨u', h1, h2⟩ := h
    cases h1
    exact h2) w O hs) hr
theorem beside_sl {α : Type} {e : Enc α} (ps : List (Value × List α)) (h : Picks (ps.map fun p => Sl e p.1 p.2) L L) : Beside (RowsA (eSl e) (ps.map (·.1)) (ps.map (·.2))) L := by
  intro w O hs
  obtain ⟨O1, O2, s, h1, h2⟩ := h.split w O hs
  refine ⟨O1, O2, s, ?_, h2⟩
  clear h h2 s hs
  induction ps generalizing O1 with
  | nil => exact ⟨rfl, fun v hv => by cases hv⟩
  | cons p ps ih =>
    obtain ⟨P1, P2, s1, g1, g2⟩ := h1
    obtain ⟨k1, k2⟩ := ih P2 g2
    have g1' : SlP e w P1 p.1 p.2 := g1
    obtain ⟨a0, cap, hv, _⟩ := id g1'
    have hc : p.1.cells = #[p.1] := by rw [hv]; rfl
    refine ⟨⟨[p.1], _, by simp [hc], ⟨p.1, rfl, SlP.mono g1' s1.l⟩, k1.mono s1.r⟩, fun v hv => ?_⟩
    simp only [List.map_cons, List.mem_cons] at hv
    rcases hv with rfl | hv
    · rw [hc]; rfl
    · exact k2 v hv
theorem beside_sl1 {α : Type} {e : Enc α} (v : Value) (xs : List α) (h : Picks [Sl e v xs] L L) : Beside (RowsA (eSl e) [v] [xs]) L := beside_sl [(v, xs)] h
theorem beside_sl2 {α : Type} {e : Enc α} (v u : Value) (xs ys : List α) (h : Picks [Sl e v xs, Sl e u ys] L L) : Beside (RowsA (eSl e) [v, u] [xs, ys]) L := beside_sl [(v, xs), (u, ys)] h
theorem beside_sl3 {α : Type} {e : Enc α} (v u t : Value) (xs ys zs : List α) (h : Picks [Sl e v xs, Sl e u ys, Sl e t zs] L L) : Beside (RowsA (eSl e) [v, u, t] [xs, ys, zs]) L := beside_sl [(v, xs), (u, ys), (t, zs)] h
end
end Go.SL
/- Loops over functions: rounds, yield, iterators' contracts, the loop itself. -/
namespace Go.SL
open Go

/-- Block b is one's own, and is this object. -/
def ObjA (b : Nat) (o : Obj) : A where
  h := fun w O => 2 ≤ O b ∧ w.heap[b]? = some o
  mono := fun ⟨h1, h2⟩ hO => ⟨Nat.le_trans h1 (hO b), h2⟩
  loc := fun ⟨h1, h2⟩ hw => ⟨h1, (hw b (by omega)).trans h2⟩
theorem obj_put {w : World} {O : Perm} {b : Nat} {o o' : Obj} {L : List A} (h : Stars (ObjA b o :: L) w O) (hd : ∀ b, O b ≠ 0 → b < w.heap.size) : Stars (ObjA b o' :: L) (w.putObj b o') O ∧ Rel w O (w.putObj b o') O := by
  obtain ⟨O1, O2, s, ⟨h1, h2⟩, h3⟩ := h
  have hb : b < w.heap.size := hd b (by have := s.l b; omega)
  refine ⟨⟨O1, O2, s, ⟨h1, World.putObj_heap_same hb⟩, h3.loc fun c hc => ?_⟩, ⟨rfl, rfl, rfl, by simp, fun c hc h => ?_, fun _ _ => Nat.le_refl _, fun c hc => by simpa using hd c hc⟩⟩
  · have : c ≠ b := by intro e; subst e; have := s.lr c h1; omega
    rw [World.putObj_heap_other this]
  · have : c ≠ b := by intro e; subst e; have := s.l c; omega
    rw [World.putObj_heap_other this]
theorem obj_get {w : World} {O : Perm} {b : Nat} {o : Obj} {L : List A} (h : Stars (ObjA b o :: L) w O) : w.heap[b]? = some o := by
  obtain ⟨O1, O2, s, ⟨h1, h2⟩, h3⟩ := h; exact h2

theorem stars_split {L1 L2 : List A} {w : World} {O : Perm} (h : Stars (L1 ++ L2) w O) : ∃ O1 O2, Split O O1 O2 ∧ Stars L1 w O1 ∧ Stars L2 w O2 := by
  induction L1 generalizing O with
  | nil => exact ⟨fun _ => 0, O, ⟨fun _ => Nat.zero_le _, fun _ => Nat.le_refl _, fun _ h => absurd h (by simp), fun _ _ => rfl⟩, trivial, h⟩
  | cons a L ih =>
    obtain ⟨P1, P2, t, g1, g2⟩ := h
    obtain ⟨Q1, Q2, u, k1, k2⟩ := ih g2
    refine ⟨fun b => max (P1 b) (Q1 b), Q2, ⟨fun b => ?_, fun b => ?_, fun b => ?_, fun b => ?_⟩, ⟨P1, Q1, ⟨fun b => ?_, fun b => ?_, fun b => ?_, fun b => ?_⟩, g1, k1⟩, k2⟩ <;>
      (have := t.l b; have := t.r b; have := t.lr b; have := t.rl b; have := u.l b; have := u.r b; have := u.lr b; have := u.rl b; omega)
section
variable {X : Cx} {k : List Item} {env : Env} {L L1 : List A} {l : Nat} {r : Loop}
theorem c_beginRound (hp : Pick (ObjA l (.loop r)) L L1) (hr : r.state = .ready) (h : Cfg X k env (ObjA l (.loop { r with state := .busy }) :: L1)) (hrd : X.rd = some l := by rfl) : Cfg X (.beginRound :: k) env L := by
  intro a w O ha hs hrel
  have hs' : Stars (ObjA l (.loop r) :: L1) w O := hp w O hs
  obtain ⟨h1, h2⟩ := obj_put (o' := .loop { r with state := .busy }) hs' hrel.dom
  refine Ok.step (fun b cs hb => .one (stepR_beginRound (hb.trans hrd) (run_beginRound (obj_get hs') hr))) (h a _ O ha h1 (hrel.trans h2))
theorem c_roundEnd (fin : ∀ w O, Stars L w O → X.R (.bool true) w O) (hrd : X.rd = some l := by rfl) : Cfg X [] env L := by
  intro a w O ha hs hrel b hb hk hro cs
  refine ⟨.bool true, w, b.atR a [], O, fin w O hs, hrel, .refl _ _, ?_⟩
  unfold Fin; rw [hrd]
  exact ⟨b, a, hb, hro.trans hrd, hk, .inl ⟨rfl, rfl⟩⟩
theorem c_roundRet (fin : ∀ w O, Stars L w O → X.R (.bool false) w O) (hrd : X.rd = some l := by rfl) : Cfg X (.code .ret :: k) env L := by
  intro a w O ha hs hrel b hb hk hro cs
  refine ⟨.bool false, w, b.atR a (.code .ret :: k), O, fin w O hs, hrel, .refl _ _, ?_⟩
  unfold Fin; rw [hrd]
  exact ⟨b, a, hb, hro.trans hrd, hk, .inr (.inl ⟨k, rfl, rfl⟩)⟩
theorem c_roundExit {id : Nat} (hx : exitTo id k = none) (fin : ∀ w O, Stars L w O → X.R (.int .i64 (id : Nat)) w O) (hrd : X.rd = some l := by rfl) : Cfg X (.code (.exit id) :: k) env L := by
  intro a w O ha hs hrel b hb hk hro cs
  refine ⟨.int .i64 (id : Nat), w, b.atR a (.code (.exit id) :: k), O, fin w O hs, hrel, .refl _ _, ?_⟩
  unfold Fin; rw [hrd]
  exact ⟨b, a, hb, hro.trans hrd, hk, .inr (.inr ⟨id, k, rfl, hx, rfl⟩)⟩
end

/-- What yield(args) comes to: true, and L1; or false, and L0. -/
def Yield (P : Program) (l : Nat) (args : List Value) (L L1 L0 : List A) : Prop :=
  ∀ w O, Stars L w O → (∀ b, O b ≠ 0 → b < w.heap.size) → ∃ f tmps assign body, (Instr.yield l args.toArray).run P w = .ok (.round l f tmps assign body) w ∧
    Round P l f tmps assign body w fun v w' => ∃ O', Rel w O w' O' ∧ ((v = .bool true ∧ Stars L1 w' O') ∨ (v = .bool false ∧ Stars L0 w' O'))

section
variable {X : Cx} {ops : Array Oper} {rest : List Oper} {kk : List Item} {env : Env} {L Lr : List A}
/-- The call of a yield. -/
theorem o_yield {l : Nat} {f : Operand} {xs : List Operand} {args : List Value} {ts : Array TypeId} {Lp L1 L0 : List A} {d : Nat} {T : TypeId} {pos : String} {af : Array Edge}
    (y : Yield X.P l args Lp L1 L0) (hf : env.eval f = some (.func (.yield l) #[] #[])) (hx : evalAll env xs = some args) (hd : d < X.fn.ntmps) (hp : Ent L (Lp ++ Lr))
    (kt : Ops X ops rest kk ((d, .bool true) :: env) (L1 ++ Lr)) (kf : Ops X ops rest kk ((d, .bool false) :: env) (L0 ++ Lr)) :
    Ops X ops (⟨some d, .call ⟨.value f, xs.toArray, ts⟩, T, pos, af, none⟩ :: rest) kk env L := by
  intro a w O ha hs hr
  simp only [wpl, Region.wanted, if_true]
  obtain ⟨O1, O2, s, h1, h2⟩ := stars_split (hp w O hs)
  obtain ⟨g, tmps, assign, body, hy, hround⟩ := y w O1 h1 (fun b hb => hr.dom b (by have := s.l b; omega))
  refine .inr ⟨l, g, tmps, assign, body, w, ?_, hround.mono ?_⟩
  · have h3 := ha.all hx
    have hargs : #[] ++ (xs.map a.eval).toArray ++ #[] = args.toArray := by rw [h3]; simp
    simp only [execOp, resolve, ha.eval hf, Deferred.ofValue, pure_bind, invoke, List.map_toArray]
    rw [h3]
    simpa using hy
  · rintro v w' ⟨O', hrel, hv⟩
    obtain ⟨s', h2', hrel'⟩ := frame hr.dom s h2 hrel
    rcases hv with ⟨rfl, hL⟩ | ⟨rfl, hL⟩
    · exact kt _ w' _ (ha.put hd _) (Stars.app s' hL h2') (hr.trans hrel')
    · exact kf _ w' _ (ha.put hd _) (Stars.app s' hL h2') (hr.trans hrel')
end

/-! ### rounds as yields -/
def jumpOf : Value → Option Code
  | .bool false => some .ret
  | .int .i64 n => some (.exit n.toNat)
  | _ => none
/-- What a round must end in. -/
def RoundR (l : Nat) (r : Loop) (I1 : List A) (Z : Code → List A) : Value → World → Perm → Prop := fun v w O =>
  (v = .bool true ∧ Stars (ObjA l (.loop { r with state := .busy }) :: I1) w O) ∨ (∃ j, jumpOf v = some j ∧ Stars (ObjA l (.loop { r with state := .busy }) :: Z j) w O)
/-- The record where a round has left by a jump. -/
def Left (l : Nat) (r : Loop) (Z : Code → List A) : List A := [ExA fun j : Code => AllA (ObjA l (.loop { r with state := .done, pending := some j }) :: Z j)]
def putAll : List Tmp → List Value → Env → Env
  | t :: ts, v :: vs, e => putAll ts vs ((t, v) :: e)
  | _, _, e => e
theorem holds_putAll {X : Cx} : ∀ (ts : List Tmp) (vs : List Value) (e : Env) (a : Act), (∀ t ∈ ts, t < X.fn.ntmps) → Holds X e a →
    Holds X (putAll ts vs e) { a with tmps := (ts.zip vs).foldl (fun (tm : Array Value) (p : Tmp × Value) => tm.setIfInBounds p.1 p.2) a.tmps }
  | [], _, _, _, _, h => h
  | _ :: _, [], _, _, _, h => h
  | t :: ts, v :: vs, e, a, ht, h => by
    have h1 := h.put (ht t (by simp)) v
    exact holds_putAll ts vs ((t, v) :: e) (a.put (some t) v) (fun t h => ht t (by simp [h])) h1

theorem yield_of_round {P : Program} {f : FuncId} {fn : Func} {l : Nat} {r : Loop} {env : Env} {args : List Value} {I I1 : List A} {Z : Code → List A} (hst : r.state = .ready) (hfn : r.fn = f) (hl : args.length = r.params.size)
    (hpar : ∀ t ∈ r.params.toList, t < fn.ntmps) (hsize : r.tmps.size = fn.ntmps) (hlook : ∀ t v, env.look t = some v → r.tmps[t]? = some v)
    (body : ∀ w0 O0, Cfg { P := P, f := f, fn := fn, R := RoundR l r I1 Z, w0 := w0, O0 := O0, rd := some l } [.code r.assign, .beginRound, .code r.body] (putAll r.params.toList args env) (ObjA l (.loop r) :: I)) :
    Yield P l args (ObjA l (.loop r) :: I) (ObjA l (.loop { r with state := .ready, pending := none }) :: I1) (Left l r Z) := by
  intro w O hs hd
  have hy := run_yield (P := P) (args := args.toArray) (obj_get hs) (by simpa using hl)
  refine ⟨r.fn, _, r.assign, r.body, hy, fun c cs => ?_⟩
  have hfold : (r.params.zip args.toArray).foldl (fun (tmps : Array Value) (x : Tmp × Value) => tmps.setIfInBounds x.1 x.2) r.tmps = (r.params.toList.zip args).foldl (fun (tm : Array Value) (p : Tmp × Value) => tm.setIfInBounds p.1 p.2) r.tmps := by
    rw [← Array.foldl_toList, Array.toList_zip]
  have ha : Holds { P := P, f := f, fn := fn, R := RoundR l r I1 Z, w0 := w, O0 := O, rd := some l } (putAll r.params.toList args env) { tmps := (r.params.toList.zip args).foldl (fun (tm : Array Value) (p : Tmp × Value) => tm.setIfInBounds p.1 p.2) r.tmps, defers := [] } :=
    holds_putAll r.params.toList args env { tmps := r.tmps, defers := [] } hpar ⟨hsize, rfl, hlook⟩
  obtain ⟨v, w', fr, O', hR, hrel, hsteps, hfin⟩ := body w O _ w O ha hs (Rel.refl hd) { (default : Frame) with fn := f, kind := .normal, roundOf := some l } rfl rfl rfl (c :: cs)
  have hround : Frame.round l r.fn ((r.params.zip args.toArray).foldl (fun (tmps : Array Value) (x : Tmp × Value) => tmps.setIfInBounds x.1 x.2) r.tmps) r.assign r.body .normal =
      ({ (default : Frame) with fn := f, kind := .normal, roundOf := some l } : Frame).atR { tmps := (r.params.toList.zip args).foldl (fun (tm : Array Value) (p : Tmp × Value) => tm.setIfInBounds p.1 p.2) r.tmps, defers := [] } [.code r.assign, .beginRound, .code r.body] := by
    rw [hfold, hfn]; rfl
  have hround' : Frame.round l r.fn (Array.foldl (fun tmps (x : Tmp × Value) => match x with | (t, a) => tmps.setIfInBounds t a) r.tmps (r.params.zip args.toArray)) r.assign r.body .normal = _ := hround
  rw [hround']
  unfold Fin at hfin
  obtain ⟨b2, a2, hb2, hr2, hk2, hcase⟩ := hfin
  have out : ∀ (v2 : Value) (w2 : World), (∃ O', Rel w O w2 O' ∧ ((v2 = .bool true ∧ Stars (ObjA l (.loop { r with state := .ready, pending := none }) :: I1) w2 O') ∨ (v2 = .bool false ∧ Stars (Left l r Z) w2 O'))) →
      step P (lone fr (c :: cs) w') = .next (lone (c.finish v2) cs w2) → ∃ v w', (∃ O', Rel w O w' O' ∧ ((v = .bool true ∧ Stars (ObjA l (.loop { r with state := .ready, pending := none }) :: I1) w' O') ∨ (v = .bool false ∧ Stars (Left l r Z) w' O'))) ∧
        Steps P (lone (({ (default : Frame) with fn := f, kind := .normal, roundOf := some l } : Frame).atR { tmps := (r.params.toList.zip args).foldl (fun (tm : Array Value) (p : Tmp × Value) => tm.setIfInBounds p.1 p.2) r.tmps, defers := [] } [.code r.assign, .beginRound, .code r.body]) (c :: cs) w) (lone (c.finish v) cs w') :=
    fun v2 w2 h1 h2 => ⟨v2, w2, h1, hsteps.trans (.one h2)⟩
  have leave : ∀ (j : Code), Stars (ObjA l (.loop { r with state := .busy }) :: Z j) w' O' → ∃ w2, (Instr.endRound l (some j)).run P w' = .ok (.bool false) w2 ∧ Stars (Left l r Z) w2 O' ∧ Rel w O w2 O' := by
    intro j hz
    have hrun := run_endRound (P := P) (some j) (obj_get hz)
    obtain ⟨g1, g2⟩ := obj_put (o' := .loop { { r with state := .busy } with state := .done, pending := some j }) hz hrel.dom
    exact ⟨_, hrun, Ent.get g1 (fun w O h => ⟨O, fun _ => 0, ⟨fun _ => Nat.le_refl _, fun _ => Nat.zero_le _, fun _ _ => rfl, fun b h => absurd h (by simp)⟩, ⟨j, h⟩, trivial⟩), hrel.trans g2⟩
  rcases hR with ⟨rfl, hI⟩ | ⟨j, hj, hz⟩
  · rcases hcase with ⟨_, rfl⟩ | ⟨k, h, _⟩ | ⟨id, k, h, _⟩
    · have hrun := run_endRound (P := P) none (obj_get hI)
      obtain ⟨g1, g2⟩ := obj_put (o' := .loop { { r with state := .busy } with state := .ready, pending := none }) hI hrel.dom
      exact out (.bool true) _ ⟨O', hrel.trans g2, .inl ⟨rfl, g1⟩⟩ (stepR_round_end hr2 hk2 hrun)
    · cases h
    · cases h
  · rcases hcase with ⟨h, _⟩ | ⟨k, rfl, rfl⟩ | ⟨id, k, rfl, hx, rfl⟩
    · subst h; cases hj
    · cases hj
      obtain ⟨w2, h1, h2, h3⟩ := leave _ hz
      exact out (.bool false) w2 ⟨O', h3, .inr ⟨rfl, h2⟩⟩ (stepR_round_ret hr2 hk2 h1)
    · simp only [jumpOf, Option.some.injEq, Int.toNat_natCast] at hj
      subst hj
      obtain ⟨w2, h1, h2, h3⟩ := leave _ hz
      exact out (.bool false) w2 ⟨O', h3, .inr ⟨rfl, h2⟩⟩ (stepR_round_exit hr2 hk2 hx h1)
end Go.SL
/- The loop over a function; the way out of a function that has begun one. -/
namespace Go.SL
open Go

theorem Ent.perm {L L' : List A} (h : L.Perm L') : Ent L L' := by
  induction h with
  | nil => exact Ent.refl _
  | cons a _ ih => exact Ent.cons ih
  | swap a b l => exact fun w O hs => (Pick.there Pick.here : Pick a (b :: a :: l) (b :: l)) w O hs
  | trans _ _ h1 h2 => exact fun w O hs => h2 w O (h1 w O hs)
theorem stars_join {L1 L2 : List A} {w : World} {O : Perm} (h : Stars (AllA L1 :: L2) w O) : Stars (L1 ++ L2) w O := by
  obtain ⟨O1, O2, s, h1, h2⟩ := h
  exact Stars.app s h1 h2

/-- An iterator: it hands on what nx lets come behind what has come, until fin, or until yield says no. -/
def Iter {α : Type} (P : Program) (g : FuncId) (caps : List Value) (Lg : List A) (nx : List α → α → Prop) (fin : List α → Prop) (enc : α → List Value) : Prop :=
  ∀ (l : Nat) (I : List α → List A) (Z : List A), (∀ pre x, nx pre x → Yield P l (enc x) (I pre) (I (pre ++ [x])) Z) →
    Con P g (.func (.yield l) #[] #[] :: caps) (Lg ++ I []) (γ := Option (List α)) (fun _ => .tuple #[]) (fun o => ∀ pre, o = some pre → fin pre) (fun o => Lg ++ (match o with | some pre => I pre | none => Z))

/-- The same at one invariant of the loop's; R: what is handed on with each. -/
def IterAt {α : Type} (P : Program) (g : FuncId) (caps : List Value) (Lg : List A) (nx : List α → α → Prop) (fin : List α → Prop) (enc : α → List Value) (R : α → List A) (I : List α → List A) : Prop :=
  ∀ (l : Nat) (o : A) (Z : List A), (∀ pre x, nx pre x → Yield P l (enc x) (o :: (R x ++ I pre)) (o :: I (pre ++ [x])) Z) →
    Con P g (.func (.yield l) #[] #[] :: caps) (Lg ++ (o :: I [])) (γ := Option (List α)) (fun _ => .tuple #[]) (fun q => ∀ pre, q = some pre → fin pre) (fun q => Lg ++ (match q with | some pre => o :: I pre | none => Z))
theorem Iter.at {α : Type} {P : Program} {g : FuncId} {caps : List Value} {Lg : List A} {nx : List α → α → Prop} {fin : List α → Prop} {enc : α → List Value} (it : Iter P g caps Lg nx fin enc) (I : List α → List A) : IterAt P g caps Lg nx fin enc (fun _ => []) I :=
  fun l o Z hy => it l (fun pre => o :: I pre) Z hy

abbrev markOf (D : Nat) : Deferred := { target := .collected D, args := #[] }
section
variable {X : Cx} {k : List Item} {env : Env} {L Lr : List A}
theorem c_rangeFuncAt {α : Type} {g : FuncId} {caps : List Value} {Lg : List A} {nx : List α → α → Prop} {fin : List α → Prop} {enc : α → List Value} {R : α → List A} {f : Operand} {ps : List Tmp} {assign body : Code} (I : List α → List A) (Z : Code → List A) (Lr : List A)
    (it : IterAt X.P g caps Lg nx fin enc R I) (hc : Callable X.P g) (hf : env.eval f = some (.func (.func g) #[] caps.toArray)) (hp : Ent L ((Lg ++ I []) ++ Lr))
    (hpar0 : (ps.all fun t => Nat.blt t X.fn.ntmps) = true) (hlen : ∀ x, (enc x).length = ps.length)
    (bd : ∀ (l : Nat) (r : Loop) pre x w0 O0, r.state = .ready → nx pre x → Cfg { P := X.P, f := X.f, fn := X.fn, R := RoundR l r (I (pre ++ [x])) Z, w0 := w0, O0 := O0, rd := some l } [.code assign, .beginRound, .code body] (putAll ps (enc x) env) (ObjA l (.loop r) :: (R x ++ I pre)))
    (done : ∀ D pre, fin pre → Cfg { X with defs := markOf D :: X.defs } k env (ObjA D (.deferred (some [])) :: (Lg ++ I pre ++ Lr)))
    (left : ∀ D j, Cfg { X with defs := markOf D :: X.defs } (.code j :: k) env (ObjA D (.deferred (some [])) :: (Lg ++ Z j ++ Lr)))
    (hrd : X.rd = none := by rfl) : Cfg X (.code (.rangeFunc f ps.toArray assign body) :: k) env L := by
  intro a w O ha hs hrel b hb hk hro cs
  have hpar : ∀ t ∈ ps, t < X.fn.ntmps := fun t ht => by
    have := List.all_eq_true.1 hpar0 t ht
    simpa [Nat.blt_eq] using this
  have henter := run_enterLoop_outer (P := X.P) (w := w) b.fn a.tmps ps.toArray assign body
  rw [← hro.trans hrd] at henter
  generalize hr0 : (Loop.mk .ready none b.fn a.tmps ps.toArray assign body w.heap.size) = r0 at henter
  have hr0s : r0.state = .ready := by rw [← hr0]
  have hr0p : ({ r0 with state := .ready, pending := none } : Loop) = r0 := by rw [← hr0]
  let l := w.heap.size + 1
  let w1 := (w.alloc (.deferred (some []))).alloc (.loop r0)
  have hl1 : (w.alloc (.deferred (some []))).heap.size = w.heap.size + 1 := by show (w.heap.push _).size = _; simp
  -- the resources behind the two new blocks
  have hs0 : Stars ((Lg ++ I []) ++ Lr) w O := hp w O hs
  have ds1 := stars_alloc (a := ObjA w.heap.size (.deferred (some []))) (.deferred (some [])) hrel.dom hs0 ⟨by simp, heap_alloc w _⟩
  have rl1 := rel_alloc (.deferred (some [])) hrel.dom
  have ds2 := stars_alloc (a := ObjA (w.heap.size + 1) (.loop r0)) (.loop r0) rl1.dom ds1 ⟨by rw [hl1]; simp, by have := heap_alloc (w.alloc (.deferred (some []))) (.loop r0); rwa [hl1] at this⟩
  have rl2 := rl1.trans (rel_alloc (.loop r0) rl1.dom)
  have ds3 : Stars ((Lg ++ (ObjA l (.loop r0) :: I [])) ++ (ObjA w.heap.size (.deferred (some [])) :: Lr)) w1 _ := Ent.perm (by
    refine List.Perm.trans ?_ (List.Perm.append_right _ (List.perm_middle.symm))
    refine List.Perm.trans ?_ (List.Perm.cons _ List.perm_middle.symm)
    exact List.Perm.refl _) _ _ ds2
  obtain ⟨O1, O2, sp3, hg1, hg2⟩ := stars_split ds3
  -- the iterator
  have hy : ∀ pre x, nx pre x → Yield X.P l (enc x) (ObjA l (.loop r0) :: (R x ++ I pre)) (ObjA l (.loop r0) :: I (pre ++ [x])) (Left l r0 Z) := by
    intro pre x hx
    have := yield_of_round (P := X.P) (f := X.f) (fn := X.fn) (l := l) (r := r0) (env := env) (args := enc x) (I := R x ++ I pre) (I1 := I (pre ++ [x])) (Z := Z) hr0s (by rw [← hr0]; exact hb) (by rw [← hr0, hlen]; simp) (by rw [← hr0]; simpa using hpar) (by rw [← hr0]; exact ha.size) (by rw [← hr0]; exact ha.look)
      (fun w0 O0 => by
        have hb' := bd l r0 pre x w0 O0 hr0s hx
        have e1 : r0.assign = assign := by rw [← hr0]
        have e2 : r0.body = body := by rw [← hr0]
        have e3 : r0.params.toList = ps := by rw [← hr0]
        rw [e1, e2, e3]; exact hb')
    rwa [hr0p] at this
  have spec := it l (ObjA l (.loop r0)) (Left l r0 Z) hy
  obtain ⟨e, w2, fr, ⟨o, O', he, hpu, hst, hrel'⟩, hcomes, hfn, hleave⟩ := spec w1 O1 hg1 (fun b hb => rl2.dom b (by have := sp3.l b; omega)) (b.atR { a with defers := markOf w.heap.size :: a.defers } (.inRangeFunc l :: k) :: cs)
  subst he
  obtain ⟨s', h2', hrel2⟩ := frame rl2.dom sp3 hg2 hrel'
  -- the machine's steps
  have hres : (resolve a.eval (rangeCall f l) 0).run X.P w1 = .ok { target := .fn (.func g) caps.toArray, args := #[.func (.yield l) #[] #[]] } w1 := by
    have h2 : a.eval (.const (.func (.yield l) #[] #[])) = .func (.yield l) #[] #[] := rfl
    simp [rangeCall, resolve, ha.eval hf, Deferred.ofValue, h2]
  have hinv : (invoke (.fn (.func g) caps.toArray) #[.func (.yield l) #[] #[]]).run X.P w1 = .ok (.enter g (.func (.yield l) #[] #[] :: caps).toArray) w1 := by
    have := hc (.func (.yield l) #[] #[] :: caps).toArray w1
    simpa [invoke] using this
  have st1 : step X.P (lone (b.atR a (.code (.rangeFunc f ps.toArray assign body) :: k)) cs w) = .next (lone (Frame.enter X.P g (.func (.yield l) #[] #[] :: caps).toArray .normal) (b.atR { a with defers := markOf w.heap.size :: a.defers } (.inRangeFunc l :: k) :: cs) w1) :=
    stepR_rangeFunc (b := b) (mark := [markOf w.heap.size]) henter hres hinv
  have st2 : step X.P (lone fr (b.atR { a with defers := markOf w.heap.size :: a.defers } (.inRangeFunc l :: k) :: cs) w2) = .next (lone (b.atR { a with defers := markOf w.heap.size :: a.defers } (.endRangeFunc l :: k)) cs w2) := by
    rw [← finish_atR_inRangeFunc]; exact step_leave_returned hleave
  have fin2 : ∀ (r : Loop) (jump : Option Code) (LL : List A), r.state ≠ .busy → r.pending = jump → Stars (ObjA l (.loop r) :: LL) w2 (fun b => max (O' b) (O2 b)) →
      Cfg { X with defs := markOf w.heap.size :: X.defs } ((jump.map Item.code).toList ++ k) env LL → ∃ v w' fr O', X.R v w' O' ∧ Rel X.w0 X.O0 w' O' ∧ Steps X.P (lone (b.atR a (.code (.rangeFunc f ps.toArray assign body) :: k)) cs w) (lone fr cs w') ∧ Fin X fr w' v := by
    intro r jump LL hbusy hpend hsl hcfg
    subst hpend
    have hend := run_endLoop (P := X.P) (obj_get hsl) hbusy
    obtain ⟨g1, g2⟩ := obj_put (o' := .loop { r with state := .exhausted }) hsl hrel2.dom
    have st3 := stepR_endRangeFunc (b := b) (a := { a with defers := markOf w.heap.size :: a.defers }) (k := k) (cs := cs) hend
    have ha' : Holds { X with defs := markOf w.heap.size :: X.defs } env { a with defers := markOf w.heap.size :: a.defers } := ⟨ha.size, by rw [ha.defers], ha.look⟩
    obtain ⟨v, w', fr', O'', hR, hre, hsteps, hf'⟩ := hcfg _ _ _ ha' (Ent.drop _ _ g1) ((hrel.trans rl2).trans (hrel2.trans g2)) b hb hk hro cs
    refine ⟨v, w', fr', O'', hR, hre, ?_, hf'⟩
    exact (Steps.one st1).trans ((Steps.trans hcomes (.one st2)).trans ((Steps.one st3).trans hsteps))
  have hall := Stars.app s' hst h2'
  cases o with
  | some pre =>
    refine fin2 r0 none _ (by rw [hr0s]; simp) (by rw [← hr0]) (Ent.perm ?_ _ _ hall) (done _ pre (hpu pre rfl))
    simp only [List.append_assoc, List.cons_append]
    refine List.Perm.trans List.perm_middle (List.Perm.cons _ ?_)
    rw [← List.append_assoc, ← List.append_assoc]
    exact List.perm_middle
  | none =>
    have h3 : Stars ((ExA fun j : Code => AllA (ObjA l (.loop { r0 with state := .done, pending := some j }) :: Z j)) :: (Lg ++ (ObjA w.heap.size (.deferred (some [])) :: Lr))) w2 (fun b => max (O' b) (O2 b)) := Ent.perm (by
      unfold Left
      simp only [List.append_assoc, List.cons_append, List.nil_append]
      exact List.perm_middle) _ _ hall
    obtain ⟨Q1, Q2, sq, ⟨j, hj⟩, hq⟩ := h3
    have h4 : Stars (AllA (ObjA l (.loop { r0 with state := .done, pending := some j }) :: Z j) :: (Lg ++ (ObjA w.heap.size (.deferred (some [])) :: Lr))) w2 (fun b => max (O' b) (O2 b)) := ⟨Q1, Q2, sq, hj, hq⟩
    refine fin2 { r0 with state := .done, pending := some j } (some j) _ (by simp) rfl (Ent.perm ?_ _ _ (stars_join h4)) (left _ j)
    rw [List.cons_append]
    refine List.Perm.cons _ ?_
    refine List.Perm.trans ?_ (List.perm_middle (l₁ := Lg ++ Z j))
    rw [← List.append_assoc]
    refine List.Perm.append_right _ ?_
    exact List.perm_append_comm

theorem c_rangeFunc {α : Type} {g : FuncId} {caps : List Value} {Lg : List A} {nx : List α → α → Prop} {fin : List α → Prop} {enc : α → List Value} {f : Operand} {ps : List Tmp} {assign body : Code} (I : List α → List A) (Z : Code → List A) (Lr : List A)
    (it : Iter X.P g caps Lg nx fin enc) (hc : Callable X.P g) (hf : env.eval f = some (.func (.func g) #[] caps.toArray)) (hp : Ent L ((Lg ++ I []) ++ Lr))
    (hpar0 : (ps.all fun t => Nat.blt t X.fn.ntmps) = true) (hlen : ∀ x, (enc x).length = ps.length)
    (bd : ∀ (l : Nat) (r : Loop) pre x w0 O0, r.state = .ready → nx pre x → Cfg { P := X.P, f := X.f, fn := X.fn, R := RoundR l r (I (pre ++ [x])) Z, w0 := w0, O0 := O0, rd := some l } [.code assign, .beginRound, .code body] (putAll ps (enc x) env) (ObjA l (.loop r) :: I pre))
    (done : ∀ D pre, fin pre → Cfg { X with defs := markOf D :: X.defs } k env (ObjA D (.deferred (some [])) :: (Lg ++ I pre ++ Lr)))
    (left : ∀ D j, Cfg { X with defs := markOf D :: X.defs } (.code j :: k) env (ObjA D (.deferred (some [])) :: (Lg ++ Z j ++ Lr)))
    (hrd : X.rd = none := by rfl) : Cfg X (.code (.rangeFunc f ps.toArray assign body) :: k) env L :=
  c_rangeFuncAt I Z Lr (it.at I) hc hf hp hpar0 hlen bd done left hrd

/-! ### the way out of a function that has begun one such loop -/
theorem c_retm_any {D : Nat} (hr : ∀ a w O, Holds X env a → Stars L w O → ∃ v, (results X.fn a.tmps).run X.P w = .ok v w ∧ X.R v w O)
    (hf : X.P.funcs[X.f]? = some X.fn) (hrd : X.rd = none) (hdf : X.defs = [markOf D])
    (hk : ∀ (a : Act) (w : World) (b : Frame) (cs : List Frame), b.kind = .normal → b.roundOf = none → Steps X.P (lone (b.atR a k) cs w) (lone { b.atR a k with mode := .returning } cs w)) : Cfg X k env (ObjA D (.deferred (some [])) :: L) := by
  intro a w O ha hs hrel b hb hkd hro cs
  obtain ⟨g1, g2⟩ := obj_put (o' := .deferred none) hs hrel.dom
  obtain ⟨v, hv, hR⟩ := hr a _ O ha (Ent.drop _ _ g1)
  have h1 := step_collected (P := X.P) (fr := { b.atR a k with mode := .returning }) (cs := cs) (d := markOf D) (ds := []) (by simp) (by show a.defers = _; rw [ha.defers, hdf]) rfl (run_takeDeferred (obj_get hs))
  refine ⟨v, _, _, O, hR, hrel.trans g2, (hk a w b cs hkd (hro.trans hrd)).trans (.one h1), ?_⟩
  unfold Fin
  rw [hrd]
  exact ⟨hb, rfl, rfl, hkd, X.fn, by simpa [Frame.atR, hb] using hf, by simpa [Frame.atR] using hv⟩
theorem c_retm1 {D t : Nat} {v : Value} (hf : X.P.funcs[X.f]? = some X.fn) (h : X.fn.results = #[.tmp t]) (hv : env.look t = some v) (hp : Pick (ObjA D (.deferred (some []))) L Lr) (fin : ∀ w O, Stars Lr w O → X.R v w O)
    (hrd : X.rd = none := by rfl) (hdf : X.defs = [markOf D] := by rfl) : Cfg X (.code .ret :: k) env L :=
  c_ent hp.ent (c_retm_any (fun _ w O ha hs => ⟨_, results_one h (ha.look t v hv), fin w O hs⟩) hf hrd hdf fun _ _ _ _ _ hb => steps_ret hb)
theorem c_retm2 {D s t : Nat} {u v : Value} (hf : X.P.funcs[X.f]? = some X.fn) (h : X.fn.results = #[.tmp s, .tmp t]) (hu : env.look s = some u) (hv : env.look t = some v) (hp : Pick (ObjA D (.deferred (some []))) L Lr) (fin : ∀ w O, Stars Lr w O → X.R (.tuple #[u, v]) w O)
    (hrd : X.rd = none := by rfl) (hdf : X.defs = [markOf D] := by rfl) : Cfg X (.code .ret :: k) env L :=
  c_ent hp.ent (c_retm_any (fun _ w O ha hs => ⟨_, results_two h (ha.look s u hu) (ha.look t v hv), fin w O hs⟩) hf hrd hdf fun _ _ _ _ _ hb => steps_ret hb)
theorem c_retm0 {D : Nat} (hf : X.P.funcs[X.f]? = some X.fn) (h : X.fn.results = #[]) (hp : Pick (ObjA D (.deferred (some []))) L Lr) (fin : ∀ w O, Stars Lr w O → X.R (.tuple #[]) w O)
    (hrd : X.rd = none := by rfl) (hdf : X.defs = [markOf D] := by rfl) : Cfg X (.code .ret :: k) env L :=
  c_ent hp.ent (c_retm_any (fun _ w O _ hs => ⟨_, results_no h, fin w O hs⟩) hf hrd hdf fun _ _ _ _ _ hb => steps_ret hb)
end

/-! ### small helps -/
theorem Pick.ex {γ : Type} {f : γ → A} {L L1 : List A} (g : γ) (h : Pick (f g) L L1) : Pick (ExA f) L L1 := fun w O hs => by
  obtain ⟨O1, O2, s, h1, h2⟩ := h w O hs
  exact ⟨O1, O2, s, ⟨g, h1⟩, h2⟩
theorem Pick.all {As L L1 : List A} (h : Picks As L L1) : Pick (AllA As) L L1 := fun w O hs => h.split w O hs
theorem Ent.last {a : A} {L : List A} : Ent (a :: L) ((L ++ [a]) ++ []) := by rw [List.append_nil]; exact Ent.perm (List.perm_append_singleton a L).symm
theorem picks_self : ∀ L : List A, Picks L L []
  | [] => .nil
  | _ :: L => .cons Pick.here (picks_self L)
theorem Pick.pu {p : Prop} {L : List A} (h : p) : Pick (Pu p) L L := Pick.beside fun _ => h
theorem c_all {X : Cx} {k : List Item} {env : Env} {L As : List A} (h : Cfg X k env (As ++ L)) : Cfg X k env (AllA As :: L) := c_ent (fun _ _ hs => stars_join hs) h
theorem Has.mem {a : A} {L : List A} (h : a ∈ L) : Has L a := by
  induction L with
  | nil => cases h
  | cons b L ih =>
    rcases List.mem_cons.1 h with rfl | h
    · exact Has.here
    · exact Has.there (ih h)
theorem c_never {X : Cx} {k : List Item} {env : Env} {L : List A} (h : Has L (Pu False)) : Cfg X k env L := c_fact h (fun _ _ h => h) (fun h => h.elim)
/-- Rows that are handed on in their order. -/
def nxL {α : Type} (xs : List α) (pre : List α) (x : α) : Prop := pre ++ [x] <+: xs
def finL {α : Type} (xs : List α) (pre : List α) : Prop := pre = xs
end Go.SL
/- Maps: what a map's block holds; look-ups, updates, deletions. -/
namespace Go.SL
open Go

structure KeyEnc (κ : Type) [DecidableEq κ] where
  val : κ → Value
  desc : TypeDesc
  now : ∀ a b, Instr.sameNow desc (val a) (val b) = some (decide (a = b))
  chk : ∀ (P : Program) (w : World) (n : Nat) (e : Bool) (t : TypeId) (k : κ), P.underlying t = some desc → (Instr.checkKey e (n + 1) t (val k)).run P w = .ok () w
def kInt : KeyEnc Int where
  val := .int .i64
  desc := .int .i64
  now := fun a b => by simp [Instr.sameNow, BEq.beq]
  chk := fun P w n e t k h => by simp [Instr.checkKey, run_underlying h]
def kStr : KeyEnc ByteArray where
  val := .string
  desc := .string
  now := fun a b => by
    simp only [Instr.sameNow]
    congr 1
    rw [Bool.eq_iff_iff, Go.MapKept.bytes_beq, decide_eq_true_iff]
  chk := fun P w n e t k h => by simp [Instr.checkKey, run_underlying h]

section
variable {κ : Type} [DecidableEq κ] (ke : KeyEnc κ)
def Ents (es : List MapEntry) (m : List (κ × Value)) : Prop := es.map (fun e => (e.key, e.val)) = m.map (fun p => (ke.val p.1, p.2))
def look (m : List (κ × Value)) (k : κ) : Option Value := (m.find? fun p => decide (p.1 = k)).map (·.2)
theorem findNow_of {k : κ} : ∀ {es : List MapEntry} {m : List (κ × Value)} (i : Nat), Ents ke es m → ∃ r, Instr.findNow ke.desc (ke.val k) es i = some r ∧ r.map (·.2) = look m k ∧ (∀ j v, r = some (j, v) → ∃ n, j = i + n ∧ (m[n]?).map (·.1) = some k) ∧ (r = none → k ∉ m.map (·.1))
  | [], [], i, _ => ⟨none, rfl, rfl, (fun j v h => by cases h), (fun _ => by simp)⟩
  | e :: es, [], i, h => by simp [Ents] at h
  | [], p :: m, i, h => by simp [Ents] at h
  | e :: es, p :: m, i, h => by
    simp only [Ents, List.map_cons, List.cons.injEq, Prod.mk.injEq] at h
    obtain ⟨⟨h1, h2⟩, h3⟩ := h
    rw [Instr.findNow, h1, ke.now]
    by_cases hk : k = p.1
    · rw [decide_eq_true hk]
      refine ⟨_, rfl, ?_, (fun j v hj => ⟨0, ?_, ?_⟩), (fun h => by cases h)⟩
      · simp [look, hk, h2]
      · cases hj; rfl
      · simp [hk]
    · rw [decide_eq_false hk]
      obtain ⟨r, g1, g2, g3, g4⟩ := findNow_of (k := k) (es := es) (m := m) (i + 1) h3
      refine ⟨r, g1, ?_, (fun j v hj => ?_), (fun hr => ?_)⟩
      · rw [g2]; simp [look, Ne.symm hk, List.find?_cons, fun e => hk (Eq.symm e)]
      · obtain ⟨n, hn, hm⟩ := g3 j v hj
        exact ⟨n + 1, by omega, by simpa using hm⟩
      · have := g4 hr
        simp only [List.map_cons, List.mem_cons, not_or]
        exact ⟨hk, this⟩
/-- Block b is one's own, and is a map of these entries. -/
def MapA (b : Nat) (m : List (κ × Value)) : A where
  h := fun w O => 2 ≤ O b ∧ ∃ es clock, w.heap[b]? = some (.map es clock) ∧ Ents ke es.toList m ∧ (es.toList.map fun e : MapEntry => e.born).Nodup ∧ (∀ e ∈ es.toList, e.born < clock) ∧ (m.map fun p : κ × Value => p.1).Nodup
  mono := fun ⟨h1, h2⟩ hO => ⟨Nat.le_trans h1 (hO b), h2⟩
  loc := fun ⟨h1, es, c, h2, h3⟩ hw => ⟨h1, es, c, (hw b (by omega)).trans h2, h3⟩
variable {X : Cx} {env : Env} {L L1 : List A} {T : TypeId} {x y : Operand}
theorem v_lookup {t kt et : TypeId} {b : Nat} {m : List (κ × Value)} {k : κ} {z : Value} {n nb : Nat} (hu : X.P.underlying t = some (.map kt et)) (hk : X.P.underlying kt = some ke.desc) (hz : TI X.P et z n nb)
    (hx : env.eval x = some (.map (some b))) (hy : env.eval y = some (ke.val k)) (hm : Has L (MapA ke b m)) : Val X env L (.lookup t x y false) T ((look m k).getD z) := by
  intro _ _ _ _ a w O ha hs
  obtain ⟨_, es, clock, hh, he, _⟩ := hm w O hs
  obtain ⟨r, g1, g2, _⟩ := findNow_of ke (k := k) 0 he
  obtain ⟨ti, hi, hz0, _⟩ := hz
  have hzero : (zeroValue et).run X.P w = .ok z w := by simp [zeroValue, typeInfo, hi, hz0]
  have hget : (getObj b).run X.P w = .ok (.map es clock) w := by simp [getObj, Sem.run, hh]
  have hfind : (Instr.findKey kt (ke.val k) es.toList).run X.P w = .ok r w := by
    simp [Instr.findKey, run_underlying hk, g1]
  have hchk : (Instr.checkKey es.isEmpty 10000 kt (ke.val k)).run X.P w = .ok () w := ke.chk X.P w 9999 es.isEmpty kt k hk
  have hl : (Instr.lookup t (.map (some b)) (ke.val k) false).run X.P w = .ok ((look m k).getD z) w := by
    cases r with
    | none => simp [Instr.lookup, run_underlying hu, hget, hchk, hfind, ← g2, hzero]
    | some p => obtain ⟨i, v⟩ := p; simp [Instr.lookup, run_underlying hu, hget, hchk, hfind, ← g2]
  simp [execOp, ha.eval hx, ha.eval hy, hl]

omit ke in
def upd : List (κ × Value) → κ → Value → List (κ × Value)
  | [], k, v => [(k, v)]
  | p :: m, k, v => if p.1 = k then (k, v) :: m else p :: upd m k v
theorem look_nil (k : κ) : look ([] : List (κ × Value)) k = none := rfl
theorem look_cons (p : κ × Value) (m : List (κ × Value)) (k : κ) : look (p :: m) k = if p.1 = k then some p.2 else look m k := by
  simp only [look, List.find?_cons]
  by_cases h : p.1 = k <;> simp [h]
theorem look_upd (v : Value) (k k' : κ) : ∀ m : List (κ × Value), look (upd m k v) k' = if k' = k then some v else look m k'
  | [] => by
    rw [upd, look_cons, look_nil]
    by_cases h : k' = k
    · simp [h]
    · rw [if_neg (fun e => h e.symm), if_neg h]
  | p :: m => by
    rw [upd]
    by_cases hp : p.1 = k
    · rw [if_pos hp, look_cons, look_cons]
      by_cases h : k' = k
      · simp [h]
      · rw [if_neg (fun e => h e.symm), if_neg h, if_neg (fun e => h (e.symm.trans hp))]
    · rw [if_neg hp, look_cons, look_cons, look_upd v k k' m]
      by_cases h : k' = k
      · subst h; simp [hp]
      · simp [h]
theorem upd_keys (k : κ) (v : Value) : ∀ (m : List (κ × Value)), (upd m k v).map (fun p : κ × Value => p.1) = if k ∈ m.map (fun p : κ × Value => p.1) then m.map (fun p : κ × Value => p.1) else m.map (fun p : κ × Value => p.1) ++ [k]
  | [] => by simp [upd]
  | p :: m => by
    rw [upd]
    by_cases hp : p.1 = k
    · simp [hp]
    · rw [if_neg hp, List.map_cons, upd_keys k v m]
      by_cases hk : k ∈ m.map (fun p : κ × Value => p.1)
      · rw [if_pos hk, if_pos (by simp only [List.map_cons, List.mem_cons]; exact .inr hk)]; rfl
      · rw [if_neg hk, if_neg (by simp only [List.map_cons, List.mem_cons, not_or]; exact ⟨fun e => hp e.symm, hk⟩)]; rfl
theorem upd_nodup {k : κ} {v : Value} {m : List (κ × Value)} (h : (m.map fun p : κ × Value => p.1).Nodup) : ((upd m k v).map fun p : κ × Value => p.1).Nodup := by
  rw [upd_keys]
  split
  · exact h
  · rename_i hk
    exact List.nodup_append.2 ⟨h, by simp, fun a ha b hb e => hk (by rw [List.mem_singleton.1 hb] at e; rw [← e]; exact ha)⟩
theorem ents_found {k : κ} {v : Value} : ∀ {es : List MapEntry} {m : List (κ × Value)} (n : Nat), Ents ke es m → (m[n]?).map (fun p : κ × Value => p.1) = some k → (m.map fun p : κ × Value => p.1).Nodup →
    Ents ke (es.modify n fun e => { e with key := ke.val k, val := v }) (upd m k v)
  | [], [], n, _, hn, _ => by simp at hn
  | e :: es, [], n, h, _, _ => by simp [Ents] at h
  | [], p :: m, n, h, _, _ => by simp [Ents] at h
  | e :: es, p :: m, 0, h, hn, _ => by
    simp only [Ents, List.map_cons, List.cons.injEq] at h
    have : p.1 = k := by simpa using hn
    rw [upd, if_pos this]
    simp only [Ents, List.modify_zero_cons, List.map_cons, List.cons.injEq]
    exact ⟨trivial, h.2⟩
  | e :: es, p :: m, n + 1, h, hn, hd => by
    simp only [Ents, List.map_cons, List.cons.injEq] at h
    have hn' : (m[n]?).map (fun p : κ × Value => p.1) = some k := by simpa using hn
    have hd' := List.nodup_cons.1 (by simpa using hd : (p.1 :: m.map fun p : κ × Value => p.1).Nodup)
    have hp : p.1 ≠ k := fun e => hd'.1 (by
      rw [e]
      rw [Option.map_eq_some_iff] at hn'
      obtain ⟨q, hq, hqk⟩ := hn'
      exact List.mem_map.2 ⟨q, List.mem_of_getElem? hq, hqk⟩)
    rw [upd, if_neg hp, List.modify_succ_cons]
    have := ents_found n h.2 hn' hd'.2 (v := v)
    simp only [Ents, List.map_cons, List.cons.injEq]
    exact ⟨h.1, this⟩
theorem ents_new {k : κ} {v : Value} {c : Nat} : ∀ {es : List MapEntry} {m : List (κ × Value)}, Ents ke es m → k ∉ m.map (fun p : κ × Value => p.1) → Ents ke (es ++ [{ key := ke.val k, val := v, born := c }]) (upd m k v)
  | [], [], _, _ => rfl
  | e :: es, [], h, _ => by simp [Ents] at h
  | [], p :: m, h, _ => by simp [Ents] at h
  | e :: es, p :: m, h, hk => by
    simp only [Ents, List.map_cons, List.cons.injEq] at h
    simp only [List.map_cons, List.mem_cons, not_or] at hk
    rw [upd, if_neg (fun e => hk.1 e.symm)]
    have := ents_new (k := k) (v := v) (c := c) h.2 hk.2
    simp only [Ents, List.cons_append, List.map_cons, List.cons.injEq]
    exact ⟨h.1, this⟩
theorem modify_born {v : Value} {kv : Value} : ∀ (es : List MapEntry) (n : Nat), (es.modify n fun e => { e with key := kv, val := v }).map (fun e : MapEntry => e.born) = es.map fun e : MapEntry => e.born
  | [], n => by simp
  | e :: es, 0 => by simp
  | e :: es, n + 1 => by rw [List.modify_succ_cons, List.map_cons, List.map_cons, modify_born es n]

variable {K : Act → World → Prop} {kk : List Item} {pos : String} {af : Array Edge} {d : Nat}
theorem sameBits_self {ι : Type} (kx : ι → Value) (h : ∀ a, (∃ n j, kx a = .int j n) ∨ ∃ s, kx a = .string s) (a : ι) : Instr.sameBits 10000 (kx a) (kx a) = true := by
  rcases h a with ⟨n, j, e⟩ | ⟨s, e⟩
  · rw [e]; simp [Instr.sameBits]
  · rw [e]; simp only [Instr.sameBits]; exact (Go.MapKept.bytes_beq s s).2 rfl
theorem s_mapUpdate {t kt et : TypeId} {b : Nat} {m : List (κ × Value)} {k : κ} {u : Value} {z : Operand} (hu : X.P.underlying t = some (.map kt et)) (hk : X.P.underlying kt = some ke.desc) (hsc : ∀ a, (∃ n j, ke.val a = .int j n) ∨ ∃ s, ke.val a = .string s)
    (hx : env.eval x = some (.map (some b))) (hy : env.eval y = some (ke.val k)) (hz : env.eval z = some u) (hp : Pick (MapA ke b m) L L1) (kk' : Kont X env (MapA ke b (upd m k u) :: L1) K) :
    StepK X kk ⟨none, .mapUpdate t x y z, T, pos, af, none⟩ env L K := by
  refine s_skip (γ := Unit) (pu := fun _ => True) (L' := fun _ => MapA ke b (upd m k u) :: L1) ?_ (fun _ _ => kk')
  intro a w O ha hst hdom
  obtain ⟨O1, O2, s, ⟨h1, es, clock, hh, he, hbn, hbc, hnd⟩, hs2⟩ := hp w O hst
  obtain ⟨r, g1, g2, g3, g4⟩ := findNow_of ke (k := k) 0 he
  have hget : (getObj b).run X.P w = .ok (.map es clock) w := by simp [getObj, Sem.run, hh]
  have hfind : (Instr.findKey kt (ke.val k) es.toList).run X.P w = .ok r w := by simp [Instr.findKey, run_underlying hk, g1]
  have hchk : (Instr.checkKey false 10000 kt (ke.val k)).run X.P w = .ok () w := ke.chk X.P w 9999 false kt k hk
  have hset : ∀ o, (setObj b o).run X.P w = .ok () (w.putObj b o) := fun o => by simp [setObj, Sem.run, hh, World.putObj]
  have fin : ∀ (es' : Array MapEntry) (c' : Nat), Ents ke es'.toList (upd m k u) → (es'.toList.map fun e : MapEntry => e.born).Nodup → (∀ e ∈ es'.toList, e.born < c') →
      Stars (MapA ke b (upd m k u) :: L1) (w.putObj b (.map es' c')) O ∧ Rel w O (w.putObj b (.map es' c')) O := by
    intro es' c' e1 e2 e3
    obtain ⟨q1, q2⟩ := obj_put (o := .map es clock) (o' := .map es' c') (L := L1) ⟨O1, O2, s, ⟨h1, hh⟩, hs2⟩ hdom
    refine ⟨?_, q2⟩
    obtain ⟨P1, P2, t', ⟨a1, a2⟩, a3⟩ := q1
    exact ⟨P1, P2, t', ⟨a1, es', c', a2, e1, e2, e3, upd_nodup hnd⟩, a3⟩
  cases r with
  | none =>
    have hnew := ents_new ke (v := u) (c := clock) he (g4 rfl)
    obtain ⟨q1, q2⟩ := fin (es.push { key := ke.val k, val := u, born := clock }) (clock + 1) (by simpa using hnew) (by
      simp only [Array.toList_push, List.map_append, List.map_cons, List.map_nil]
      exact List.nodup_append.2 ⟨hbn, by simp, fun x hx y hy e => by
        rw [List.mem_singleton.1 hy] at e
        obtain ⟨q, hq, hqb⟩ := List.mem_map.1 hx
        have := hbc q hq
        omega⟩) (fun e he' => by
      simp only [Array.toList_push, List.mem_append, List.mem_singleton] at he'
      rcases he' with he' | rfl
      · have := hbc e he'; omega
      · exact Nat.lt_succ_self _)
    refine ⟨(), _, O, ?_, trivial, q1, q2⟩
    have hrun : (Instr.mapUpdate t (.map (some b)) (ke.val k) u).run X.P w = .ok () (w.putObj b (.map (es.push { key := ke.val k, val := u, born := clock }) (clock + 1))) := by
      simp [Instr.mapUpdate, run_underlying hu, hget, hchk, hfind, hset]
    simp [execOp, ha.eval hx, ha.eval hy, ha.eval hz, hrun]
  | some p =>
    obtain ⟨i, v⟩ := p
    obtain ⟨n, hn, hm⟩ := g3 i v rfl
    rw [Nat.zero_add] at hn
    subst hn
    have hold : ((es[i]?).map (fun e : MapEntry => e.key)).getD (ke.val k) = ke.val k := by
      have := congrArg (fun l => l[i]?) he
      simp only [List.getElem?_map, Array.getElem?_toList] at this
      rw [Option.map_eq_some_iff] at hm
      obtain ⟨q, hq, hqk⟩ := hm
      rw [hq] at this
      cases he2 : es[i]? with
      | none => rfl
      | some e2 =>
        rw [he2] at this
        simp only [Option.map_some, Option.some.injEq, Prod.mk.injEq] at this
        simp [this.1, hqk]
    obtain ⟨q1, q2⟩ := fin (es.modify i fun e => { e with key := ke.val k, val := u }) clock (by rw [Array.toList_modify]; exact ents_found ke i he hm hnd) (by rw [Array.toList_modify, modify_born]; exact hbn) (fun e he' => by
      have : e.born ∈ (es.toList.modify i fun e => { e with key := ke.val k, val := u }).map fun e : MapEntry => e.born := List.mem_map.2 ⟨e, by rwa [Array.toList_modify] at he', rfl⟩
      rw [modify_born] at this
      obtain ⟨q, hq, hqb⟩ := List.mem_map.1 this
      have := hbc q hq
      omega)
    refine ⟨(), _, O, ?_, trivial, q1, q2⟩
    have hstay : (Instr.keyThatStays (ke.val k) (ke.val k)).run X.P w = .ok (ke.val k) w := by
      simp [Instr.keyThatStays, sameBits_self ke.val hsc k]
    have hrun : (Instr.mapUpdate t (.map (some b)) (ke.val k) u).run X.P w = .ok () (w.putObj b (.map (es.modify i fun e => { e with key := ke.val k, val := u }) clock)) := by
      simp [Instr.mapUpdate, run_underlying hu, hget, hchk, hfind, hset, hold, hstay]
    simp [execOp, ha.eval hx, ha.eval hy, ha.eval hz, hrun]

omit ke in
def del (m : List (κ × Value)) (k : κ) : List (κ × Value) := m.filter fun p => decide (p.1 ≠ k)
theorem look_del (k k' : κ) : ∀ m : List (κ × Value), look (del m k) k' = if k' = k then none else look m k'
  | [] => by simp [del, look_nil]
  | p :: m => by
    have ih := look_del k k' m
    unfold del at ih ⊢
    rw [List.filter_cons]
    by_cases hp : p.1 = k
    · rw [if_neg (by simp [hp]), ih, look_cons]
      by_cases h : k' = k
      · simp [h]
      · rw [if_neg h, if_neg h, if_neg (fun e => h (e.symm.trans hp))]
    · rw [if_pos (by simpa using hp), look_cons, ih, look_cons]
      by_cases h : k' = k
      · subst h; simp [hp]
      · simp [h]
theorem del_none {k : κ} {m : List (κ × Value)} (h : k ∉ m.map (fun p : κ × Value => p.1)) : del m k = m := by
  unfold del
  rw [List.filter_eq_self]
  intro p hp
  have : p.1 ≠ k := fun e => h (List.mem_map.2 ⟨p, hp, e⟩)
  simpa using this
theorem ents_del {k : κ} : ∀ {es : List MapEntry} {m : List (κ × Value)} (n : Nat), Ents ke es m → (m[n]?).map (fun p : κ × Value => p.1) = some k → (m.map fun p : κ × Value => p.1).Nodup → Ents ke (es.eraseIdx n) (del m k)
  | [], [], n, _, hn, _ => by simp at hn
  | e :: es, [], n, h, _, _ => by simp [Ents] at h
  | [], p :: m, n, h, _, _ => by simp [Ents] at h
  | e :: es, p :: m, 0, h, hn, hd => by
    simp only [Ents, List.map_cons, List.cons.injEq] at h
    have hp : p.1 = k := by simpa using hn
    have hd' := List.nodup_cons.1 (by simpa using hd : (p.1 :: m.map fun p : κ × Value => p.1).Nodup)
    have : del (p :: m) k = m := by
      have := del_none (k := k) (m := m) (by rw [← hp]; exact hd'.1)
      unfold del at this ⊢
      rw [List.filter_cons, if_neg (by simp [hp]), this]
    rw [this]
    exact h.2
  | e :: es, p :: m, n + 1, h, hn, hd => by
    simp only [Ents, List.map_cons, List.cons.injEq] at h
    have hn' : (m[n]?).map (fun p : κ × Value => p.1) = some k := by simpa using hn
    have hd' := List.nodup_cons.1 (by simpa using hd : (p.1 :: m.map fun p : κ × Value => p.1).Nodup)
    have hp : p.1 ≠ k := fun e => hd'.1 (by
      rw [e]
      rw [Option.map_eq_some_iff] at hn'
      obtain ⟨q, hq, hqk⟩ := hn'
      exact List.mem_map.2 ⟨q, List.mem_of_getElem? hq, hqk⟩)
    have : del (p :: m) k = p :: del m k := by unfold del; rw [List.filter_cons, if_pos (by simpa using hp)]
    rw [this, List.eraseIdx_cons_succ]
    have := ents_del n h.2 hn' hd'.2
    simp only [Ents, List.map_cons, List.cons.injEq]
    exact ⟨h.1, this⟩
theorem ents_size {es : List MapEntry} {m : List (κ × Value)} (h : Ents ke es m) : es.length = m.length := by
  have := congrArg List.length h
  simpa using this
theorem v_len_map {t kt et : TypeId} {b : Nat} {m : List (κ × Value)} (hu : X.P.underlying t = some (.map kt et)) (hx : env.eval x = some (.map (some b))) (hm : Has L (MapA ke b m)) : Val X env L (.call ⟨.builtin .len, #[x], #[t]⟩) T (.int .i64 m.length) := by
  intro _ _ _ _ a w O ha hs
  obtain ⟨_, es, clock, hh, he, _⟩ := hm w O hs
  have hget : (getObj b).run X.P w = .ok (.map es clock) w := by simp [getObj, Sem.run, hh]
  have : es.size = m.length := by rw [← ents_size ke he]; simp
  simp [execOp, resolve, invoke, builtin, Builtin.len_, ha.eval hx, run_underlying hu, hget, goInt, this]
theorem s_delete {t kt et : TypeId} {b : Nat} {m : List (κ × Value)} {k : κ} {ts : Array TypeId} (hts : ts[0]? = some t) (hu : X.P.underlying t = some (.map kt et)) (hk : X.P.underlying kt = some ke.desc)
    (hx : env.eval x = some (.map (some b))) (hy : env.eval y = some (ke.val k)) (hp : Pick (MapA ke b m) L L1) (kk' : Kont X env (MapA ke b (del m k) :: L1) K) :
    StepK X kk ⟨none, .call ⟨.builtin .delete, #[x, y], ts⟩, T, pos, af, none⟩ env L K := by
  refine s_main0 (γ := Unit) (V := fun _ => .tuple #[]) (pu := fun _ => True) (L' := fun _ => MapA ke b (del m k) :: L1) ?_ (fun _ _ => kk')
  intro a w O ha hst hdom
  obtain ⟨O1, O2, s, ⟨h1, es, clock, hh, he, hbn, hbc, hnd⟩, hs2⟩ := hp w O hst
  obtain ⟨r, g1, g2, g3, g4⟩ := findNow_of ke (k := k) 0 he
  have hget : (getObj b).run X.P w = .ok (.map es clock) w := by simp [getObj, Sem.run, hh]
  have hfind : (Instr.findKey kt (ke.val k) es.toList).run X.P w = .ok r w := by simp [Instr.findKey, run_underlying hk, g1]
  have hchk : (Instr.checkKey es.isEmpty 10000 kt (ke.val k)).run X.P w = .ok () w := ke.chk X.P w 9999 es.isEmpty kt k hk
  have hset : ∀ o, (setObj b o).run X.P w = .ok () (w.putObj b o) := fun o => by simp [setObj, Sem.run, hh, World.putObj]
  have hnd' : ((del m k).map fun p : κ × Value => p.1).Nodup := (List.filter_sublist.map _).nodup hnd
  have fin : ∀ (es' : Array MapEntry), Ents ke es'.toList (del m k) → (es'.toList.map fun e : MapEntry => e.born).Nodup → (∀ e ∈ es'.toList, e.born < clock) →
      Stars (MapA ke b (del m k) :: L1) (w.putObj b (.map es' clock)) O ∧ Rel w O (w.putObj b (.map es' clock)) O := by
    intro es' e1 e2 e3
    obtain ⟨q1, q2⟩ := obj_put (o := .map es clock) (o' := .map es' clock) (L := L1) ⟨O1, O2, s, ⟨h1, hh⟩, hs2⟩ hdom
    refine ⟨?_, q2⟩
    obtain ⟨P1, P2, t', ⟨a1, a2⟩, a3⟩ := q1
    exact ⟨P1, P2, t', ⟨a1, es', clock, a2, e1, e2, e3, hnd'⟩, a3⟩
  cases r with
  | none =>
    obtain ⟨q1, q2⟩ := fin es (by rw [del_none (g4 rfl)]; exact he) hbn hbc
    refine ⟨(), _, O, ?_, trivial, q1, q2⟩
    have hrun : (Builtin.delete_ ts T #[.map (some b), ke.val k]).run X.P w = .ok (.tuple #[]) (w.putObj b (.map es clock)) := by
      simp [Builtin.delete_, hts, run_underlying hu, hget, hchk, hfind, hset]
    simp [execOp, resolve, invoke, builtin, ha.eval hx, ha.eval hy, hrun]
  | some p =>
    obtain ⟨i, v⟩ := p
    obtain ⟨n, hn, hm⟩ := g3 i v rfl
    rw [Nat.zero_add] at hn
    subst hn
    have hsub : (es.eraseIdxIfInBounds i).toList = es.toList.eraseIdx i := by simp
    obtain ⟨q1, q2⟩ := fin (es.eraseIdxIfInBounds i) (by rw [hsub]; exact ents_del ke i he hm hnd) (by rw [hsub]; exact ((List.eraseIdx_sublist _ _).map _).nodup hbn) (fun e he' => by
      rw [hsub] at he'; exact hbc e ((List.eraseIdx_sublist _ _).subset he'))
    refine ⟨(), _, O, ?_, trivial, q1, q2⟩
    have hrun : (Builtin.delete_ ts T #[.map (some b), ke.val k]).run X.P w = .ok (.tuple #[]) (w.putObj b (.map (es.eraseIdxIfInBounds i) clock)) := by
      simp [Builtin.delete_, hts, run_underlying hu, hget, hchk, hfind, hset]
    simp [execOp, resolve, invoke, builtin, ha.eval hx, ha.eval hy, hrun]
theorem s_makeMap {t : TypeId} (hd : d < X.fn.ntmps) (kk' : ∀ b, Kont X ((d, .map (some b)) :: env) (MapA ke b [] :: L) K) : StepK X kk ⟨some d, .makeMap t none, T, pos, af, none⟩ env L K := by
  refine s_main (γ := Nat) (V := fun b => .map (some b)) (pu := fun _ => True) (L' := fun b => MapA ke b [] :: L) ?_ hd (fun b _ => kk' b)
  intro a w O ha hst hdom
  refine ⟨w.heap.size, w.alloc (.map #[] 0), fresh w O, ?_, trivial, stars_alloc _ hdom hst ⟨by simp, #[], 0, heap_alloc w _, rfl, by simp, by simp, by simp⟩, rel_alloc _ hdom⟩
  simp [execOp, Instr.makeMap]
end
end Go.SL
/- Loops over maps. -/
namespace Go.SL
open Go
section
variable {κ : Type} [DecidableEq κ] (ke : KeyEnc κ)
theorem KeyEnc.inj {a b : κ} (h : ke.val a = ke.val b) : a = b := by
  have h1 := ke.now a b
  rw [← h, ke.now a a] at h1
  simpa using h1.symm
theorem ents_mem {es : List MapEntry} {m : List (κ × Value)} (h : Ents ke es m) {e : MapEntry} (he : e ∈ es) : ∃ p ∈ m, e.key = ke.val p.1 ∧ e.val = p.2 := by
  have : (e.key, e.val) ∈ m.map (fun p => (ke.val p.1, p.2)) := by rw [← h]; exact List.mem_map.2 ⟨e, he, rfl⟩
  obtain ⟨p, hp, hpe⟩ := List.mem_map.1 this
  simp only [Prod.mk.injEq] at hpe
  exact ⟨p, hp, hpe.1.symm, hpe.2.symm⟩
theorem mem_ents {es : List MapEntry} {m : List (κ × Value)} (h : Ents ke es m) {p : κ × Value} (hp : p ∈ m) : ∃ e ∈ es, e.key = ke.val p.1 ∧ e.val = p.2 := by
  have : (ke.val p.1, p.2) ∈ es.map (fun e => (e.key, e.val)) := by rw [h]; exact List.mem_map.2 ⟨p, hp, rfl⟩
  obtain ⟨e, he, hpe⟩ := List.mem_map.1 this
  simp only [Prod.mk.injEq] at hpe
  exact ⟨e, he, hpe.1, hpe.2⟩
theorem ents_keys {es : List MapEntry} {m : List (κ × Value)} (h : Ents ke es m) (hn : (m.map fun p : κ × Value => p.1).Nodup) : (es.map fun e : MapEntry => e.key).Nodup := by
  have e1 : (es.map fun e : MapEntry => e.key) = (m.map fun p : κ × Value => p.1).map ke.val := by
    have := congrArg (List.map Prod.fst) h
    simpa [List.map_map, Function.comp_def] using this
  rw [e1]
  exact List.Pairwise.map _ (fun a b hab e => hab (ke.inj e)) hn
theorem nodup_inj {α β : Type} {f : α → β} : ∀ {l : List α}, (l.map f).Nodup → ∀ {a b : α}, a ∈ l → b ∈ l → f a = f b → a = b
  | x :: l, h, a, b, ha, hb, e => by
    rw [List.map_cons, List.nodup_cons] at h
    rcases List.mem_cons.1 ha with h1 | h1 <;> rcases List.mem_cons.1 hb with h2 | h2
    · rw [h1, h2]
    · exact absurd (List.mem_map.2 ⟨b, h2, by rw [← h1]; exact e.symm⟩) h.1
    · exact absurd (List.mem_map.2 ⟨a, h1, by rw [← h2]; exact e⟩) h.1
    · exact nodup_inj h.2 h1 h2 e

def Seen (es : List MapEntry) (seen : List Nat) (pre : List κ) : Prop := ∃ ps : List MapEntry, (ps.map fun e : MapEntry => e.key) = pre.map ke.val ∧ seen = (ps.map fun e : MapEntry => e.born) ∧ ∀ e ∈ ps, e ∈ es
/-- A map that is being gone through: the keys of pre have come. -/
def MapIt (it b : Nat) (m : List (κ × Value)) (pre : List κ) : A where
  h := fun w O => 2 ≤ O it ∧ 2 ≤ O b ∧ ∃ es clock seen, w.heap[b]? = some (.map es clock) ∧ w.heap[it]? = some (.mapIter (some b) clock seen clock) ∧ Ents ke es.toList m ∧ (es.toList.map fun e : MapEntry => e.born).Nodup ∧ (∀ e ∈ es.toList, e.born < clock) ∧
    (m.map fun p : κ × Value => p.1).Nodup ∧ Seen ke es.toList seen.toList pre
  mono := fun ⟨h1, h2, h3⟩ hO => ⟨Nat.le_trans h1 (hO _), Nat.le_trans h2 (hO _), h3⟩
  loc := fun {w w' O} ⟨h1, h2, es, c, seen, h3, h4, h5⟩ hw => ⟨h1, h2, es, c, seen, (hw b (by omega)).trans h3, (hw it (by omega)).trans h4, h5⟩
variable {X : Cx} {env : Env} {L L1 : List A} {T : TypeId} {x y : Operand} {K : Act → World → Prop} {kk : List Item} {pos : String} {af : Array Edge} {d : Nat}
theorem v_entry {it b : Nat} {m : List (κ × Value)} {pre : List κ} {k : κ} {v : Value} (hx : env.eval x = some (.pointer (some ⟨it, 0, none⟩))) (hkv : (k, v) ∈ m) (hm : Has L (MapIt ke it b m (pre ++ [k]))) : Val X env L (.entry x) T (.tuple #[ke.val k, v]) := by
  intro _ _ _ _ a w O ha hs
  obtain ⟨_, _, es, clock, seen, hb, hit, he, hbn, hbc, hnd, ps, hp1, hp2, hp3⟩ := hm w O hs
  obtain ⟨ps', e, rfl⟩ : ∃ ps' e, ps = ps' ++ [e] := by
    have : ps ≠ [] := by rintro rfl; simp at hp1
    exact ⟨ps.dropLast, ps.getLast this, (List.dropLast_concat_getLast this).symm⟩
  simp only [List.map_append, List.map_cons, List.map_nil] at hp1 hp2
  have hk := List.append_inj' hp1 rfl
  have hek : e.key = ke.val k := by simpa using hk.2
  have hmem : e ∈ es.toList := hp3 e (by simp)
  obtain ⟨p, hpm, hpk, hpv⟩ := ents_mem ke he hmem
  have : p = (k, v) := nodup_inj hnd hpm hkv (ke.inj (hpk.symm.trans hek))
  subst this
  have hseen : seen = (ps'.map fun e : MapEntry => e.born).toArray.push e.born := by
    apply Array.toList_inj.1
    rw [hp2]; simp
  rw [hseen] at hit
  have hrun := run_entry_at (P := X.P) w it b clock _ es clock e hit hb hmem (by simpa using hbn)
  rw [hek, hpv] at hrun
  simp [execOp, ha.eval hx, hrun]

/-- A step: an entry that has not come yet, whichever; or all have come. -/
theorem s_next {it b : Nat} {m : List (κ × Value)} {pre : List κ} (hx : env.eval x = some (.pointer (some ⟨it, 0, none⟩))) (hne : it ≠ b) (hd : d < X.fn.ntmps) (hp : Pick (MapIt ke it b m pre) L L1)
    (kt : ∀ k v, (k, v) ∈ m → k ∉ pre → Kont X ((d, .tuple #[.bool true, ke.val k, v]) :: env) (MapIt ke it b m (pre ++ [k]) :: L1) K)
    (kf : (∀ k ∈ m.map (fun p : κ × Value => p.1), k ∈ pre) → Kont X ((d, .tuple #[.bool false]) :: env) (MapIt ke it b m pre :: L1) K) :
    StepK X kk ⟨some d, .next x false, T, pos, af, none⟩ env L K := by
  refine s_main (γ := Option (κ × Value)) (V := fun o => match o with | some (k, v) => .tuple #[.bool true, ke.val k, v] | none => .tuple #[.bool false])
    (pu := fun o => match o with | some (k, v) => (k, v) ∈ m ∧ k ∉ pre | none => ∀ k ∈ m.map (fun p : κ × Value => p.1), k ∈ pre)
    (L' := fun o => match o with | some (k, _) => MapIt ke it b m (pre ++ [k]) :: L1 | none => MapIt ke it b m pre :: L1) ?_ hd (fun o ho => match o, ho with | some (k, v), ho => kt k v ho.1 ho.2 | none, ho => kf ho)
  intro a w O ha hst hdom
  obtain ⟨O1, O2, s, ⟨q1, q2, es, clock, seen, hb, hit, he, hbn, hbc, hnd, ps, hp1, hp2, hp3⟩, hs2⟩ := hp w O hst
  have hkeys := ents_keys ke he hnd
  rcases run_next_at (P := X.P) w T it b clock clock seen es clock hit hb hbc (Nat.le_refl _) with ⟨h0, hrun⟩ | ⟨e, hel, w1, hw1, hrun⟩
  · refine ⟨none, w, O, by simp [execOp, ha.eval hx, hrun], ?_, ⟨O1, O2, s, ⟨q1, q2, es, clock, seen, hb, hit, he, hbn, hbc, hnd, ps, hp1, hp2, hp3⟩, hs2⟩, Rel.refl hdom⟩
    intro k hk
    obtain ⟨p, hpm, rfl⟩ := List.mem_map.1 hk
    obtain ⟨e, hee, hek, _⟩ := mem_ents ke he hpm
    have hall : seen.contains e.born = true := by
      have : (leftOf es seen).toList = [] := List.eq_nil_of_length_eq_zero (by simpa using h0)
      by_cases hc : seen.contains e.born = true
      · exact hc
      · exfalso
        have : e ∈ (leftOf es seen).toList := by
          unfold leftOf
          rw [Array.toList_filter, List.mem_filter]
          exact ⟨hee, by simpa using hc⟩
        rw [‹(leftOf es seen).toList = []›] at this
        cases this
    have hmem : e.born ∈ seen.toList := by simpa using hall
    rw [hp2] at hmem
    obtain ⟨e', he', hbb⟩ := List.mem_map.1 hmem
    have : e' = e := nodup_inj hbn (hp3 e' he') hee hbb
    subst this
    have : ke.val p.1 ∈ pre.map ke.val := by rw [← hp1]; exact List.mem_map.2 ⟨e', he', hek⟩
    obtain ⟨k', hk', hkk⟩ := List.mem_map.1 this
    rw [← ke.inj hkk]; exact hk'
  · unfold leftOf at hel
    rw [Array.toList_filter, List.mem_filter] at hel
    obtain ⟨hee, hns⟩ := hel
    obtain ⟨p, hpm, hpk, hpv⟩ := ents_mem ke he hee
    have hsz : it < w.heap.size := hdom it (by have := s.l it; omega)
    have hw : ∀ c, (ChangeMaps.setBlock w1 it (.mapIter (some b) clock (seen.push e.born) clock)).heap[c]? = if c = it then some (.mapIter (some b) clock (seen.push e.born) clock) else w.heap[c]? := by
      intro c
      have hh : w1.heap = w.heap := by rcases hw1 with rfl | rfl <;> rfl
      simp only [ChangeMaps.setBlock, hh]
      by_cases hc : c = it
      · subst hc; simp [hsz]
      · rw [if_neg hc, Array.getElem?_setIfInBounds_ne (Ne.symm hc)]
    have hrest : w1.os = w.os ∧ w1.tape = w.tape ∧ w1.output = w.output ∧ w1.heap.size = w.heap.size := by rcases hw1 with rfl | rfl <;> exact ⟨rfl, rfl, rfl, rfl⟩
    refine ⟨some (p.1, p.2), ChangeMaps.setBlock w1 it (.mapIter (some b) clock (seen.push e.born) clock), O, ?_, ⟨hpm, ?_⟩, ⟨O1, O2, s, ⟨q1, q2, es, clock, seen.push e.born, ?_, ?_, he, hbn, hbc, hnd, ps ++ [e], ?_, ?_, ?_⟩, hs2.loc fun c hc => ?_⟩, ⟨hrest.1, hrest.2.1, hrest.2.2.1, ?_, fun c hc hlt => ?_, fun _ _ => Nat.le_refl _, fun c hc => ?_⟩⟩
    · simp [execOp, ha.eval hx, hrun, hpk, hpv]
    · intro hk
      have : ke.val p.1 ∈ ps.map fun e : MapEntry => e.key := by rw [hp1]; exact List.mem_map.2 ⟨p.1, hk, rfl⟩
      obtain ⟨e', he', hek⟩ := List.mem_map.1 this
      have : e' = e := nodup_inj hkeys (hp3 e' he') hee (hek.trans hpk.symm)
      subst this
      have : e'.born ∈ seen.toList := by rw [hp2]; exact List.mem_map.2 ⟨e', he', rfl⟩
      simp at hns
      exact hns (by simpa using this)
    · rw [hw, if_neg (Ne.symm hne)]; exact hb
    · rw [hw, if_pos rfl]
    · simp [hp1, hpk]
    · simp [hp2]
    · intro e' he'
      rcases List.mem_append.1 he' with h | h
      · exact hp3 e' h
      · rw [List.mem_singleton.1 h]; exact hee
    · have : c ≠ it := by intro e; subst e; have := s.lr c q1; omega
      rw [hw, if_neg this]
    · simp [ChangeMaps.setBlock, hrest.2.2.2]
    · have : c ≠ it := by intro e; subst e; have := s.l c; omega
      rw [hw, if_neg this]
    · simp [ChangeMaps.setBlock, hrest.2.2.2]; exact hdom c hc

theorem s_range_map {t kt et : TypeId} {b : Nat} {m : List (κ × Value)} (hu : X.P.underlying t = some (.map kt et)) (hx : env.eval x = some (.map (some b))) (hd : d < X.fn.ntmps) (hp : Pick (MapA ke b m) L L1)
    (k : ∀ it, it ≠ b → Kont X ((d, .pointer (some ⟨it, 0, none⟩)) :: env) (MapIt ke it b m [] :: L1) K) : StepK X kk ⟨some d, .range t x, T, pos, af, none⟩ env L K := by
  refine s_main (γ := Nat) (V := fun it => .pointer (some ⟨it, 0, none⟩)) (pu := fun it => it ≠ b) (L' := fun it => MapIt ke it b m [] :: L1) ?_ hd (fun it hit => k it hit)
  intro a w O ha hst hdom
  obtain ⟨O1, O2, s, ⟨h1, es, clock, hh, he, hbn, hbc, hnd⟩, hs2⟩ := hp w O hst
  have hb : b < w.heap.size := hdom b (by have := s.l b; omega)
  have hget : (getObj b).run X.P w = .ok (.map es clock) w := by simp [getObj, Sem.run, hh]
  have hold : ∀ c, c < w.heap.size → (w.alloc (.mapIter (some b) clock #[] clock)).heap[c]? = w.heap[c]? := fun c hc => by
    show (w.heap.push _)[c]? = _
    rw [Array.getElem?_push, if_neg (by omega)]
  have hn : O w.heap.size = 0 := by
    rcases Nat.eq_zero_or_pos (O w.heap.size) with h | h
    · exact h
    · have := hdom w.heap.size (by omega); omega
  refine ⟨w.heap.size, w.alloc (.mapIter (some b) clock #[] clock), fresh w O, ?_, by omega, ?_, rel_alloc _ hdom⟩
  · have hrun : (Instr.range t (.map (some b))).run X.P w = .ok (.pointer (some ⟨w.heap.size, 0, none⟩)) (w.alloc (.mapIter (some b) clock #[] clock)) := by
      simp [Instr.range, run_underlying hu, hget]
    simp [execOp, ha.eval hx, hrun]
  · refine ⟨fresh w O1, O2, ⟨fun c => ?_, fun c => ?_, fun c hc => ?_, fun c hc => ?_⟩, ⟨by simp [fresh], ?_, es, clock, #[], ?_, heap_alloc w _, he, hbn, hbc, hnd, [], rfl, rfl, fun e h => by cases h⟩, hs2.loc fun c hc => hold c (hdom c (by have := s.r c; omega))⟩
    · simp only [fresh]; split
      · exact Nat.le_refl _
      · exact s.l c
    · simp only [fresh]; split
      · rename_i h; have := s.r c; rw [h] at this ⊢; omega
      · exact s.r c
    · simp only [fresh] at hc
      split at hc
      · rename_i h; have := s.r c; rw [h] at this ⊢; omega
      · exact s.lr c hc
    · have h1' := s.rl c hc
      simp only [fresh]; split
      · rename_i h; have := s.r c; rw [h] at this hc; omega
      · exact h1'
    · simp only [fresh]; split
      · omega
      · exact h1
    · rw [hold b hb]; exact hh
theorem Pick.map_it {it b : Nat} {m : List (κ × Value)} {pre : List κ} {L : List A} : Pick (MapA ke b m) (MapIt ke it b m pre :: L) L :=
  Pick.of Pick.here fun _ _ ⟨_, h2, es, clock, _, h3, _, h4, h5, h6, h7, _⟩ => ⟨h2, es, clock, h3, h4, h5, h6, h7⟩
end
end Go.SL
/- Regions that draw their order, where what is read is written at the end, by one operation that waits for all that read it. -/
namespace Go.SL
open Go

section
variable {P : Program} {ops : Array Oper} {Q : Exit → Act → World → Prop} {md : Region.Mode} {S : World → Prop} {j0 : Nat}
/-- Whatever order is picked; S holds behind each operation, until j0 has been carried out. -/
def wpAnyK (P : Program) (md : Region.Mode) (ops : Array Oper) (Q : Exit → Act → World → Prop) (S : World → Prop) (j0 : Nat) : Nat → Array Bool → Act → World → Prop
  | 0, listed, a, w => Region.ready md ops listed = [] ∧ Q .normal a w
  | fuel + 1, listed, a, w => (Region.ready md ops listed = [] → Q .normal a w) ∧
    ∀ i ∈ Region.ready md ops listed, wpOp P ops Q i (fun a' w' => ((listed.setIfInBounds i true).getD j0 false = true ∨ S w') ∧ wpAnyK P md ops Q S j0 fuel (listed.setIfInBounds i true) a' w') a w
theorem wpAny_of_K : ∀ (fuel : Nat) (listed : Array Bool) (a : Act) (w : World), wpAnyK P md ops Q S j0 fuel listed a w → wpAny P md ops Q fuel listed a w
  | 0, _, _, _, h => h
  | fuel + 1, _, _, _, h => ⟨h.1, fun i hi => wpOp_mono (fun a' w' h' => wpAny_of_K fuel _ a' w' h'.2) (h.2 i hi)⟩
/-- j comes behind i, by one way or another. -/
def waitsB (md : Region.Mode) (ops : Array Oper) : Nat → Nat → Nat → Bool
  | 0, _, _ => false
  | n + 1, j, i => match ops[j]? with
    | none => false
    | some o => o.after.any fun e => Region.binds md e && (Nat.beq e.on i || waitsB md ops n e.on i)
def Closed (md : Region.Mode) (ops : Array Oper) (listed : Array Bool) : Prop := ∀ k ok, ops[k]? = some ok → listed.getD k false = true → ∀ e ∈ ok.after, Region.binds md e = true → listed.getD e.on false = true
theorem waits_un {listed : Array Bool} (hc : Closed md ops listed) : ∀ {n j i : Nat}, waitsB md ops n j i = true → listed.getD i false = false → listed.getD j false = false
  | 0, _, _, h, _ => by simp [waitsB] at h
  | n + 1, j, i, h, hi => by
    unfold waitsB at h
    split at h
    · cases h
    · rename_i o ho
      obtain ⟨e, he, hb⟩ := Array.any_eq_true'.1 h
      simp only [Bool.and_eq_true, Bool.or_eq_true] at hb
      cases hj : listed.getD j false with
      | false => rfl
      | true =>
        have h1 := hc j o ho hj e he hb.1
        rcases hb.2 with h2 | h2
        · rw [Nat.eq_of_beq_eq_true h2, hi] at h1; cases h1
        · rw [waits_un hc h2 hi] at h1; cases h1
theorem closed_set {listed : Array Bool} (hc : Closed md ops listed) {i : Nat} (hi : i ∈ Region.ready md ops listed) : Closed md ops (listed.setIfInBounds i true) := by
  intro k ok hk hl e he hb
  obtain ⟨_, o, ho, hall⟩ := mem_ready.1 hi
  by_cases hki : i = k
  · subst hki
    rw [ho] at hk; cases hk
    exact getD_set_true (hall e he hb)
  · rw [getD_set_ne false hki] at hl
    exact getD_set_true (hc k ok hk hl e he hb)
theorem getD_ft {listed : Array Bool} {i : Nat} (h : listed.getD i true = false) : listed.getD i false = false := by
  rcases Nat.lt_or_ge i listed.size with h' | h'
  · simp [h'] at h ⊢; exact h
  · simp [Array.getElem?_eq_none h'] at h
/-- An operation that only reads, taken first; F: it reads what j0 writes, and j0 waits for it; or it reads nothing. -/
theorem wpAnyK_first {i : Nat} {oi : Oper} {v : Value} {T : World → Prop} (hi : ops[i]? = some oi) (hsel : ∀ (j : Nat) (o : Oper) cs b, ops[j]? = some o → o.op ≠ .select cs b)
    (hQ : ∀ c a w, Q (.panic c) (a.put oi.dst v) w → Q (.panic c) a w) (hij : i ≠ j0) (hT : (T = S ∧ ∃ n, waitsB md ops n j0 i = true) ∨ ∀ w, T w) :
    ∀ (fuel : Nat) (listed : Array Bool) (a : Act) (w : World), Closed md ops listed →
      (∀ j oj, ops[j]? = some oj → j ≠ i → listed.getD j true = false → (∀ e ∈ oj.after, Region.binds md e = true → e.on ≠ i) → oi.apart ops oj = true) →
      i ∈ Region.ready md ops listed → YieldsIf P ops T oi v a → (listed.getD j0 false = true ∨ S w) →
      wpAnyK P md ops Q S j0 fuel (listed.setIfInBounds i true) (a.put oi.dst v) w → wpAnyK P md ops Q S j0 (fuel + 1) listed a w := by
  have hTw : ∀ (listed : Array Bool) (w : World), Closed md ops listed → i ∈ Region.ready md ops listed → (listed.getD j0 false = true ∨ S w) → T w := fun listed w hc hr hS => by
    rcases hT with ⟨rfl, n, hw⟩ | h
    · rcases hS with h | h
      · rw [waits_un hc hw (getD_ft (mem_ready.1 hr).1)] at h; cases h
      · exact h
    · exact h w
  intro fuel
  induction fuel with
  | zero =>
    intro listed a w hc _ hr hy hS H
    refine ⟨fun h => (by rw [h] at hr; cases hr), fun j hj => ?_⟩
    by_cases hji : j = i
    · subst hji
      exact hy.wpOp hi (hTw listed w hc hr hS) ⟨hS.imp (fun h => getD_set_true h) fun h => h, H⟩
    · have := ready_mono hj hji
      rw [H.1] at this
      cases this
  | succ fuel ih =>
    intro listed a w hc hfree hr hy hS H
    refine ⟨fun h => (by rw [h] at hr; cases hr), fun j hj => ?_⟩
    by_cases hji : j = i
    · subst hji; exact hy.wpOp hi (hTw listed w hc hr hS) ⟨hS.imp (fun h => getD_set_true h) fun h => h, H⟩
    · have h1 := H.2 j (ready_mono hj hji)
      obtain ⟨hjun, oj, hoj, hall⟩ := mem_ready.1 hj
      have hnot : ∀ e ∈ oj.after, Region.binds md e = true → e.on ≠ i := fun e he hb heq => by
        have h1 := hall e he hb
        rw [heq, getD_ft (mem_ready.1 hr).1] at h1
        cases h1
      have h2 := wpOp_putIf hoj (hfree j oj hoj hji hjun hnot) (fun cs b => hsel i oi cs b hi) (fun cs b => hsel j oj cs b hoj) hQ hy h1
      have hfree' : ∀ k ok, ops[k]? = some ok → k ≠ i → (listed.setIfInBounds j true).getD k true = false →
          (∀ e ∈ ok.after, Region.binds md e = true → e.on ≠ i) → oi.apart ops ok = true := fun k ok hk hki hun hno => by
        refine hfree k ok hk hki ?_ hno
        by_cases hjk : j = k
        · subst hjk; exact hjun
        · rw [getD_set_ne true hjk] at hun; exact hun
      have hsw : ∀ w', (((listed.setIfInBounds i true).setIfInBounds j true).getD j0 false = true ∨ S w') → ((listed.setIfInBounds j true).getD j0 false = true ∨ S w') := fun w' h => by
        rcases h with h | h
        · rw [Array.setIfInBounds_comm _ _ (Ne.symm hji), getD_set_ne false hij] at h
          exact .inl h
        · exact .inr h
      refine wpOp_mono (fun a' w' h3 => ⟨hsw w' h3.2.1, ih (listed.setIfInBounds j true) a' w' (closed_set hc hj) hfree' (ready_mono hr (Ne.symm hji)) h3.1 (hsw w' h3.2.1) ?_⟩) h2
      rw [Array.setIfInBounds_comm _ _ hji]
      exact h3.2.2
end
theorem closed_none (md : Region.Mode) (ops : Array Oper) (n : Nat) : Closed md ops (Array.replicate n false) := fun k ok _ h => by
  simp [Array.getD_eq_getD_getElem?, Array.getElem?_replicate] at h
  split at h <;> simp at h

/-- A region that draws its order and writes, at j0 what was read before. -/
def AnyG (X : Cx) (ops : Array Oper) (S : List A) (j0 fuel : Nat) (listed : Array Bool) (k : List Item) (env : Env) (L : List A) : Prop :=
  Closed .any ops listed → Kont X env L fun a w => wpAnyK X.P .any ops (Qn X k) (fun w => ∃ O, Stars S w O) j0 fuel listed a w
section
variable {X : Cx} {ops : Array Oper} {kk : List Item} {env : Env} {L L1 S : List A} {j0 fuel : Nat} {listed : Array Bool}
theorem c_heldk {id : Nat} {l : List Oper} (j0 : Nat) (S : List A) (hm : X.P.follows .mixedOrders = true) (h : AnyG X l.toArray S j0 l.length (Array.replicate l.length false) kk env L) (hnd : noDefer l = true := by rfl) : Cfg X (.code (.region id l.toArray true) :: kk) env L := by
  intro a w O ha hs hr
  refine ok_any hm (by simpa using hnd) (wpAny_of_K (S := fun w => ∃ O, Stars S w O) (j0 := j0) _ _ _ _ ?_)
  simpa using h (closed_none _ _ _) a _ O ha (draw_stars hs) (draw_rel hr)
theorem k_take (i : Nat) {v : Value} {d : Nat} {op : Op} {T : TypeId} {pos : String} {af : Array Edge} (hi : ops[i]? = some ⟨some d, op, T, pos, af, none⟩) (hs : Region.noSelect ops = true)
    (hf : Region.free .any ops listed i = true) (hr : (Region.ready .any ops listed).contains i = true) (hij : Nat.beq i j0 = false) (hw : waitsB .any ops ops.size j0 i = true) (hv : Val X env S op T v) (hS : Ent L S) (hd : d < X.fn.ntmps)
    (k : AnyG X ops S j0 fuel (listed.setIfInBounds i true) kk ((d, v) :: env) L) : AnyG X ops S j0 (fuel + 1) listed kk env L := by
  intro hc a w O ha hst hrel
  exact wpAnyK_first (T := fun w => ∃ O, Stars S w O) hi (Region.noSelect_spec hs) (fun _ _ _ h => by cases h.1) (Nat.ne_of_beq_eq_false hij) (.inl ⟨rfl, _, hw⟩) fuel listed a w hc (Region.free_spec hi hf) (by simpa using hr)
    (.inl ⟨rfl, fun w ⟨O, hs'⟩ => hv _ _ _ _ a w O ha hs'⟩) (.inr ⟨O, hS w O hst⟩) (k (closed_set hc (by simpa using hr)) _ w O (ha.put hd v) hst hrel)
/-- The same of an operation that reads nothing. -/
theorem k_takeF (i : Nat) {v : Value} {d : Nat} {op : Op} {T : TypeId} {pos : String} {af : Array Edge} (hi : ops[i]? = some ⟨some d, op, T, pos, af, none⟩) (hs : Region.noSelect ops = true)
    (hf : Region.free .any ops listed i = true) (hr : (Region.ready .any ops listed).contains i = true) (hij : Nat.beq i j0 = false) (hv : Val X env [] op T v) (hS : listed.getD j0 false = true ∨ Ent L S) (hd : d < X.fn.ntmps)
    (k : AnyG X ops S j0 fuel (listed.setIfInBounds i true) kk ((d, v) :: env) L) : AnyG X ops S j0 (fuel + 1) listed kk env L := by
  intro hc a w O ha hst hrel
  exact wpAnyK_first (T := fun _ => True) hi (Region.noSelect_spec hs) (fun _ _ _ h => by cases h.1) (Nat.ne_of_beq_eq_false hij) (.inr fun _ => trivial) fuel listed a w hc (Region.free_spec hi hf) (by simpa using hr)
    (.inl ⟨rfl, fun w _ => hv _ _ _ _ a w (fun _ => 0) ha trivial⟩) (hS.imp id fun h => ⟨O, h w O hst⟩) (k (closed_set hc (by simpa using hr)) _ w O (ha.put hd v) hst hrel)
theorem k_one (i : Nat) {d : Option Nat} {op : Op} {T : TypeId} {pos : String} {af : Array Edge} (hi : ops[i]? = some ⟨d, op, T, pos, af, none⟩) (hr : Region.ready .any ops listed = [i])
    (h : Closed .any ops (listed.setIfInBounds i true) → StepK X kk ⟨d, op, T, pos, af, none⟩ env L fun a w => ((listed.setIfInBounds i true).getD j0 false = true ∨ ∃ O, Stars S w O) ∧ wpAnyK X.P .any ops (Qn X kk) (fun w => ∃ O, Stars S w O) j0 fuel (listed.setIfInBounds i true) a w) : AnyG X ops S j0 (fuel + 1) listed kk env L := by
  intro hc a w O ha hst hrel
  refine ⟨fun h0 => absurd (hr ▸ h0) (by simp), fun j hj => ?_⟩
  obtain rfl : j = i := by rw [hr] at hj; simpa using hj
  simp only [wpOp, hi, Region.wanted, if_true]
  exact .inl (h (closed_set hc (by rw [hr]; simp)) a w O ha hst hrel)
theorem k_on {j0 : Nat} (hc : Closed .any ops listed) (hS : Ent L S) (h : AnyG X ops S j0 fuel listed kk env L) : Kont X env L fun a w => (listed.getD j0 false = true ∨ ∃ O, Stars S w O) ∧ wpAnyK X.P .any ops (Qn X kk) (fun w => ∃ O, Stars S w O) j0 fuel listed a w :=
  fun a w O ha hst hrel => ⟨.inr ⟨O, hS w O hst⟩, h hc a w O ha hst hrel⟩
theorem k_last {j0 : Nat} (hc : Closed .any ops listed) (hS : listed.getD j0 false = true) (h : AnyG X ops S j0 fuel listed kk env L) : Kont X env L fun a w => (listed.getD j0 false = true ∨ ∃ O, Stars S w O) ∧ wpAnyK X.P .any ops (Qn X kk) (fun w => ∃ O, Stars S w O) j0 fuel listed a w :=
  fun a w O ha hst hrel => ⟨.inl hS, h hc a w O ha hst hrel⟩
theorem k_done (hr : Region.ready .any ops listed = []) (h : Cfg X kk env L) (fuel : Nat) : AnyG X ops S j0 fuel listed kk env L := by
  intro _ a w O ha hst hrel
  cases fuel with
  | zero => exact ⟨hr, rfl, h a w O ha hst hrel⟩
  | succ n => exact ⟨fun _ => ⟨rfl, h a w O ha hst hrel⟩, by rw [hr]; simp⟩
end
end Go.SL

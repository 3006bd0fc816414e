/- The texts QW, QX, QY, QZ, QU, D1, D2, D3, D4, D5, D6, Tb, O1, D7, D8, one behind the other. -/
import Derived.Test.YtmgkeippepeggaaGreatDoorZZ3
import Derived.Laws.Externs
import Derived.Lib.AppendZerosOnto
import Derived.Lib.Overlaps
import Derived.Lib.AtoiTie
import Derived.Lib.ItoaNum
import Derived.Test.YtmgkeippepeggaaGreatDoorProg
import Derived.KernelRfl
set_option linter.unusedVariables false
set_option linter.unusedSimpArgs false
/- Copies of maps: interfaces that hold a map, the model's own maps.clone. -/
namespace Go.SL
open Go
section
variable {κ : Type} [DecidableEq κ] {ke : KeyEnc κ}
variable {K : Act → World → Prop} {X : Cx} {kk : List Item} {env : Env} {L L1 : List A} {d : Nat} {T : TypeId} {pos : String} {af : Array Edge} {x : Operand}
theorem v_makeIface_map {t kt et : TypeId} {v : Value} (hu : X.P.underlying t = some (.map kt et)) (hx : env.eval x = some v) : Val X env L (.makeInterface t x) T (.iface t v) :=
  fun _ _ _ _ a w O ha _ => by
    simp [execOp, ha.eval hx, Instr.makeInterface, run_underlying hu]
theorem v_typeAssert_map {t xT kt et : TypeId} {v : Value} (hu : X.P.underlying t = some (.map kt et)) (hx : env.eval x = some (.iface t v)) : Val X env L (.typeAssert x xT t false) T v :=
  fun _ _ _ _ a w O ha _ => by
    simp [execOp, ha.eval hx, Instr.typeAssert, run_underlying hu]
theorem s_maps_clone {g : FuncId} {fn : Func} {b : Nat} {t : TypeId} {m : List (κ × Value)} {xs : List Operand} {ts : Array TypeId} (hf : X.P.funcs[g]? = some fn) (hname : (fn.name == "runtime.NumGoroutine") = false) (hb : fn.body.isNone = true) (hn : Extern.findNext fn = none)
    (he : Extern.find fn = some Extern.MapsClone.clone) (hx : evalAll env xs = some [.iface t (.map (some b))]) (hd : d < X.fn.ntmps) (hp : Has L (MapA ke b m))
    (k : ∀ c, Kont X ((d, .iface t (.map (some c))) :: env) (MapA ke c m :: L) K) : StepK X kk ⟨some d, .call ⟨.value (.func g), xs.toArray, ts⟩, T, pos, af, none⟩ env L K := by
  refine s_main (γ := Nat) (V := fun c => .iface t (.map (some c))) (pu := fun _ => True) (L' := fun c => MapA ke c m :: L) ?_ hd (fun c _ => k c)
  intro a w O ha hst hdom
  obtain ⟨h1, es, clock, h2, h3, h4, h5, h6⟩ := hp w O hst
  refine ⟨w.heap.size, w.alloc (.map es clock), fresh w O, ?_, trivial, stars_alloc _ hdom hst ⟨by simp, es, clock, heap_alloc w _, h3, h4, h5, h6⟩, rel_alloc _ hdom⟩
  have hargs : (#[] : Array Value) ++ (xs.map a.eval).toArray ++ (#[] : Array Value) = #[.iface t (.map (some b))] := by rw [ha.all hx]; rfl
  have hf' : a.eval (.func g) = .func (.func g) #[] #[] := ha.eval (show env.eval (.func g) = some (.func (.func g) #[] #[]) from rfl)
  have hobj : (getObj b).run X.P w = .ok (.map es clock) w := Go.MapKept.run_getObj_map h2
  have hcl : (Extern.MapsClone.clone #[.iface t (.map (some b))]).run X.P w = .ok (.iface t (.map (some w.heap.size))) (w.alloc (.map es clock)) := by
    have e : Extern.MapsClone.clone #[.iface t (.map (some b))] = (getObj b >>= fun o => match o with
      | .map entries clock => (newObj (.map entries clock) >>= fun n => pure (.iface t (.map (some n))))
      | _ => stuck "maps.clone: a map expected") := rfl
    rw [e]
    simp [hobj, Result.andThen, go_sem]
  simp only [execOp, resolve, hf', Deferred.ofValue, pure_bind, invoke, List.map_toArray]
  rw [hargs, run_callFunc_extern hf hname hb hn he, hcl]
  rfl
theorem v_buildA {t e : TypeId} {len : Nat} {ps : List (Nat × Operand)} {vs : List (Nat × Value)} {css : List (Nat × List Value)} {cells : List Value} {z ze : Value} {n nb ne nbe : Nat} (hu : X.P.underlying t = some (.array len e)) (hz : TI X.P t z n nb) (he : TI X.P e ze ne nbe)
    (hp : evalP env ps = some vs) (hc : PartsC L vs css) (hb : fillC (fun i => some (i * ne, ne)) z.cells.toList css = some cells) : Val X env L (.build t ps.toArray) T (.agg cells.toArray) := by
  refine v_build hp hc ?_
  obtain ⟨i, hi, hz0, _⟩ := hz
  obtain ⟨ie, hie, _, hse, _⟩ := he
  unfold builtC
  rw [hi, hu]
  simp only [hz0, hie, hse]
  exact hb
theorem v_index_agg {xT e e2 : TypeId} {len len2 : Nat} {K : IntKind} {i : Int} {y : Operand} {cs : List Value} {z : Value} {n nb : Nat} (hu : X.P.underlying xT = some (.array len e)) (he : X.P.underlying e = some (.array len2 e2)) (hz : TI X.P e z n nb)
    (hx : env.eval x = some (.agg cs.toArray)) (hy : env.eval y = some (.int K i)) (hb : 0 ≤ i ∧ i < len) : Val X env L (.index xT x y) T (.agg ((cs.drop (i.toNat * n)).take n).toArray) :=
  fun _ _ _ _ a w O ha _ => by
    obtain ⟨ti, hi, _, hsz, _⟩ := hz
    have hia : (isAgg e).run X.P w = .ok true w := by simp [isAgg, run_underlying he]
    have hex : cs.toArray.extract (i.toNat * n) (i.toNat * n + n) = ((cs.drop (i.toNat * n)).take n).toArray := by
      simp [List.extract_eq_take_drop, List.drop_take]
    simp [execOp, ha.eval hx, ha.eval hy, Instr.index, asIntOf, run_underlying hu, hb.1, hb.2, part, hia, sizeOf, typeInfo, hi, hsz, hex]
theorem v_index_bool {xT e : TypeId} {len : Nat} {K : IntKind} {i : Int} {y : Operand} {cs : List Value} {z : Value} {nb : Nat} (hu : X.P.underlying xT = some (.array len e)) (he : X.P.underlying e = some .bool) (hz : TI X.P e z 1 nb)
    (hx : env.eval x = some (.agg cs.toArray)) (hy : env.eval y = some (.int K i)) (hb : 0 ≤ i ∧ i < len) {v : Value} (hv : cs[i.toNat]? = some v) : Val X env L (.index xT x y) T v :=
  fun _ _ _ _ a w O ha _ => by
    obtain ⟨ti, hi, _, hsz, _⟩ := hz
    have hia : (isAgg e).run X.P w = .ok false w := by simp [isAgg, run_underlying he]
    simp [execOp, ha.eval hx, ha.eval hy, Instr.index, asIntOf, run_underlying hu, hb.1, hb.2, part, hia, sizeOf, typeInfo, hi, hsz, hv]
theorem run_loadAggA {P : Program} {t e : TypeId} {len : Nat} {a : Addr} {w : World} {cs : List Value} {i : TypeInfo} (hu : P.underlying t = some (.array len e)) (hi : P.info? t = some i) (hn : i.size = cs.length) (hc : CellsAt w a cs) :
    (loadVar t a).run P w = .ok (.agg cs.toArray) w := by
  have hia : (isAgg t).run P w = .ok true w := by simp [isAgg, run_underlying hu]
  simp only [loadVar, Sem.run_bind, hia, Result.andThen_ok]
  have := run_loadCells_list (P := P) w a cs hc
  simp [sizeOf, typeInfo, hi, hn, this]
end
theorem c_ret_cellA {X : Cx} {k : List Item} {env : Env} {L : List A} {t b : Nat} {ty bt e : TypeId} {len : Nat} {cs : List Value} {z : Value} {nb : Nat} (hf : X.P.funcs[X.f]? = some X.fn) (h : X.fn.results = #[.cell t ty]) (hu : X.P.underlying ty = some (.array len e)) (ht : TI X.P ty z cs.length nb)
    (hv : env.look t = some (.pointer (some ⟨b, 0, none⟩))) (hb : Has L (BlkR b bt cs)) (fin : ∀ w O, Stars L w O → X.R (.agg cs.toArray) w O) (hrd : X.rd = none := by rfl) (hdf : X.defs = [] := by rfl) : Cfg X (.code .ret :: k) env L :=
  c_ret_any (fun a w O ha hs _ => by
    obtain ⟨_, fz, hh⟩ := hb w O hs
    obtain ⟨ti, hi, _, hsz, _⟩ := ht
    exact ⟨_, results_cell h (ha.look t _ hv) (run_loadAggA hu hi hsz fun j u hj => by rw [add_off, blk_cell hh]; simpa using hj), fin w O hs⟩) hf hrd hdf fun _ _ _ _ _ hb => steps_ret hb
theorem results_ct {fn : Func} {t s : Nat} {ty : TypeId} {tmps : Array Value} {P : Program} {w : World} {v u : Value} {p : Addr} (h : fn.results = #[.cell t ty, .tmp s]) (hv : tmps[t]? = some (.pointer (some p))) (hl : (loadVar ty p).run P w = .ok v w) (hu : tmps[s]? = some u) : (results fn tmps).run P w = .ok (.tuple #[v, u]) w := by
  have h1 : tmps[t]?.getD undef = .pointer (some p) := by rw [hv]; rfl
  have h2 : tmps[s]?.getD undef = u := by rw [hu]; rfl
  simp [results, h, asAddr, hl, h1, h2]
theorem results_ctt {fn : Func} {t s r : Nat} {ty : TypeId} {tmps : Array Value} {P : Program} {w : World} {v u x : Value} {p : Addr} (h : fn.results = #[.cell t ty, .tmp s, .tmp r]) (hv : tmps[t]? = some (.pointer (some p))) (hl : (loadVar ty p).run P w = .ok v w) (hu : tmps[s]? = some u) (hx : tmps[r]? = some x) : (results fn tmps).run P w = .ok (.tuple #[v, u, x]) w := by
  have h1 : tmps[t]?.getD undef = .pointer (some p) := by rw [hv]; rfl
  have h2 : tmps[s]?.getD undef = u := by rw [hu]; rfl
  have h3 : tmps[r]?.getD undef = x := by rw [hx]; rfl
  simp [results, h, asAddr, hl, h1, h2, h3]
theorem c_ret_ct {X : Cx} {k : List Item} {env : Env} {L : List A} {t s b : Nat} {ty bt : TypeId} {cs : List Value} {z u : Value} {nb : Nat} (hf : X.P.funcs[X.f]? = some X.fn) (h : X.fn.results = #[.cell t ty, .tmp s]) (hu : ∃ fs, X.P.underlying ty = some (.struct fs)) (ht : TI X.P ty z cs.length nb)
    (hv : env.look t = some (.pointer (some ⟨b, 0, none⟩))) (hs' : env.look s = some u) (hb : Has L (BlkR b bt cs)) (fin : ∀ w O, Stars L w O → X.R (.tuple #[.agg cs.toArray, u]) w O) (hrd : X.rd = none := by rfl) (hdf : X.defs = [] := by rfl) : Cfg X (.code .ret :: k) env L :=
  c_ret_any (fun a w O ha hs _ => by
    obtain ⟨_, fz, hh⟩ := hb w O hs
    obtain ⟨ti, hi, _, hsz, _⟩ := ht
    exact ⟨_, results_ct h (ha.look t _ hv) (run_loadAgg hu hi hsz fun j u hj => by rw [add_off, blk_cell hh]; simpa using hj) (ha.look s _ hs'), fin w O hs⟩) hf hrd hdf fun _ _ _ _ _ hb => steps_ret hb
theorem c_ret_ctt {X : Cx} {k : List Item} {env : Env} {L : List A} {t s r b : Nat} {ty bt : TypeId} {cs : List Value} {z u x : Value} {nb : Nat} (hf : X.P.funcs[X.f]? = some X.fn) (h : X.fn.results = #[.cell t ty, .tmp s, .tmp r]) (hu : ∃ fs, X.P.underlying ty = some (.struct fs)) (ht : TI X.P ty z cs.length nb)
    (hv : env.look t = some (.pointer (some ⟨b, 0, none⟩))) (hs' : env.look s = some u) (hr' : env.look r = some x) (hb : Has L (BlkR b bt cs)) (fin : ∀ w O, Stars L w O → X.R (.tuple #[.agg cs.toArray, u, x]) w O) (hrd : X.rd = none := by rfl) (hdf : X.defs = [] := by rfl) : Cfg X (.code .ret :: k) env L :=
  c_ret_any (fun a w O ha hs _ => by
    obtain ⟨_, fz, hh⟩ := hb w O hs
    obtain ⟨ti, hi, _, hsz, _⟩ := ht
    exact ⟨_, results_ctt h (ha.look t _ hv) (run_loadAgg hu hi hsz fun j u hj => by rw [add_off, blk_cell hh]; simpa using hj) (ha.look s _ hs') (ha.look r _ hr'), fin w O hs⟩) hf hrd hdf fun _ _ _ _ _ hb => steps_ret hb
end Go.SL
/- Rows opened as blocks and closed again; copy, cap, append of a count of zeros, slices.overlaps of the model. -/
namespace Go.SL
open Go

/-- Values of an encoding that a function writes. -/
def EncF {α : Type} (e : Enc α) (f : α → List Value) : Prop := ∀ w O cs x, e.rd w O cs x ↔ cs = f x
theorem EncF.int (k : IntKind) : EncF (eInt k) (fun n => [.int k n]) := fun _ _ _ _ => Iff.rfl
theorem EncF.str : EncF eStr (fun s => [.string s]) := fun _ _ _ _ => Iff.rfl
theorem EncF.bool : EncF eBool (fun s => [.bool s]) := fun _ _ _ _ => Iff.rfl
theorem EncF.pair {α β : Type} {e : Enc α} {e' : Enc β} {f : α → List Value} {f' : β → List Value} (h : EncF e f) (h' : EncF e' f') : EncF (ePair e e') (fun p => f p.1 ++ f' p.2) := fun w O cs x => by
  constructor
  · rintro ⟨c1, c2, rfl, h1, h2⟩
    rw [(h w O c1 x.1).1 h1, (h' w O c2 x.2).1 h2]
  · intro hc
    exact ⟨f x.1, f' x.2, hc, (h w O _ x.1).2 rfl, (h' w O _ x.2).2 rfl⟩
theorem rows_f {α : Type} {e : Enc α} {f : α → List Value} (he : EncF e f) {w : World} {O : Perm} : ∀ {xs : List α} {cs : List Value}, Rows e w O cs xs ↔ cs = xs.flatMap f
  | [], cs => Iff.rfl
  | x :: xs, cs => by
    constructor
    · rintro ⟨c1, c2, rfl, h1, h2⟩
      rw [List.flatMap_cons, (he w O c1 x).1 h1, (rows_f he).1 h2]
    · intro h
      exact ⟨f x, xs.flatMap f, h, (he w O _ x).2 rfl, (rows_f he).2 rfl⟩
theorem encF_len {α : Type} {e : Enc α} {f : α → List Value} (he : EncF e f) (x : α) : (f x).length = e.n := e.len ((he ⟨#[], default, 0, default, default⟩ (fun _ => 0) _ x).2 rfl)
theorem flat_len {α : Type} {f : α → List Value} {n : Nat} (h : ∀ x, (f x).length = n) : ∀ xs : List α, (xs.flatMap f).length = xs.length * n
  | [] => by simp
  | x :: xs => by rw [List.flatMap_cons, List.length_append, h, flat_len h xs, List.length_cons, Nat.succ_mul, Nat.add_comm]
theorem flat_take {α : Type} {f : α → List Value} {n : Nat} (h : ∀ x, (f x).length = n) : ∀ (xs : List α) (k : Nat), (xs.flatMap f).take (k * n) = (xs.take k).flatMap f
  | [], k => by simp
  | x :: xs, 0 => by simp
  | x :: xs, k + 1 => by
    rw [List.flatMap_cons, List.take_succ_cons, List.flatMap_cons, Nat.succ_mul, Nat.add_comm (k * n) n, ← h x, List.take_length_add_append, h x, flat_take h xs k]
theorem flat_drop {α : Type} {f : α → List Value} {n : Nat} (h : ∀ x, (f x).length = n) : ∀ (xs : List α) (k : Nat), (xs.flatMap f).drop (k * n) = (xs.drop k).flatMap f
  | [], k => by simp
  | x :: xs, 0 => by simp
  | x :: xs, k + 1 => by
    rw [List.flatMap_cons, List.drop_succ_cons, Nat.succ_mul, Nat.add_comm (k * n) n, ← h x, List.drop_length_add_append, h x, flat_drop h xs k]

section
variable {α : Type} {e : Enc α} {f : α → List Value} {T : TypeId} {xs : List α} {X : Cx} {k : List Item} {env : Env} {L : List A}
/-- A row that is there, as its block. -/
theorem own_open {g n cap : Nat} {w : World} {O : Perm} (he : EncF e f) (h : (Own e T (.slice (some ⟨g, 0, none⟩) n cap) xs).h w O) :
    n = xs.length ∧ xs.length ≤ cap ∧ cap ≤ maxLen ∧ ∃ cur : List Value, (Blk g T cur).h w O ∧ cur.length = cap * e.n ∧ cur.take (xs.length * e.n) = xs.flatMap f := by
  obtain ⟨O1, O2, cs, s, h1, h2, h3⟩ := h
  rcases h1.2 with ⟨h0, _⟩ | ⟨g', cap', cur, hv, _, hg, hle, hmx, hcs, htk⟩
  · cases h0
  · cases hv
    have hr := (rows_f he).1 h3
    refine ⟨rfl, hle, hmx, cur.toList, ⟨?_, by simpa using hg⟩, by simpa using hcs, by rw [htk, hr]⟩
    have := h2 g (by simp [Value.ownBlock])
    have := s.l g
    omega
theorem own_close {g cap : Nat} {cur : List Value} {w : World} {O : Perm} (he : EncF e f) (h : (Blk g T cur).h w O) (h1 : xs.length ≤ cap) (h2 : cap ≤ maxLen) (h3 : cur.length = cap * e.n) (h4 : cur.take (xs.length * e.n) = xs.flatMap f) :
    (Own e T (.slice (some ⟨g, 0, none⟩) xs.length cap) xs).h w O := by
  refine ⟨O, fun _ => 0, xs.flatMap f, ⟨fun _ => Nat.le_refl _, fun _ => Nat.zero_le _, fun _ _ => rfl, fun _ h => absurd h (by simp)⟩, ⟨?_, .inr ⟨g, cap, cur.toArray, rfl, Nat.zero_le _, h.2, h1, h2, by simpa using h3, by simpa using h4⟩⟩, fun b hb => ?_, (rows_f he).2 rfl⟩
  · exact flat_len (encF_len he) xs
  · simp only [Value.ownBlock, Option.some.injEq] at hb
    subst hb; exact h.1
theorem c_own_open {g n cap : Nat} (he : EncF e f) (h : ∀ cur : List Value, n = xs.length → xs.length ≤ cap → cap ≤ maxLen → cur.length = cap * e.n → cur.take (xs.length * e.n) = xs.flatMap f → Cfg X k env (Blk g T cur :: L)) :
    Cfg X k env (Own e T (.slice (some ⟨g, 0, none⟩) n cap) xs :: L) := fun a w O ha hs hr => by
  obtain ⟨O1, O2, s, h1, h2⟩ := hs
  obtain ⟨e1, e2, e3, cur, e4, e5, e6⟩ := own_open he h1
  exact h cur e1 e2 e3 e5 e6 a w O ha ⟨O1, O2, s, e4, h2⟩ hr
theorem ent_own_close {g cap : Nat} {cur : List Value} (he : EncF e f) (h1 : xs.length ≤ cap) (h2 : cap ≤ maxLen) (h3 : cur.length = cap * e.n) (h4 : cur.take (xs.length * e.n) = xs.flatMap f) :
    Ent (Blk g T cur :: L) (Own e T (.slice (some ⟨g, 0, none⟩) xs.length cap) xs :: L) := Ent.head fun _ _ h => own_close he h h1 h2 h3 h4
end

/-- Cells that are there. -/
def Cells (L : List A) (a : Addr) (cs : List Value) : Prop := ∀ w O, Stars L w O → ∀ j v, cs[j]? = some v → w.cell? (a.add j) = some v
theorem addr_add (b off j : Nat) : (⟨b, off, none⟩ : Addr).add j = ⟨b, off + j, none⟩ := by unfold Addr.add; split <;> simp_all
theorem Cells.blk {L : List A} {g off : Nat} {T : TypeId} {cur cs : List Value} (h : Has L (BlkR g T cur)) (hc : ∀ j v, cs[j]? = some v → cur[off + j]? = some v) : Cells L ⟨g, off, none⟩ cs := fun w O hs j v hj => by
  rw [addr_add]
  exact has_cell h (hc j v hj) hs
theorem Cells.of {L : List A} {a : Addr} {cs : List Value} {b : A} (h : Has L b) (hb : ∀ w O, b.h w O → ∀ j v, cs[j]? = some v → w.cell? (a.add j) = some v) : Cells L a cs := fun w O hs => hb w O (h w O hs)

section
variable {K : Act → World → Prop} {X : Cx} {kk : List Item} {env : Env} {L L1 : List A} {d : Nat} {T : TypeId} {pos : String} {af : Array Edge} {x y : Operand}
theorem v_cap {t E : TypeId} {a0 : Option Addr} {n c : Nat} (hu : X.P.underlying t = some (.slice E)) (hx : env.eval x = some (.slice a0 n c)) : Val X env L (.call ⟨.builtin .cap, #[x], #[t]⟩) T (.int .i64 c) :=
  fun _ _ _ _ a w O ha hl => by
    simp [execOp, resolve, invoke, builtin, Builtin.cap_, ha.eval hx, run_underlying hu, goInt]
theorem run_copy_cells {P : Program} (w : World) (dT sT ty elem : TypeId) (size : Nat) (g o dLen dCap : Nat) (a : Addr) (sLen sCap : Nat) (cur : Array Value) (t : TypeId) (cs : List Value)
    (hu : P.underlying dT = some (.slice elem)) (hs : (P.info? elem).map (·.size) = some size)
    (hg : w.heap[g]? = some (.cells cur t (0, 0))) (hn : cs.length = Nat.min sLen dLen * size)
    (hsrc : ∀ j v, cs[j]? = some v → w.cell? (a.add j) = some v) (hfit : o + cs.length ≤ cur.size) (h1 : ∀ v ∈ cs, v.oneCell' = true) :
    (Builtin.copy_ #[dT, sT] ty #[.slice (some ⟨g, o, none⟩) dLen dCap, .slice (some a) sLen sCap]).run P w =
      .ok (goInt (Nat.min sLen dLen)) (w.setRow g (cur.toList.take o ++ cs ++ cur.toList.drop (o + cs.length)).toArray) := by
  have hl := run_loadCells_list (P := P) w a cs hsrc
  have hst := run_storeCells_at P g o t cs 0 cur w hg (by simpa using hfit) h1
  cases hq : P.info? elem with
  | none => simp [hq] at hs
  | some i =>
    have hi : i.size = size := by simpa [hq] using hs
    simp [Builtin.copy_, run_underlying hu, Builtin.lenOf, Builtin.firstCells, sizeOf, typeInfo, hq, hi, ← hn, hl, hst]
theorem s_copy {dT sT E bt : TypeId} {z : Value} {sz nb g off dLen dCap : Nat} {a0 : Addr} {sLen sCap : Nat} (m : Nat) (cs : List Value) {cur cur' : List Value} (hu : X.P.underlying dT = some (.slice E)) (hE : TI X.P E z sz nb)
    (hx : env.eval x = some (.slice (some ⟨g, off, none⟩) dLen dCap)) (hy : env.eval y = some (.slice (some a0) sLen sCap)) (hm : m = min sLen dLen) (hsrc : Cells L a0 cs) (hlen : cs.length = m * sz) (h1 : ∀ v ∈ cs, v.oneCell' = true) (hd : d < X.fn.ntmps)
    (hp : Pick (Blk g bt cur) L L1) (hfit : off + cs.length ≤ cur.length) (hset : cur.take off ++ cs ++ cur.drop (off + cs.length) = cur') (k : Kont X ((d, goInt m) :: env) (Blk g bt cur' :: L1) K) :
    StepK X kk ⟨some d, .call ⟨.builtin .copy, #[x, y], #[dT, sT]⟩, T, pos, af, none⟩ env L K := by
  have hm' : m = Nat.min sLen dLen := hm
  refine s_main (γ := Unit) (V := fun _ => goInt m) (pu := fun _ => True) (L' := fun _ => Blk g bt cur' :: L1) ?_ hd (fun _ _ => k)
  intro a w O ha hst hdom
  have hsrc' := hsrc w O hst
  obtain ⟨O1, O2, s, ⟨hb2, hh⟩, hs2⟩ := hp w O hst
  obtain ⟨ti, hi, _, hsz, _⟩ := hE
  have hdom1 : ∀ b, O1 b ≠ 0 → b < w.heap.size := fun b hb => hdom b (by have := s.l b; omega)
  have hrun := run_copy_cells (P := X.P) w dT sT T E sz g off dLen dCap a0 sLen sCap cur.toArray bt cs hu (by rw [hi]; simp [hsz]) hh (by rw [← hm']; exact hlen) hsrc' (by simpa using hfit) h1
  have harr : (cur.toArray.toList.take off ++ cs ++ cur.toArray.toList.drop (off + cs.length)).toArray = cur'.toArray := by rw [← hset]
  rw [harr] at hrun
  obtain ⟨P, hP, hrel⟩ := step_at hdom s hs2 (setRow_rel (arr := cur'.toArray) hb2 hdom1) (L' := [Blk g bt cur']) ⟨O1, fun _ => 0, ⟨fun _ => Nat.le_refl _, fun _ => Nat.zero_le _, fun _ _ => rfl, fun _ h => by omega⟩, ⟨hb2, setRow_heap w g _ _ bt _ hh⟩, trivial⟩
  refine ⟨(), _, P, ?_, trivial, hP, hrel⟩
  simp [execOp, resolve, invoke, builtin, ha.eval hx, ha.eval hy, hrun, hm']
/-- What is appended are zeros, as many as a number says; there is no room. -/
theorem s_append_zeros {t tn E : TypeId} {z : Value} {sz nb m cap c : Nat} {a0 : Addr} (olds : List Value) (hu : X.P.underlying t = some (.slice E)) (hn : X.P.underlying tn = some (.int .i64)) (hE : TI X.P E z sz nb) (hzs : z.cells.size = sz) (hsz : 0 < sz)
    (hx : env.eval x = some (.slice (some a0) m cap)) (hy : env.eval y = some (.int .i64 (c : Nat))) (hsrc : Cells L a0 olds) (hlo : olds.length = m * sz) (h0 : 0 < c) (hg : cap < m + c) (hb : (m + c) * nb ≤ 140737488355328) (hb2 : m + c ≤ maxLen) (hd : d < X.fn.ntmps)
    (k : ∀ (g cap' : Nat) (cur : List Value), m + c ≤ cap' → cap' ≤ maxLen → cur.length = cap' * sz → cur.take (m * sz) = olds → Kont X ((d, .slice (some ⟨g, 0, none⟩) (m + c) cap') :: env) (Blk g E cur :: L) K) :
    StepK X kk ⟨some d, .call ⟨.builtin .append, #[x, y], #[t, tn]⟩, T, pos, af, none⟩ env L K := by
  refine s_main (γ := Nat × Nat × List Value) (V := fun r => .slice (some ⟨r.1, 0, none⟩) (m + c) r.2.1) (pu := fun r => m + c ≤ r.2.1 ∧ r.2.1 ≤ maxLen ∧ r.2.2.length = r.2.1 * sz ∧ r.2.2.take (m * sz) = olds) (L' := fun r => Blk r.1 E r.2.2 :: L) ?_ hd (fun r h => k r.1 r.2.1 r.2.2 h.1 h.2.1 h.2.2.1 h.2.2.2)
  intro a w O ha hst hdom
  have hsrc' := hsrc w O hst
  obtain ⟨ti, hi, hz0, hsz', hbt⟩ := hE
  subst hsz'
  subst hbt
  have hfc : (Builtin.firstCells ti.size m (.slice (some a0) m cap)).run X.P w.drew = .ok olds.toArray w.drew :=
    run_firstCells_some (P := X.P) w.drew ti.size m a0 m cap olds hlo (fun j u hj => (show w.drew.cell? (a0.add j) = w.cell? (a0.add j) from rfl).trans (hsrc' j u hj))
  have hml : m + c ≤ 9223372036854775807 := by simp only [maxLen] at hb2; omega
  have hcb : c * ti.bytes ≤ (m + c) * ti.bytes := Nat.mul_le_mul_right _ (by omega)
  have hrun := Lib.run_append_grow_zeros (P := X.P) w t tn T E ti z .i64 .i64 hu hn hi hz0 (some a0) m cap olds hfc c h0 hsz hg (by omega) (by omega) (growslice_fits hg hb)
  have hge := grownCap_ge w (m + c) cap E
  have hcm : grownCap w (m + c) cap E ≤ maxLen := grownCap_le_maxLen w (m + c) cap E hb2
  generalize hcap : grownCap w (m + c) cap E = cap' at hrun hge hcm
  have hdom' : ∀ b, O b ≠ 0 → b < w.drew.heap.size := hdom
  refine ⟨(w.heap.size, cap', olds ++ (Builtin.zeroCells z.cells c).toList ++ (Builtin.zeroCells z.cells (cap' - (m + c))).toList), w.drew.alloc (.cells (olds.toArray ++ Builtin.zeroCells z.cells c ++ Builtin.zeroCells z.cells (cap' - (m + c))) E), fresh w O, ?_, ⟨hge, hcm, ?_, ?_⟩, ?_, ?_⟩
  rotate_left
  · simp only [List.length_append, Array.length_toList, size_zeroCells, hzs, hlo, ← Nat.add_mul]
    congr 1
    omega
  · simp only [List.append_assoc]
    rw [← hlo]
    exact List.take_left
  · exact stars_alloc (w := w.drew) (.cells (olds.toArray ++ Builtin.zeroCells z.cells c ++ Builtin.zeroCells z.cells (cap' - (m + c))) E) hdom' (draw_stars hst) ⟨by show 2 ≤ if _ then _ else _; rw [if_pos (show w.heap.size = w.drew.heap.size from rfl)]; exact Nat.le_refl _, by
      have := heap_alloc w.drew (.cells (olds.toArray ++ Builtin.zeroCells z.cells c ++ Builtin.zeroCells z.cells (cap' - (m + c))) E)
      have e : (olds ++ (Builtin.zeroCells z.cells c).toList ++ (Builtin.zeroCells z.cells (cap' - (m + c))).toList).toArray = olds.toArray ++ Builtin.zeroCells z.cells c ++ Builtin.zeroCells z.cells (cap' - (m + c)) := by
        apply Array.ext'; simp
      show (w.drew.alloc _).heap[w.drew.heap.size]? = _
      rw [this, e]⟩
  · have := rel_alloc (w := w.drew) (O := O) (.cells (olds.toArray ++ Builtin.zeroCells z.cells c ++ Builtin.zeroCells z.cells (cap' - (m + c))) E) hdom'
    exact ⟨this.os, this.tape, this.output, this.size, this.old, this.perm, this.dom⟩
  · have hruns := hrun
    rw [← ha.eval hx, ← ha.eval hy] at hruns
    simp [execOp, resolve, invoke, builtin, hruns]
/-- The model's slices.overlaps: two rows of two blocks. -/
theorem s_overlaps {gf : FuncId} {fn : Func} {E tR : TypeId} {tS : TypeId} {z : Value} {sz nb : Nat} {ga oa la ca gb ob lb cb : Nat} {ta tb : TypeId} {ca' cb' : List Value} {xs : List Operand} {ts : Array TypeId} (hf : X.P.funcs[gf]? = some fn) (hname : (fn.name == "runtime.NumGoroutine") = false) (hb : fn.body.isNone = true) (hn : Extern.findNext fn = none)
    (he : Extern.find fn = some (Extern.SlicesOverlaps.overlaps #[tS, tS] #[tR])) (hu : X.P.underlying tS = some (.slice E)) (hE : TI X.P E z sz nb)
    (hx : evalAll env xs = some [.slice (some ⟨ga, oa, none⟩) la ca, .slice (some ⟨gb, ob, none⟩) lb cb]) (hd : d < X.fn.ntmps) (hA : Has L (Blk ga ta ca')) (hB : Has L (Blk gb tb cb')) (hne : ∀ w O, Stars L w O → ga ≠ gb) (hc0 : cb' ≠ [])
    (k : Kont X ((d, .bool false) :: env) L K) : StepK X kk ⟨some d, .call ⟨.value (.func gf), xs.toArray, ts⟩, T, pos, af, none⟩ env L K := by
  refine s_main (γ := Unit) (V := fun _ => .bool false) (pu := fun _ => True) (L' := fun _ => L) ?_ hd (fun _ _ => k)
  intro a w O ha hst hdom
  obtain ⟨_, hha⟩ := hA w O hst
  obtain ⟨_, hhb⟩ := hB w O hst
  obtain ⟨ti, hi, _, hsz, _⟩ := hE
  have hrun := Lib.run_overlaps_apart (P := X.P) w tS tR E hu sz (fun w => by simp [sizeOf, typeInfo, hi, hsz]) ⟨ga, oa, none⟩ ⟨gb, ob, none⟩ la ca lb cb (hne w O hst) ta tb ca'.length cb'.length (by simp [World.shape?, hha]) (by simp [World.shape?, hhb]) (by simpa using hc0) (by simp [World.frozen?, hha]) (by simp [World.frozen?, hha])
  refine ⟨(), w, O, ?_, trivial, hst, Rel.refl hdom⟩
  have hargs : (#[] : Array Value) ++ (xs.map a.eval).toArray ++ (#[] : Array Value) = #[.slice (some ⟨ga, oa, none⟩) la ca, .slice (some ⟨gb, ob, none⟩) lb cb] := by rw [ha.all hx]; rfl
  have hf' : a.eval (.func gf) = .func (.func gf) #[] #[] := ha.eval (show env.eval (.func gf) = some (.func (.func gf) #[] #[]) from rfl)
  simp only [execOp, resolve, hf', Deferred.ofValue, pure_bind, invoke, List.map_toArray]
  rw [hargs, run_callFunc_extern hf hname hb hn he, hrun]
  rfl
theorem blk_apart {ga gb : Nat} {ta tb : TypeId} {ca cb : List Value} {L L1 L2 : List A} (h1 : Pick (Blk ga ta ca) L L1) (h2 : Pick (Blk gb tb cb) L1 L2) {w : World} {O : Perm} (hs : Stars L w O) : ga ≠ gb := by
  obtain ⟨O1, O2, s, ⟨a1, _⟩, hs1⟩ := h1 w O hs
  obtain ⟨P1, P2, t, ⟨b1, _⟩, _⟩ := h2 w O2 hs1
  intro e
  subst e
  have := s.lr ga a1
  have := t.l ga
  omega
end
end Go.SL
/- Rows that may begin inside their block; a row that is looked at behind an append; a map that is gone through and updated at keys that it has. -/
namespace Go.SL
open Go

/-- v is a row of one's own, which may begin anywhere in its block. -/
def OwnO {α : Type} (e : Enc α) (T : TypeId) (v : Value) (xs : List α) : A where
  h := fun w O => (v = .slice none 0 0 ∧ xs = []) ∨ ∃ (g off cap : Nat) (cur : List Value) (f : α → List Value), EncF e f ∧ v = .slice (some ⟨g, off, none⟩) xs.length cap ∧ 2 ≤ O g ∧ w.heap[g]? = some (.cells cur.toArray T (0, 0)) ∧ xs.length ≤ cap ∧ cap ≤ maxLen ∧ off + cap * e.n ≤ cur.length ∧ (cur.drop off).take (xs.length * e.n) = xs.flatMap f
  mono := fun h hO => h.imp id fun ⟨g, off, cap, cur, f, he, h1, h2, h3⟩ => ⟨g, off, cap, cur, f, he, h1, Nat.le_trans h2 (hO g), h3⟩
  loc := fun h hw => h.imp id fun ⟨g, off, cap, cur, f, he, h1, h2, h3, h4⟩ => ⟨g, off, cap, cur, f, he, h1, h2, (hw g (by omega)).trans h3, h4⟩
theorem cell_in' {β : Type} {l : List β} {j : Nat} {u : β} (h : l[j]? = some u) : j < l.length := by
  rcases Nat.lt_or_ge j l.length with h' | h'
  · exact h'
  · rw [List.getElem?_eq_none h'] at h; cases h
/-- Both, of the same. -/
def AndA (a b : A) : A := ⟨fun w O => a.h w O ∧ b.h w O, fun h hO => ⟨a.mono h.1 hO, b.mono h.2 hO⟩, fun h hw => ⟨a.loc h.1 hw, b.loc h.2 hw⟩⟩

section
variable {α : Type} {e : Enc α} {f : α → List Value} {T : TypeId} {v : Value} {xs : List α} {L : List A}
theorem OwnO.nil (w : World) (O : Perm) : (OwnO e T (.slice none 0 0) []).h w O := .inl ⟨rfl, rfl⟩
theorem OwnO.sl {w : World} {O : Perm} (h : (OwnO e T v xs).h w O) : (Sl e v xs).h w O := by
  rcases h with ⟨rfl, rfl⟩ | ⟨g, off, cap, cur, f, he, rfl, h2, h3, h4, h5, h6, h7⟩
  · exact Sl.nil e w O
  · refine ⟨some ⟨g, off, none⟩, cap, rfl, h4, h5, .inr ⟨g, off, xs.flatMap f, rfl, by omega, (rows_f he).2 rfl, fun j u hj => ?_⟩⟩
    rw [blk_cell h3]
    rw [← h7, List.getElem?_take] at hj
    split at hj
    · rw [List.getElem?_drop] at hj; simpa using hj
    · cases hj
theorem OwnO.of {w : World} {O : Perm} (he : EncF e f) (h : (Own e T v xs).h w O) : (OwnO e T v xs).h w O := by
  rcases Own.form h with ⟨rfl, rfl⟩ | ⟨g, cap, rfl, _⟩
  · exact .inl ⟨rfl, rfl⟩
  · obtain ⟨_, h1, h2, cur, ⟨h3, h4⟩, h5, h6⟩ := own_open he h
    exact .inr ⟨g, 0, cap, cur, f, he, rfl, h3, h4, h1, h2, by rw [h5]; omega, by rw [List.drop_zero]; exact h6⟩
theorem OwnO.sep : (OwnO e T v xs).Sep := fun w O h => h.imp id fun ⟨g, off, cap, cur, f, he, h1, h2, h3⟩ => ⟨g, off, cap, cur, f, he, h1, by show 2 ≤ (if _ then _ else _); rw [if_pos h2]; exact h2, h3⟩
theorem OwnO.form {w : World} {O : Perm} (h : (OwnO e T v xs).h w O) : ∃ a0 cap, v = .slice a0 xs.length cap ∧ xs.length ≤ cap ∧ cap ≤ maxLen := by
  rcases h with ⟨rfl, rfl⟩ | ⟨g, off, cap, cur, f, he, rfl, _, _, h1, h2, _⟩
  · exact ⟨none, 0, rfl, Nat.le_refl _, Nat.zero_le _⟩
  · exact ⟨_, cap, rfl, h1, h2⟩
theorem OwnO.tail {w : World} {O : Perm} {cap : Nat} {x : α} {a0 : Option Addr} (h : (OwnO e T (.slice a0 (x :: xs).length cap) (x :: xs)).h w O) : (OwnO e T (cutV a0 1 (x :: xs).length cap e.n) xs).h w O := by
  rcases h with ⟨_, h⟩ | ⟨g, off, cap', cur, f, he, hv, h2, h3, h4, h5, h6, h7⟩
  · cases h
  · cases hv
    have hf := encF_len he
    right
    by_cases hc : cap = 1
    · subst hc
      have hx : xs = [] := List.eq_nil_of_length_eq_zero (by have : xs.length + 1 ≤ 1 := h4; omega)
      subst hx
      exact ⟨g, off, 0, cur, f, he, by simp [Go.SL.cutV], h2, h3, Nat.le_refl _, Nat.zero_le _, by omega, by simp⟩
    · refine ⟨g, off + e.n, cap - 1, cur, f, he, ?_, h2, h3, by have : xs.length + 1 ≤ cap := h4; omega, by omega, ?_, ?_⟩
      · simp only [Go.SL.cutV, if_neg hc, Option.map_some]
        rw [addr_add]; simp
      · obtain ⟨c, rfl⟩ : ∃ c, cap = c + 1 := ⟨cap - 1, by have : xs.length + 1 ≤ cap := h4; omega⟩
        rw [Nat.add_sub_cancel]
        rw [Nat.succ_mul] at h6; omega
      · have e1 := congrArg (List.drop e.n) h7
        rw [List.flatMap_cons, ← hf x, List.drop_left, List.drop_take, List.drop_drop, hf x] at e1
        rw [← e1]
        congr 1
        simp only [List.length_cons, Nat.succ_mul]; omega
theorem Has.sl_ownO : Has (OwnO e T v xs :: L) (Sl e v xs) := Has.here.imp fun _ _ h => OwnO.sl h
theorem Pick.ownO_sl : Pick (Sl e v xs) (OwnO e T v xs :: L) L := Pick.of Pick.here fun _ _ h => OwnO.sl h
theorem Elem.ownO {i : Nat} {z : α} (hz : xs[i]? = some z) : Elem (OwnO e T v xs :: L) e v i z := by
  intro w O hs
  obtain ⟨O1, O2, s, h, hs2⟩ := hs
  rcases h with ⟨rfl, rfl⟩ | ⟨g, off, cap, cur, f, he, rfl, h2, h3, h4, h5, h6, h7⟩
  · cases hz
  · have hil := cell_in' hz
    have hfl := encF_len he
    refine ⟨f z, ⟨fun _ => 0, O, ⟨fun _ => Nat.zero_le _, fun _ => Nat.le_refl _, fun _ h => by omega, fun _ _ => rfl⟩, (he w _ _ z).2 rfl, O1, O2, s, .inr ⟨g, off, cap, cur, f, he, rfl, h2, h3, h4, h5, h6, h7⟩, hs2⟩, ⟨g, by have := s.l g; omega, rfl⟩, fun j u hj => ?_⟩
    have hjl := cell_in' hj
    rw [hfl] at hjl
    show w.cell? ⟨g, off + i * e.n + j, none⟩ = some u
    rw [blk_cell h3]
    have e1 : ((xs.drop i).flatMap f)[j]? = some u := by
      rw [List.drop_eq_getElem_cons hil, List.flatMap_cons, List.getElem?_append_left (by rw [hfl]; exact hjl)]
      rw [List.getElem?_eq_getElem hil] at hz
      rw [Option.some.inj hz]; exact hj
    rw [← flat_drop hfl, ← h7, List.getElem?_drop, List.getElem?_take] at e1
    split at e1
    · rw [List.getElem?_drop] at e1
      rw [List.getElem?_toArray, Nat.add_assoc]; exact e1
    · cases e1
theorem AndA.fst {a b : A} {w : World} {O : Perm} (h : (AndA a b).h w O) : a.h w O := h.1
theorem AndA.snd {a b : A} {w : World} {O : Perm} (h : (AndA a b).h w O) : b.h w O := h.2
end

section
variable {K : Act → World → Prop} {X : Cx} {kk : List Item} {env : Env} {L L1 L2 : List A} {d : Nat} {T : TypeId} {pos : String} {af : Array Edge} {x y : Operand}
/-- An append behind which the row is as it was, and the longer one is looked at. -/
theorem s_append_look {α : Type} {e : Enc α} {f : α → List Value} {E : TypeId} {v u : Value} {zs ys : List α} {t : TypeId} {z : Value} {nb : Nat} (he : EncF e f) (hu : X.P.underlying t = some (.slice E)) (hE : TI X.P E z e.n nb) (hzs : z.cells.size = e.n) (hn : 0 < e.n)
    (hx : env.eval x = some v) (hy : env.eval y = some u) (hd : d < X.fn.ntmps) (hp : Pick (OwnO e E v zs) L L1) (hq : Pick (Own e E u ys) L1 L2) (hys : ys ≠ []) (hb : (zs.length + ys.length) * nb ≤ 140737488355328)
    (hb2 : zs.length + ys.length ≤ maxLen)
    (k : ∀ v', Kont X ((d, v') :: env) (AndA (OwnO e E v zs) (Sl e v' (zs ++ ys)) :: L2) K) :
    StepK X kk ⟨some d, .call ⟨.builtin .append, #[x, y], #[t, t]⟩, T, pos, af, none⟩ env L K := by
  refine s_main (γ := Value) (V := fun u => u) (pu := fun _ => True) (L' := fun v' => AndA (OwnO e E v zs) (Sl e v' (zs ++ ys)) :: L2) ?_ hd (fun u _ => k u)
  intro a w O ha hst hdom
  obtain ⟨O1, O2, s, hO, hs2⟩ := hp w O hst
  obtain ⟨O3, O4, s3, hU, hs4⟩ := hq w O2 hs2
  obtain ⟨ti, hi, hz0, hsz, hbt⟩ := hE
  have hfl : ∀ x, (f x).length = e.n := encF_len he
  have hcl : (ys.flatMap f).length = ys.length * e.n := flat_len hfl ys
  have hzl : (zs.flatMap f).length = zs.length * e.n := flat_len hfl zs
  have hpos : 0 < ys.length := List.length_pos_iff.2 hys
  obtain ⟨gu, cu, rfl, -⟩ := (Own.form hU).resolve_left fun h => hys h.2
  obtain ⟨_, hu1, hu2, curu, ⟨hu3, hu4⟩, hu5, hu6⟩ := own_open he hU
  have h1 : ∀ c ∈ ys.flatMap f, c.oneCell' = true := Rows.one (e := e) (w := w) (O := O) ((rows_f he).2 rfl)
  have hnews : ∀ j c, (ys.flatMap f)[j]? = some c → w.cell? ((⟨gu, 0, none⟩ : Addr).add j) = some c := fun j c hj => by
    rw [addr_add, blk_cell hu4, Nat.zero_add]
    rw [← hu6, List.getElem?_take] at hj
    split at hj
    · simpa using hj
    · cases hj
  have hdu : O4 gu = 0 := s3.lr gu hu3
  have hml : zs.length + ys.length ≤ 9223372036854775807 := by simp only [maxLen] at hb2; omega
  have hbb : ys.length * ti.bytes ≤ 281474976710656 := by
    have := Nat.mul_le_mul_right nb (show ys.length ≤ zs.length + ys.length by omega)
    rw [hbt]; omega
  -- a new block
  have grow : ∀ (v0 : Value) (cap' : Nat), zs.length + ys.length ≤ cap' → cap' ≤ maxLen → (OwnO e E v0 zs).h w O1 →
      (Builtin.append_ #[t, t] T #[a.eval x, a.eval y]).run X.P w = .ok (.slice (some ⟨w.heap.size, 0, none⟩) (zs.length + ys.length) cap') (w.drew.alloc (.cells ((zs.flatMap f).toArray ++ (ys.flatMap f).toArray ++ Builtin.zeroCells z.cells (cap' - (zs.length + ys.length))) E)) →
      ∃ g w' O', (execOp a.eval ⟨some d, .call ⟨.builtin .append, #[x, y], #[t, t]⟩, T, pos, af, none⟩).run X.P w = .ok (.value g) w' ∧ True ∧ Stars (AndA (OwnO e E v0 zs) (Sl e g (zs ++ ys)) :: L2) w' O' ∧ Rel w O w' O' := by
    intro v0 cap' hc1 hc2 hO1 hrun
    generalize hnew : ((zs.flatMap f).toArray ++ (ys.flatMap f).toArray ++ Builtin.zeroCells z.cells (cap' - (zs.length + ys.length))) = new at hrun
    have hdom' : ∀ b, O b ≠ 0 → b < w.drew.heap.size := hdom
    have hrel := rel_alloc (w := w.drew) (O := O) (.cells new E) hdom'
    have hold : ∀ c, c < w.heap.size → (w.drew.alloc (.cells new E)).heap[c]? = w.heap[c]? := fun c hc => by
      show (w.drew.heap.push _)[c]? = _
      rw [Array.getElem?_push, if_neg (by show ¬ c = w.heap.size; omega)]; rfl
    have hnewb : (w.drew.alloc (.cells new E)).heap[w.heap.size]? = some (.cells new E (0, 0)) := heap_alloc w.drew _
    have hO0 : ∀ P : Perm, (∀ b, P b ≤ O b) → P w.heap.size = 0 := fun P hP => by
      rcases Nat.eq_zero_or_pos (P w.heap.size) with h | h
      · exact h
      · have := hP w.heap.size
        have := hdom w.heap.size (by omega); omega
    refine ⟨.slice (some ⟨w.heap.size, 0, none⟩) (zs.length + ys.length) cap', w.drew.alloc (.cells new E), fresh w O, by simp [execOp, resolve, invoke, builtin, hrun], trivial, ?_, ⟨hrel.os, hrel.tape, hrel.output, hrel.size, hrel.old, hrel.perm, hrel.dom⟩⟩
    have hO2' : ∀ b, O4 b ≤ O b := fun b => Nat.le_trans (s3.r b) (s.r b)
    refine ⟨fresh w O1, O4, ⟨fun b => ?_, fun b => ?_, fun b hb => ?_, fun b hb => ?_⟩, ⟨?_, ?_⟩, hs4.loc fun c hc => hold c (hdom c (by have := hO2' c; omega))⟩
    · simp only [fresh]; split
      · exact Nat.le_refl _
      · exact s.l b
    · simp only [fresh]; split
      · rename_i h; subst h; rw [hO0 O4 hO2']; omega
      · exact hO2' b
    · simp only [fresh] at hb
      split at hb
      · rename_i h; subst h; exact hO0 O4 hO2'
      · have := s.lr b hb; have := s3.r b; omega
    · have h5 := s3.rl b hb
      have h6 := s.rl b (by have := s3.r b; omega)
      simp only [fresh]; split
      · rename_i h; subst h; have := hO0 O4 hO2'; omega
      · exact h6
    · refine (OwnO e E v0 zs).mono ((OwnO e E v0 zs).loc hO1 fun c hc => hold c (hdom c (by have := s.l c; omega))) fun b => ?_
      simp only [fresh]; split
      · rename_i h; subst h; rw [hO0 O1 s.l]; omega
      · exact Nat.le_refl _
    · refine ⟨some ⟨w.heap.size, 0, none⟩, cap', by rw [List.length_append], by rw [List.length_append]; exact hc1, hc2, .inr ⟨w.heap.size, 0, (zs ++ ys).flatMap f, rfl, by simp [fresh], (rows_f he).2 rfl, fun j c hj => ?_⟩⟩
      rw [blk_cell hnewb, Nat.zero_add, ← hnew]
      rw [List.flatMap_append] at hj
      have hjl := cell_in hj
      rw [Array.getElem?_append_left (by simpa using hjl)]
      simpa using hj
  have hge := fun n c => grownCap_ge w n c E
  have hcm := fun n c h => grownCap_le_maxLen w n c E h
  rcases hO with ⟨rfl, rfl⟩ | ⟨g, off, cap, cur, f', he', rfl, hg2, hgh, hzc, hcapm, hfit, hcur⟩
  · have hrun := run_append_nil (P := X.P) w t T E ti z hu hi hz0 ⟨gu, 0, none⟩ ys.length cu (ys.flatMap f) (by rw [hsz]; exact hcl) hnews hpos (by simp at hml; omega) hbb
    rw [← ha.eval hx, ← ha.eval hy] at hrun
    have := grow (.slice none 0 0) (grownCap w ys.length 0 E) (by simpa using hge ys.length 0) (hcm _ _ (by simpa using hb2)) (.inl ⟨rfl, rfl⟩) (by simpa using hrun)
    exact this
  · obtain rfl : f = f' := funext fun x => ((he w O (f' x) x).1 ((he' w O (f' x) x).2 rfl)).symm
    by_cases hroom : zs.length + ys.length ≤ cap
    · have hlen : (zs.length + ys.length) * e.n ≤ cap * e.n := Nat.mul_le_mul_right _ hroom
      rw [Nat.add_mul] at hlen
      have hst := run_storeCells_at X.P g (off + zs.length * e.n) E (ys.flatMap f) 0 cur.toArray w hgh (by simp [hcl]; omega) h1
      have hfc := run_firstCells_some (P := X.P) w e.n ys.length ⟨gu, 0, none⟩ ys.length cu (ys.flatMap f) hcl hnews
      generalize hnew : (cur.toArray.toList.take (off + zs.length * e.n + 0) ++ ys.flatMap f ++ cur.toArray.toList.drop (off + zs.length * e.n + 0 + (ys.flatMap f).length)) = new at hst
      have hadd : (⟨g, off, none⟩ : Addr).add (zs.length * e.n) = ⟨g, off + zs.length * e.n, none⟩ := addr_add _ _ _
      have hrun : (Builtin.append_ #[t, t] T #[a.eval x, a.eval y]).run X.P w = .ok (.slice (some ⟨g, off, none⟩) (zs.length + ys.length) cap) (w.setRow g new.toArray) := by
        rw [ha.eval hx, ha.eval hy]
        simp [Builtin.append_, run_underlying hu, sizeOf, typeInfo, hi, hsz, Builtin.lenOf, hroom, hfc, hadd, hst]
      have hnewl : new.length = cur.length := by
        rw [← hnew]; simp only [List.length_append, List.length_take, List.length_drop, hcl]; omega
      have hnewt : (new.drop off).take ((zs.length + ys.length) * e.n) = zs.flatMap f ++ ys.flatMap f := by
        have e0 : cur.drop off = (cur.drop off).take (zs.length * e.n) ++ (cur.drop off).drop (zs.length * e.n) := (List.take_append_drop _ _).symm
        have e1 : cur.take (off + zs.length * e.n) = cur.take off ++ zs.flatMap f := by rw [List.take_add, hcur]
        rw [← hnew]
        simp only [Nat.add_zero]
        rw [e1, List.append_assoc, List.append_assoc, List.drop_left' (by simp; omega), Nat.add_mul, ← List.append_assoc]
        exact List.take_left' (by simp only [List.length_append, hzl, hcl])
      have hgw : (w.setRow g new.toArray).heap[g]? = some (.cells new.toArray E (0, 0)) := setRow_heap w g _ _ E _ hgh
      have hOg : 2 ≤ O g := Nat.le_trans hg2 (s.l g)
      refine ⟨.slice (some ⟨g, off, none⟩) (zs.length + ys.length) cap, w.setRow g new.toArray, O, by simp [execOp, resolve, invoke, builtin, hrun], trivial, ⟨O1, O4, ⟨s.l, fun b => Nat.le_trans (s3.r b) (s.r b), fun b hb => ?_, fun b hb => ?_⟩, ⟨?_, ?_⟩, hs4.loc fun c hc => ?_⟩, setRow_rel hOg hdom⟩
      · have := s.lr b hb; have := s3.r b; omega
      · exact s.rl b (Nat.le_trans hb (s3.r b))
      · refine Or.inr ⟨g, off, cap, new, f, he, rfl, hg2, hgw, hzc, hcapm, by omega, ?_⟩
        have e3 := congrArg (List.take (zs.length * e.n)) hnewt
        rw [List.take_take, Nat.min_eq_left (Nat.mul_le_mul_right _ (by omega)), List.take_left' hzl] at e3
        exact e3
      · refine ⟨some ⟨g, off, none⟩, cap, by rw [List.length_append], by rw [List.length_append]; exact hroom, hcapm, .inr ⟨g, off, (zs ++ ys).flatMap f, rfl, by omega, (rows_f he).2 rfl, fun j c hj => ?_⟩⟩
        rw [blk_cell hgw]
        rw [List.flatMap_append, ← hnewt, List.getElem?_take] at hj
        split at hj
        · rw [List.getElem?_drop] at hj; simpa using hj
        · cases hj
      · have : c ≠ g := by intro e; subst e; have := s.lr c hg2; have := s3.r c; omega
        rw [setRow_other w g c _ this]
    · have holds : ∀ j c, (zs.flatMap f)[j]? = some c → w.cell? ((⟨g, off, none⟩ : Addr).add j) = some c := fun j c hj => by
        rw [addr_add, blk_cell hgh]
        rw [← hcur, List.getElem?_take] at hj
        split at hj
        · rw [List.getElem?_drop] at hj; simpa using hj
        · cases hj
      have hrun := run_append_grow (P := X.P) w t T E ti z hu hi hz0 ⟨g, off, none⟩ zs.length cap (zs.flatMap f) (by rw [hsz]; exact hzl) holds ⟨gu, 0, none⟩ ys.length cu (ys.flatMap f) (by rw [hsz]; exact hcl) hnews (by omega) (by omega) (growslice_fits (by omega) (by rw [hbt]; exact hb))
      rw [← ha.eval hx, ← ha.eval hy] at hrun
      exact grow _ (grownCap w (zs.length + ys.length) cap E) (hge _ _) (hcm _ _ hb2) (.inr ⟨g, off, cap, cur, f, he, rfl, hg2, hgh, hzc, hcapm, hfit, hcur⟩) hrun
end
section
variable {κ : Type} [DecidableEq κ] (ke : KeyEnc κ)
variable {X : Cx} {env : Env} {L L1 : List A} {T : TypeId} {x y : Operand} {K : Act → World → Prop} {kk : List Item} {pos : String} {af : Array Edge} {d : Nat}
open Classical in
/-- An update at a key that the map has, while the map is gone through. -/
theorem s_mapUpdate_it {t kt et : TypeId} {it b : Nat} {m : List (κ × Value)} {pre : List κ} {k : κ} {u : Value} {z : Operand} (hu : X.P.underlying t = some (.map kt et)) (hk : X.P.underlying kt = some ke.desc) (hsc : ∀ a, (∃ n j, ke.val a = .int j n) ∨ ∃ s, ke.val a = .string s)
    (hx : env.eval x = some (.map (some b))) (hy : env.eval y = some (ke.val k)) (hz : env.eval z = some u) (hp : Pick (MapItO ke it (some b) m pre) L L1) (hin : k ∈ m.map fun p : κ × Value => p.1) (kk' : Kont X env (MapItO ke it (some b) (upd m k u) pre :: L1) K) :
    StepK X kk ⟨none, .mapUpdate t x y z, T, pos, af, none⟩ env L K := by
  refine s_skip (γ := Unit) (pu := fun _ => True) (L' := fun _ => MapItO ke it (some b) (upd m k u) pre :: L1) ?_ (fun _ _ => kk')
  intro a w O ha hst hdom
  obtain ⟨O1, O2, s, hO, hs2⟩ := hp w O hst
  obtain ⟨hne, q1, q2, es, clock, seen, hb, hit, he, hbn, hbc, hnd, ps, hp1, hp2, hp3⟩ := mapItO_some ke hO
  obtain ⟨r, g1, g2, g3, g4⟩ := findNow_of ke (k := k) 0 he
  have hget : (getObj b).run X.P w = .ok (.map es clock) w := by simp [getObj, Sem.run, hb]
  have hfind : (Instr.findKey kt (ke.val k) es.toList).run X.P w = .ok r w := by simp [Instr.findKey, run_underlying hk, g1]
  have hchk : (Instr.checkKey false 10000 kt (ke.val k)).run X.P w = .ok () w := ke.chk X.P w 9999 false kt k hk
  have hset : ∀ o, (setObj b o).run X.P w = .ok () (w.putObj b o) := fun o => by simp [setObj, Sem.run, hb, World.putObj]
  cases r with
  | none => exact absurd hin (g4 rfl)
  | some p =>
    obtain ⟨i, v⟩ := p
    obtain ⟨n, hn, hm⟩ := g3 i v rfl
    rw [Nat.zero_add] at hn
    subst hn
    have hold : ((es[i]?).map (fun e : MapEntry => e.key)).getD (ke.val k) = ke.val k := by
      have := congrArg (fun l => l[i]?) he
      simp only [List.getElem?_map, Array.getElem?_toList] at this
      rw [Option.map_eq_some_iff] at hm
      obtain ⟨q, hq, hqk⟩ := hm
      rw [hq] at this
      cases he2 : es[i]? with
      | none => rfl
      | some e2 =>
        rw [he2] at this
        simp only [Option.map_some, Option.some.injEq, Prod.mk.injEq] at this
        simp [this.1, hqk]
    have hstay : (Instr.keyThatStays (ke.val k) (ke.val k)).run X.P w = .ok (ke.val k) w := by
      simp [Instr.keyThatStays, sameBits_self ke.val hsc k]
    have hrun : (Instr.mapUpdate t (.map (some b)) (ke.val k) u).run X.P w = .ok () (w.putObj b (.map (es.modify i fun e => { e with key := ke.val k, val := u }) clock)) := by
      simp [Instr.mapUpdate, run_underlying hu, hget, hchk, hfind, hset, hold, hstay]
    have hbs : b < w.heap.size := hdom b (by have := s.l b; omega)
    have hdom1 : ∀ c, O1 c ≠ 0 → c < w.heap.size := fun c hc => hdom c (by have := s.l c; omega)
    have hrel1 : Rel w O (w.putObj b (.map (es.modify i fun e => { e with key := ke.val k, val := u }) clock)) O := by
      refine ⟨rfl, rfl, rfl, by simp, fun c hc h => ?_, fun _ _ => Nat.le_refl _, fun c hc => by simpa using hdom c hc⟩
      have : c ≠ b := by intro e; subst e; have := s.l c; omega
      rw [World.putObj_heap_other this]
    let g : MapEntry → MapEntry := fun e => if e.key = ke.val k then { e with key := ke.val k, val := u } else e
    have hkeys : (es.toList.map fun e : MapEntry => e.key).Nodup := ents_keys ke he hnd
    have hmod : (es.toList.modify i fun e => { e with key := ke.val k, val := u }) = es.toList.map g := by
      have hik : ∀ e, es.toList[i]? = some e → e.key = ke.val k := fun e hei => by
        rw [Array.getElem?_toList] at hei
        rw [hei] at hold
        simpa using hold
      apply List.ext_getElem?
      intro j
      rw [List.getElem?_modify, List.getElem?_map]
      cases hj : es.toList[j]? with
      | none => simp
      | some e =>
        simp only [Option.map_some, Option.some.injEq]
        by_cases hij : i = j
        · subst hij
          simp only [Functor.map, Option.map_some, if_true, g, if_pos (hik e hj)]
        · simp only [Functor.map, Option.map_some, if_neg hij, g]
          rw [if_neg]
          · intro hek
            have hil : i < es.toList.length := by
              have := congrArg List.length he
              rw [Option.map_eq_some_iff] at hm
              obtain ⟨q, hq, _⟩ := hm
              have := cell_in' hq
              simp only [List.length_map] at *
              omega
            have h1 := hik _ (List.getElem?_eq_getElem hil)
            have hjl := cell_in' hj
            have h2 : es.toList[j] = e := by rw [List.getElem?_eq_getElem hjl] at hj; exact Option.some.inj hj
            have h3 := List.pairwise_iff_getElem.1 hkeys
            rcases Nat.lt_or_gt_of_ne hij with h | h
            · exact h3 i j (by simpa using hil) (by simpa using hjl) h (by simp only [List.getElem_map, h1, h2, hek])
            · exact h3 j i (by simpa using hjl) (by simpa using hil) h (by simp only [List.getElem_map, h1, h2, hek])
    refine ⟨(), _, O, by simp [execOp, ha.eval hx, ha.eval hy, ha.eval hz, hrun], trivial, ⟨O1, O2, s, mapItO_mk ke hne ⟨q1, q2, es.modify i fun e => { e with key := ke.val k, val := u }, clock, seen, World.putObj_heap_same hbs, ?_, ?_, ?_, ?_, upd_nodup hnd, ps.map g, ?_, ?_, ?_⟩, hs2.loc fun c hc => ?_⟩, hrel1⟩
    · rw [World.putObj_heap_other hne]; exact hit
    · rw [Array.toList_modify]; exact ents_found ke i he hm hnd
    · rw [Array.toList_modify, modify_born]; exact hbn
    · intro e he'
      rw [Array.toList_modify, hmod] at he'
      obtain ⟨e0, he0, rfl⟩ := List.mem_map.1 he'
      have := hbc e0 he0
      simp only [g]; split <;> exact this
    · rw [List.map_map, ← hp1]
      apply List.map_congr_left
      intro e _
      simp only [Function.comp, g]
      split
      · rename_i h; exact h.symm
      · rfl
    · rw [hp2, List.map_map]
      apply List.map_congr_left
      intro e _
      simp only [Function.comp, g]
      split <;> rfl
    · intro e hee
      obtain ⟨e0, he0, rfl⟩ := List.mem_map.1 hee
      rw [Array.toList_modify, hmod]
      exact List.mem_map.2 ⟨e0, hp3 e0 he0, rfl⟩
    · have : c ≠ b := by intro e; subst e; have := s.lr c q2; omega
      rw [World.putObj_heap_other this]
end
section
variable {X : Cx} {ops : Array Oper} {kk : List Item} {env : Env} {L L1 S : List A} {j0 fuel : Nat} {listed : Array Bool}
/-- Two operations may come up, either first. -/
theorem a_two (i j : Nat) {d d' : Option Nat} {op op' : Op} {T T' : TypeId} {pos pos' : String} {af af' : Array Edge} (hi : ops[i]? = some ⟨d, op, T, pos, af, none⟩) (hj : ops[j]? = some ⟨d', op', T', pos', af', none⟩) (hr : Region.ready .any ops listed = [i, j])
    (h : StepK X kk ⟨d, op, T, pos, af, none⟩ env L fun a w => (∃ O, Stars S w O) ∧ wpAnyH X.P .any ops (Qn X kk) (fun w => ∃ O, Stars S w O) fuel (listed.setIfInBounds i true) a w)
    (h' : StepK X kk ⟨d', op', T', pos', af', none⟩ env L fun a w => (∃ O, Stars S w O) ∧ wpAnyH X.P .any ops (Qn X kk) (fun w => ∃ O, Stars S w O) fuel (listed.setIfInBounds j true) a w) : Any X ops S (fuel + 1) listed kk env L := by
  intro a w O ha hst hrel
  refine wpAnyH_all hr (by simp) fun q hq => ?_
  have hq' : q = i ∨ q = j := by simpa using hq
  rcases hq' with rfl | rfl
  · simp only [wpOp, hi, Region.wanted, if_true]
    exact .inl (h a w O ha hst hrel)
  · simp only [wpOp, hj, Region.wanted, if_true]
    exact .inl (h' a w O ha hst hrel)
theorem k_two (i j : Nat) {d d' : Option Nat} {op op' : Op} {T T' : TypeId} {pos pos' : String} {af af' : Array Edge} (hi : ops[i]? = some ⟨d, op, T, pos, af, none⟩) (hj : ops[j]? = some ⟨d', op', T', pos', af', none⟩) (hr : Region.ready .any ops listed = [i, j])
    (h : Closed .any ops (listed.setIfInBounds i true) → StepK X kk ⟨d, op, T, pos, af, none⟩ env L fun a w => ((listed.setIfInBounds i true).getD j0 false = true ∨ ∃ O, Stars S w O) ∧ wpAnyK X.P .any ops (Qn X kk) (fun w => ∃ O, Stars S w O) j0 fuel (listed.setIfInBounds i true) a w)
    (h' : Closed .any ops (listed.setIfInBounds j true) → StepK X kk ⟨d', op', T', pos', af', none⟩ env L fun a w => ((listed.setIfInBounds j true).getD j0 false = true ∨ ∃ O, Stars S w O) ∧ wpAnyK X.P .any ops (Qn X kk) (fun w => ∃ O, Stars S w O) j0 fuel (listed.setIfInBounds j true) a w) : AnyG X ops S j0 (fuel + 1) listed kk env L := by
  intro hc a w O ha hst hrel
  refine ⟨fun h0 => absurd (hr ▸ h0) (by simp), fun q hq => ?_⟩
  have hq' : q = i ∨ q = j := by rw [hr] at hq; simpa using hq
  rcases hq' with rfl | rfl
  · simp only [wpOp, hi, Region.wanted, if_true]
    exact .inl (h (closed_set hc (by rw [hr]; simp)) a w O ha hst hrel)
  · simp only [wpOp, hj, Region.wanted, if_true]
    exact .inl (h' (closed_set hc (by rw [hr]; simp)) a w O ha hst hrel)
theorem Has.and_snd {a b : A} : Has (AndA a b :: L) b := Has.here.imp fun _ _ h => h.2
theorem Has.and_fst {a b : A} : Has (AndA a b :: L) a := Has.here.imp fun _ _ h => h.1
theorem Pick.and_fst {a b : A} : Pick a (AndA a b :: L) L := Pick.of Pick.here fun _ _ h => h.1
end
end Go.SL
/- What is taken, kept, read: found by constructors, one after the other (short words for the walks). -/
namespace Go.SL
open Go
inductive HX : List A → A → Prop
  | here {a : A} {L : List A} : HX (a :: L) a
  | apd {α : Type} {e : Enc α} {T : TypeId} {v : Value} {xs : List α} {L : List A} : HX (Apd e T v xs :: L) (Sl e v xs)
  | own {α : Type} {e : Enc α} {T : TypeId} {v : Value} {xs : List α} {L : List A} : HX (Own e T v xs :: L) (Sl e v xs)
  | ownO {α : Type} {e : Enc α} {T : TypeId} {v : Value} {xs : List α} {L : List A} : HX (OwnO e T v xs :: L) (Sl e v xs)
  | and {a b : A} {L : List A} : HX (AndA a b :: L) b
  | blk {b : Nat} {T : TypeId} {cs : List Value} {L : List A} : HX (Blk b T cs :: L) (BlkR b T cs)
  | there {a b : A} {L : List A} (h : HX L a) : HX (b :: L) a
theorem hX {L : List A} {a : A} (h : HX L a) : Has L a := by
  induction h with
  | here => exact Has.here
  | apd => exact Has.sl_apd
  | own => exact Has.sl_own
  | ownO => exact Has.sl_ownO
  | and => exact Has.and_snd
  | blk => exact Has.r_blk
  | there _ ih => exact Has.there ih
inductive PX : A → List A → List A → Prop
  | sl {α : Type} {e : Enc α} {v : Value} {xs : List α} {L : List A} : PX (Sl e v xs) (Sl e v xs :: L) (Sl e v xs :: L)
  | rd {b : Nat} {T : TypeId} {cs : List Value} {L : List A} : PX (BlkR b T cs) (BlkR b T cs :: L) (BlkR b T cs :: L)
  | fld {p : Addr} {u : Value} {L : List A} : PX (FldCell p u) (FldCell p u :: L) (FldCell p u :: L)
  | here {a : A} {L : List A} : PX a (a :: L) L
  | own {α : Type} {e : Enc α} {T : TypeId} {v : Value} {xs : List α} {L : List A} : PX (Sl e v xs) (Own e T v xs :: L) L
  | ownO {α : Type} {e : Enc α} {T : TypeId} {v : Value} {xs : List α} {L : List A} : PX (Sl e v xs) (OwnO e T v xs :: L) L
  | and {a b : A} {L : List A} : PX a (AndA a b :: L) L
  | apd {α : Type} {e : Enc α} {T : TypeId} {v : Value} {xs : List α} {L : List A} : PX (Sl e v xs) (Apd e T v xs :: L) L
  | blk {b : Nat} {T : TypeId} {cs : List Value} {L : List A} : PX (BlkR b T cs) (Blk b T cs :: L) L
  | nil {α : Type} {e : Enc α} {L : List A} : PX (Sl e (.slice none 0 0) []) L L
  | nilO {α : Type} {e : Enc α} {T : TypeId} {L : List A} : PX (Own e T (.slice none 0 0) []) L L
  | map {κ : Type} [DecidableEq κ] {ke : KeyEnc κ} {it : Nat} {o : Option Nat} {m : List (κ × Value)} {pre : List κ} {L : List A} : PX (MapO ke o m) (MapItO ke it o m pre :: L) L
  | there {a b : A} {L L' : List A} (h : PX a L L') : PX a (b :: L) (b :: L')
theorem pX {a : A} {L L' : List A} (h : PX a L L') : Pick a L L' := by
  induction h with
  | sl => exact Pick.keep (Sl.isDup _ _ _)
  | rd => exact Pick.keep (BlkR.isDup _ _ _)
  | fld => exact Pick.keep (FldCell.isDup _ _)
  | here => exact Pick.here
  | own => exact Pick.own_sl
  | ownO => exact Pick.ownO_sl
  | and => exact Pick.and_fst
  | apd => exact Pick.apd_sl
  | blk => exact Pick.r_blk
  | nil => exact Pick.sl_nil
  | nilO => exact Pick.own_nil
  | map => exact Pick.map_itO _
  | there _ ih => exact Pick.there ih
inductive PXs : List A → List A → List A → Prop
  | nil {L : List A} : PXs [] L L
  | cons {a : A} {az L L1 L2 : List A} (h : PX a L L1) (t : PXs az L1 L2) : PXs (a :: az) L L2
theorem pXs {az L L' : List A} (h : PXs az L L') : Picks az L L' := by
  induction h with
  | nil => exact .nil
  | cons h _ ih => exact .cons (pX h) ih
theorem eX {az L L' : List A} (h : PXs az L L') : Ent L az := (pXs h).ent
inductive PB : A → List A → List A → Prop
  | here {a : A} {L : List A} : PB a (a :: L) L
  | nil {α : Type} {e : Enc α} {T : TypeId} {L : List A} : PB (Own e T (.slice none 0 0) []) L L
  | there {a b : A} {L L' : List A} (h : PB a L L') : PB a (b :: L) (b :: L')
theorem pB {a : A} {L L' : List A} (h : PB a L L') : Pick a L L' := by
  induction h with
  | here => exact Pick.here
  | nil => exact Pick.own_nil
  | there _ ih => exact Pick.there ih
inductive RX (L : List A) : List A → Prop
  | nil : RX L []
  | sl {α : Type} {e : Enc α} {v : Value} {xs : List α} {az : List A} (h : HX L (Sl e v xs)) (t : RX L az) : RX L (Sl e v xs :: az)
  | blk {b : Nat} {T : TypeId} {cs : List Value} {az : List A} (h : HX L (BlkR b T cs)) (t : RX L az) : RX L (BlkR b T cs :: az)
  | rd {α : Type} {e : Enc α} {cs : List Value} {x : α} {az : List A} (h : HX L (Rd e cs x)) (t : RX L az) : RX L (Rd e cs x :: az)
  | pu {p : Prop} {az : List A} (h : HX L (Pu p)) (t : RX L az) : RX L (Pu p :: az)
  | fld {p : Addr} {u : Value} {az : List A} (h : HX L (FldCell p u)) (t : RX L az) : RX L (FldCell p u :: az)
theorem rX {L az : List A} (h : RX L az) : Reads L az := by
  induction h with
  | nil => exact .nil
  | sl h _ ih => exact .cons (Sl.isDup _ _ _) (hX h) ih
  | blk h _ ih => exact .cons (BlkR.isDup _ _ _) (hX h) ih
  | rd h _ ih => exact .cons (Rd.isDup _ _ _) (hX h) ih
  | pu h _ ih => exact .cons (Pu.isDup _) (hX h) ih
  | fld h _ ih => exact .cons (FldCell.isDup _ _) (hX h) ih
section
variable {α : Type} {e : Enc α} {T : TypeId} {v : Value} {zs : List α} {L : List A} {i : Nat}
theorem el1 (h : i < zs.length) : Elem (Sl e v zs :: L) e v i zs[i] := Elem.sl (List.getElem?_eq_getElem h)
theorem el2 (h : i < zs.length) : Elem (Own e T v zs :: L) e v i zs[i] := Elem.own (List.getElem?_eq_getElem h)
theorem el3 (h : i < zs.length) : Elem (OwnO e T v zs :: L) e v i zs[i] := Elem.ownO (List.getElem?_eq_getElem h)
end
theorem dd {a b : Nat} (h : Nat.ble a b = true) : a ≤ b := Nat.le_of_ble_eq_true h
/-- Encodings whose reading hangs on nothing else. -/
class PureC {α : Type} (e : Enc α) : Prop where
  h : e.Pure
instance {k : IntKind} : PureC (eInt k) := ⟨eInt_pure k⟩
instance : PureC eStr := ⟨eStr_pure⟩
instance : PureC eBool := ⟨eBool_pure⟩
instance : PureC eByte := ⟨eByte_pure⟩
instance : PureC eRaw := ⟨eRaw_pure⟩
instance {α β : Type} {e : Enc α} {f : Enc β} [PureC e] [PureC f] : PureC (ePair e f) := ⟨ePair_pure PureC.h PureC.h⟩
instance {α β : Type} {g : α → β} {e : Enc β} [PureC e] : PureC (eMap g e) := ⟨eMap_pure PureC.h⟩
theorem puX {α : Type} {e : Enc α} [PureC e] : e.Pure := PureC.h
/-- What stands by itself. -/
class SepC (a : A) : Prop where
  h : a.Sep
instance {b : Nat} {T : TypeId} {cs : List Value} : SepC (Blk b T cs) := ⟨Blk.sep⟩
instance {b : Nat} {o : Obj} : SepC (ObjA b o) := ⟨ObjA.sep⟩
instance {p : Prop} : SepC (Pu p) := ⟨Pu.sep p⟩
instance {κ : Type} [DecidableEq κ] {ke : KeyEnc κ} {b : Nat} {m : List (κ × Value)} : SepC (MapA ke b m) := ⟨MapA.sep⟩
instance {κ : Type} [DecidableEq κ] {ke : KeyEnc κ} {o : Option Nat} {m : List (κ × Value)} : SepC (MapO ke o m) := ⟨by cases o with | none => exact Pu.sep _ | some b => exact MapA.sep⟩
instance {α : Type} {e : Enc α} {T : TypeId} {v : Value} {xs : List α} : SepC (OwnO e T v xs) := ⟨OwnO.sep⟩
instance {α : Type} {e : Enc α} [PureC e] {T : TypeId} {v : Value} {xs : List α} : SepC (Own e T v xs) := ⟨Own.sep PureC.h⟩
class SepsC (l : List A) : Prop where
  h : Seps l
instance : SepsC [] := ⟨.nil⟩
instance {a : A} {l : List A} [SepC a] [SepsC l] : SepsC (a :: l) := ⟨.cons SepC.h SepsC.h⟩
instance {l : List A} [SepsC l] : SepC (AllA l) := ⟨AllA.sep SepsC.h⟩
instance {γ : Type} {f : γ → A} [∀ g, SepC (f g)] : SepC (ExA f) := ⟨ExA.sep fun _ => SepC.h⟩
theorem sX {l : List A} [SepsC l] : Seps l := SepsC.h
theorem results_tct {fn : Func} {t s r : Nat} {ty : TypeId} {tmps : Array Value} {P : Program} {w : World} {v u x : Value} {p : Addr} (h : fn.results = #[.tmp s, .cell t ty, .tmp r]) (hv : tmps[t]? = some (.pointer (some p))) (hl : (loadVar ty p).run P w = .ok v w) (hu : tmps[s]? = some u) (hx : tmps[r]? = some x) : (results fn tmps).run P w = .ok (.tuple #[u, v, x]) w := by
  have h1 : tmps[t]?.getD undef = .pointer (some p) := by rw [hv]; rfl
  have h2 : tmps[s]?.getD undef = u := by rw [hu]; rfl
  have h3 : tmps[r]?.getD undef = x := by rw [hx]; rfl
  simp [results, h, asAddr, hl, h1, h2, h3]
theorem c_ret_tct {X : Cx} {k : List Item} {env : Env} {L : List A} {t s r b : Nat} {ty bt : TypeId} {cs : List Value} {z u x : Value} {nb : Nat} (hf : X.P.funcs[X.f]? = some X.fn) (h : X.fn.results = #[.tmp s, .cell t ty, .tmp r]) (hu : ∃ fs, X.P.underlying ty = some (.struct fs)) (ht : TI X.P ty z cs.length nb)
    (hv : env.look t = some (.pointer (some ⟨b, 0, none⟩))) (hs' : env.look s = some u) (hr' : env.look r = some x) (hb : Has L (BlkR b bt cs)) (fin : ∀ w O, Stars L w O → X.R (.tuple #[u, .agg cs.toArray, x]) w O) (hrd : X.rd = none := by rfl) (hdf : X.defs = [] := by rfl) : Cfg X (.code .ret :: k) env L :=
  c_ret_any (fun a w O ha hs _ => by
    obtain ⟨_, fz, hh⟩ := hb w O hs
    obtain ⟨ti, hi, _, hsz, _⟩ := ht
    exact ⟨_, results_tct h (ha.look t _ hv) (run_loadAgg hu hi hsz fun j u hj => by rw [add_off, blk_cell hh]; simpa using hj) (ha.look s _ hs') (ha.look r _ hr'), fin w O hs⟩) hf hrd hdf fun _ _ _ _ _ hb => steps_ret hb
end Go.SL
/- Results in two cells; contracts of functions that make blocks of their own alone. -/
namespace Go.SL
open Go Go.RowKit
theorem results_cc {fn : Func} {t s : Nat} {ty ty2 : TypeId} {tmps : Array Value} {P : Program} {w : World} {v u : Value} {p q : Addr} (h : fn.results = #[.cell t ty, .cell s ty2]) (hv : tmps[t]? = some (.pointer (some p))) (hl : (loadVar ty p).run P w = .ok v w) (hu : tmps[s]? = some (.pointer (some q))) (hm : (loadVar ty2 q).run P w = .ok u w) : (results fn tmps).run P w = .ok (.tuple #[v, u]) w := by
  have h1 : tmps[t]?.getD undef = .pointer (some p) := by rw [hv]; rfl
  have h2 : tmps[s]?.getD undef = .pointer (some q) := by rw [hu]; rfl
  simp [results, h, asAddr, hl, hm, h1, h2]
theorem c_ret_cc {X : Cx} {k : List Item} {env : Env} {L : List A} {t s b c : Nat} {ty ty2 bt ct : TypeId} {cs ds : List Value} {z z2 : Value} {nb nb2 : Nat} (hf : X.P.funcs[X.f]? = some X.fn) (h : X.fn.results = #[.cell t ty, .cell s ty2]) (hu : ∃ fs, X.P.underlying ty = some (.struct fs)) (ht : TI X.P ty z cs.length nb) (hu2 : ∃ fs, X.P.underlying ty2 = some (.struct fs)) (ht2 : TI X.P ty2 z2 ds.length nb2)
    (hv : env.look t = some (.pointer (some ⟨b, 0, none⟩))) (hs' : env.look s = some (.pointer (some ⟨c, 0, none⟩))) (hb : Has L (BlkR b bt cs)) (hc : Has L (BlkR c ct ds)) (fin : ∀ w O, Stars L w O → X.R (.tuple #[.agg cs.toArray, .agg ds.toArray]) w O) (hrd : X.rd = none := by rfl) (hdf : X.defs = [] := by rfl) : Cfg X (.code .ret :: k) env L :=
  c_ret_any (fun a w O ha hs _ => by
    obtain ⟨_, fz, hh⟩ := hb w O hs
    obtain ⟨_, fz2, hh2⟩ := hc w O hs
    obtain ⟨ti, hi, _, hsz, _⟩ := ht
    obtain ⟨ti2, hi2, _, hsz2, _⟩ := ht2
    exact ⟨_, results_cc h (ha.look t _ hv) (run_loadAgg hu hi hsz fun j u hj => by rw [add_off, blk_cell hh]; simpa using hj) (ha.look s _ hs') (run_loadAgg hu2 hi2 hsz2 fun j u hj => by rw [add_off, blk_cell hh2]; simpa using hj), fin w O hs⟩) hf hrd hdf fun _ _ _ _ _ hb => steps_ret hb
/-- A contract of a function that makes blocks of its own, and keeps all that was there. -/
theorem con_below {P : Program} {f : FuncId} {args : List Value} {γ : Type} {ret : γ → Value} {pu : γ → Prop} {L : List A} (h : ∀ w O, Stars L w O → Calls P f args.toArray w fun e w' => (∃ g, e = .returned (ret g) ∧ pu g) ∧ Below w.heap.size w w') :
    Con P f args L (γ := γ) ret pu (fun _ => []) := fun w O hs hd => (h w O hs).mono fun e w' ⟨⟨g, he, hp⟩, hb⟩ =>
  ⟨g, O, he, hp, trivial, ⟨hb.os, hb.tape, hb.output, hb.size, fun b h _ => hb.block b h, fun _ _ => Nat.le_refl _, fun b h => Nat.lt_of_lt_of_le (hd b h) hb.size⟩⟩
theorem con_pu {γ : Type} {P : Program} {f : FuncId} {args : List Value} {L0 : List A} {ret : γ → Value} {pu p : γ → Prop} {L' : γ → List A} (h : Con P f args L0 ret pu L') (hp : ∀ g w O, Stars (L' g) w O → p g) : Con P f args L0 ret (fun g => pu g ∧ p g) L' := fun w O hs hd =>
  (h w O hs hd).mono fun _ _ ⟨g, O', h1, h2, h3, h4⟩ => ⟨g, O', h1, ⟨h2, hp g _ _ h3⟩, h3, h4⟩
theorem form_of {α : Type} {e : Enc α} {T : TypeId} {v : Value} {xs : List α} {Lr : List A} {w : World} {O : Perm} (h : Stars (Own e T v xs :: Lr) w O) : ∃ a0 cap, v = .slice a0 xs.length cap := by
  obtain ⟨O1, O2, _, h1, _⟩ := h
  obtain ⟨a0, cap, hv, _⟩ := Own.sl h1
  exact ⟨a0, cap, hv⟩
/-- An interface's value held against nil. -/
theorem v_ne_nilI {X : Cx} {env : Env} {L : List A} {T xT yT : TypeId} {x : Operand} {ms : Array (String × TypeId)} (hu : X.P.underlying xT = some (.interface ms)) (hx : env.eval x = some .nilIface) : Val X env L (.binOp .neq xT x (.const .nilIface) yT) T (.bool false) := by
  intro _ _ _ _ a w O ha _
  have h : (Op.equal xT .nilIface .nilIface).run X.P w = .ok true w := by
    rw [equal_succ hu, Op.equalIn]
    simp only [Sem.run_bind, run_underlying hu, Result.andThen_ok]; rfl
  have hc : a.eval (.const .nilIface) = .nilIface := rfl
  simp [execOp, ha.eval hx, hc, eqGuard, binOp, h]
theorem v_ne_iface {X : Cx} {env : Env} {L : List A} {T xT yT tp : TypeId} {x : Operand} {p : Value} {ms : Array (String × TypeId)} (hu : X.P.underlying xT = some (.interface ms)) (hx : env.eval x = some (.iface tp p)) : Val X env L (.binOp .neq xT x (.const .nilIface) yT) T (.bool true) := by
  intro _ _ _ _ a w O ha _
  have h : (Op.equal xT (.iface tp p) .nilIface).run X.P w = .ok false w := by
    rw [equal_succ hu, Op.equalIn]
    simp only [Sem.run_bind, run_underlying hu, Result.andThen_ok]; rfl
  have hc : a.eval (.const .nilIface) = .nilIface := rfl
  simp [execOp, ha.eval hx, hc, eqGuard, binOp, h]
theorem v_load_byte {X : Cx} {env : Env} {L : List A} {T : TypeId} {x : Operand} {v : Value} {i : Nat} {z : UInt8} {t : TypeId} (ht : Lone X.P t) (hx : env.eval x = some (.pointer (some (elemAddr v i 1)))) (he : Elem L eByte v i z) : Val X env L (.load t x) T (.int .u8 (z.toNat : Int)) :=
  v_load_val (e := eByte) (f := fun b => .int .u8 (b.toNat : Int)) ht (fun _ _ _ _ h => h) hx he
theorem v_neg_u {X : Cx} {env : Env} {L : List A} {T xT : TypeId} {x : Operand} {m : Int} (hx : env.eval x = some (.int .u64 m)) : Val X env L (.unOp .neg xT x) T (.int .u64 (IntKind.u64.wrap (-m))) :=
  fun _ _ _ _ a w O ha _ => by simp [execOp, ha.eval hx, Op.unary, Op.intArith]
section
variable {X : Cx} {env : Env} {L : List A} {T : TypeId} {x : Operand}
/-- The first cells of an array of one's own, as a slice. -/
theorem v_slice_arr {t E : TypeId} {len n bt b h : Nat} {z : Value} {o : Operand} {K : IntKind} {m : Int} (hu : X.P.underlying t = some (.array len E)) (hE : TI X.P E z n bt) (hx : env.eval x = some (.pointer (some ⟨b, 0, none⟩))) (ho : env.eval o = some (.int K m)) (h0 : m = (h : Int)) (h1 : h ≤ len) :
    Val X env L (.slice t x none (some o) none) T (.slice (some ⟨b, 0, none⟩) h len) := by
  subst h0
  intro _ _ _ _ a w O ha _
  obtain ⟨ti, hi', _, hsz, _⟩ := hE
  have hbd : (Instr.sliceBounds false len len none (some (a.eval o)) none).run X.P w = .ok (0, h, len) w := by
    rw [ha.eval ho]
    simp [Instr.sliceBounds, run_sliceBound (w := w) K (h : Int) len .sliceAlen (by omega) (by omega)]
  have hadd : (⟨b, 0, none⟩ : Addr).add 0 = ⟨b, 0, none⟩ := rfl
  have hst : (Instr.sliceAt t (.pointer (some ⟨b, 0, none⟩)) none (some (a.eval o)) none).run X.P w = .ok (.slice (some ⟨b, 0, none⟩) h len) w := by
    simp [Instr.sliceAt, Instr.sureAddr, run_underlying hu, hbd, sizeOf, typeInfo, hi', hsz, hadd]
  simp [execOp, ha.eval hx, hst]
end
/-- The first bytes of a block. -/
theorem bytes_sl {b T n c : Nat} {l : List UInt8} {cs : List Value} (hn : l.length = n) (hc : n ≤ c) (hm : c ≤ maxLen) : Ent [Blk b T ((l.map fun b => Value.int .u8 (b.toNat : Int)) ++ cs)] [Sl eByte (.slice (some ⟨b, 0, none⟩) n c) l] := fun w O hs => by
  subst hn
  obtain ⟨O1, O2, s, ⟨h2, hh⟩, _⟩ := hs
  have hb := s.l b
  refine ⟨O, fun _ => 0, ⟨fun _ => Nat.le_refl _, fun _ => Nat.zero_le _, fun _ _ => rfl, fun _ h => absurd h (by simp)⟩, ⟨some ⟨b, 0, none⟩, c, rfl, hc, hm, .inr ⟨b, 0, _, rfl, by omega, eByte_rows.2 rfl, fun j u hj => ?_⟩⟩, trivial⟩
  have hjl : j < (l.map fun b => Value.int .u8 (b.toNat : Int)).length := by
    rcases Nat.lt_or_ge j (l.map fun b => Value.int .u8 (b.toNat : Int)).length with h | h
    · exact h
    · rw [List.getElem?_eq_none h] at hj; cases hj
  simp only [World.cell?, hh, Nat.zero_add, List.getElem?_toArray]
  rw [List.getElem?_append_left hjl]; exact hj
end Go.SL
/- Chapter 09: numerals in plain words: what is written, what is read, and that these are each other's back. -/
namespace Go.Proofs.YtmgkeippepeggaaGreatDoor
open Go Go.Lib
theorem decFrom_app (d : UInt8) : ∀ (l : List UInt8) (acc : Nat), decFrom acc (l ++ [d]) = (decFrom acc l).bind fun n => (digitVal d).map fun k => n * 10 + k
  | [], acc => by
    rw [List.nil_append, decFrom, decFrom]
    cases digitVal d <;> rfl
  | b :: l, acc => by
    rw [List.cons_append, decFrom, decFrom]
    cases h : digitVal b with
    | none => rfl
    | some k => exact decFrom_app d l _
theorem ofNat_dig {k : Nat} (h : k < 10) : (UInt8.ofNat (48 + k)).toNat = 48 + k := by
  rw [UInt8.toNat_ofNat']; omega
theorem digitVal_ofNat {k : Nat} (h : k < 10) : digitVal (UInt8.ofNat (48 + k)) = some k := by
  unfold digitVal
  rw [ofNat_dig h, if_pos ⟨by omega, by omega⟩]
  congr 1; omega
theorem decDigits_ne (u : Nat) : decDigits u ≠ [] := by
  rw [decDigits]
  split <;> simp
theorem decFrom_dec (u : Nat) : decFrom 0 (decDigits u) = some u := by
  induction u using Nat.strongRecOn with
  | _ u ih =>
    rw [decDigits]
    split
    · rename_i h
      rw [show [UInt8.ofNat (48 + u)] = [] ++ [UInt8.ofNat (48 + u)] from rfl, decFrom_app, decFrom, digitVal_ofNat h]
      simp
    · rename_i h
      rw [decFrom_app, ih (u / 10) (by omega), digitVal_ofNat (by omega)]
      simp; omega
theorem decDigits_dig (u : Nat) : ∀ b ∈ decDigits u, 48 ≤ b.toNat ∧ b.toNat ≤ 57 := fun b hb => by
  obtain ⟨k, hk, rfl⟩ := List.mem_iff_getElem.1 hb
  obtain ⟨d, hd⟩ := digit_of_decFrom _ _ _ (decFrom_dec u) k _ (List.getElem?_eq_getElem hk)
  have := digitVal_eq hd
  exact ⟨this.1, this.2.1⟩
theorem decNat_dec (u : Nat) : decNat (decDigits u) = some u := by
  unfold decNat
  rw [if_neg (by simp [decDigits_ne]), decFrom_dec]
theorem atoi_itoa (n : Int) : atoi (itoa n) = some n := by
  unfold itoa
  split
  · rw [atoi, if_pos (by decide), decNat_dec]
    simp; omega
  · have h := decNat_dec n.toNat
    have hd := decDigits_dig n.toNat
    cases e : decDigits n.toNat with
    | nil => exact absurd e (decDigits_ne _)
    | cons b r =>
      have hb := hd b (by rw [e]; simp)
      rw [atoi, if_neg (by simp; intro k; rw [k] at hb; revert hb; decide), if_neg (by simp; intro k; rw [k] at hb; revert hb; decide), ← e, h]
      simp; omega
theorem itoa_inj {m n : Int} (h : itoa m = itoa n) : m = n := by
  have h1 := atoi_itoa m
  rw [h, atoi_itoa] at h1
  exact (Option.some.inj h1).symm
theorem itoa_neg {n : Int} (h : n < 0) : itoa n = 45 :: itoa (0 - n) := by
  unfold itoa
  rw [if_pos h, if_neg (by omega), show (0 - n).toNat = n.natAbs by omega]
theorem itoa_one {n : Int} (h0 : 0 ≤ n) (h : n ≤ 9) : itoa n = [UInt8.ofNat (48 + n.toNat)] := by
  unfold itoa
  rw [if_neg (by omega), decDigits, dif_pos (by omega)]
theorem itoa_more {n : Int} (h : 9 < n) : itoa n = itoa (n / 10) ++ itoa (n % 10) := by
  rw [itoa_one (n := n % 10) (by omega) (by omega)]
  unfold itoa
  rw [if_neg (by omega), if_neg (by omega), decDigits, dif_neg (by omega), show n.toNat / 10 = (n / 10).toNat by omega, show n.toNat % 10 = (n % 10).toNat by omega]
/-- A byte more of a number, as the document reads it: what is no digit is passed over. -/
def stepV (a : Int) (b : UInt8) : Int := if 48 ≤ b.toNat ∧ b.toNat ≤ 57 then 10 * a + b.toNat - 48 else a
def valR (s : List UInt8) : Int := s.foldl stepV 0
def valS (s : List UInt8) : Int := if s.head? = some 45 then 0 - valR s else valR s
/-- The number that these bytes are, if they are one. -/
def numS (s : List UInt8) : Option Int := if itoa (valS s) = s then some (valS s) else none
theorem val_dec : ∀ (l : List UInt8) (acc n : Nat), decFrom acc l = some n → l.foldl stepV (acc : Int) = (n : Int)
  | [], acc, n, h => by simp [decFrom] at h; simp [h]
  | b :: l, acc, n, h => by
    rw [decFrom] at h
    cases hd : digitVal b with
    | none => rw [hd] at h; cases h
    | some d =>
      rw [hd] at h
      obtain ⟨h1, h2, h3⟩ := digitVal_eq hd
      have := val_dec l _ n h
      rw [List.foldl_cons, stepV, if_pos ⟨h1, h2⟩, ← this]
      congr 1
      omega
theorem val_itoa (n : Int) : valS (itoa n) = n := by
  unfold valS valR itoa
  by_cases h : n < 0
  · rw [if_pos h, List.head?_cons, if_pos rfl, List.foldl_cons]
    have e : stepV 0 45 = ((0 : Nat) : Int) := by decide
    rw [e, val_dec _ 0 _ (decFrom_dec n.natAbs)]
    omega
  · rw [if_neg h]
    have hd := decDigits_dig n.toNat
    cases e : decDigits n.toNat with
    | nil => exact absurd e (decDigits_ne _)
    | cons b r =>
      have hb := hd b (by rw [e]; simp)
      rw [List.head?_cons, if_neg (by intro k; rw [Option.some.inj k] at hb; revert hb; decide), ← e]
      have h2 := val_dec _ 0 _ (decFrom_dec n.toNat)
      rw [show ((0 : Nat) : Int) = 0 from rfl] at h2
      rw [h2]; omega
theorem numS_itoa (n : Int) : numS (itoa n) = some n := by
  unfold numS
  rw [val_itoa, if_pos rfl]
theorem numS_some {s : List UInt8} {n : Int} (h : numS s = some n) : itoa n = s := by
  unfold numS at h
  split at h
  · rename_i k; rw [← Option.some.inj h]; exact k
  · cases h
/-- As the program reads it. -/
theorem numS_atoi (s : List UInt8) : numS s = (atoi s).bind fun n => if itoa n = s then some n else none := by
  cases h : numS s with
  | some n =>
    have e := numS_some h
    subst e
    rw [atoi_itoa]
    exact (if_pos rfl).symm
  | none =>
    cases ha : atoi s with
    | none => rfl
    | some n =>
      show none = if itoa n = s then some n else none
      rw [if_neg fun e => by rw [← e, numS_itoa] at h; cases h]
end Go.Proofs.YtmgkeippepeggaaGreatDoor
/- Chapter 09: what is written, and what is read, in plain words. -/
namespace Go.Proofs.YtmgkeippepeggaaGreatDoor
open Go Go.Lib
abbrev Pr9 := Int × ByteArray × ByteArray × Int × List ByteArray × List ByteArray
abbrev Pt9 := Int × ByteArray × List Int × List Pr9
abbrev far9 : Int := 1099511627776
def clamp9 (n : Int) : Int := min (max n (-far9)) far9
def numB (n : Int) : List UInt8 := itoa (clamp9 n) ++ [59]
def flagB (b : Bool) : List UInt8 := numB (if b then 1 else 0)
def textB (s : ByteArray) : List UInt8 := itoa s.size ++ [58] ++ s.data.toList ++ [44]
def manyB {α : Type} (put : α → List UInt8) (l : List α) : List UInt8 := numB l.length ++ (l.map put).flatten
def textsB (l : List ByteArray) : List UInt8 := manyB textB l
def primB (p : Pr9) : List UInt8 := numB p.1 ++ textB p.2.1 ++ textB p.2.2.1 ++ numB p.2.2.2.1 ++ textsB p.2.2.2.2.1 ++ textsB p.2.2.2.2.2
def primsB (l : List Pr9) : List UInt8 := manyB primB l
def patchB (p : Pt9) : List UInt8 := numB p.1 ++ textB p.2.1 ++ manyB numB p.2.2.1 ++ primsB p.2.2.2
/-! ### reading -/
/-- What is left, and whether it is spoiled. -/
abbrev St9 := List UInt8 × Bool
def numberR (e : UInt8) (s : List UInt8) : Option (Int × Nat) :=
  match (s.take 15).findIdx? (· == e) with
  | some k => if k = 0 then none else (numS (s.take k)).map fun n => (n, k + 1)
  | none => none
def spoil9 (s : St9) : St9 := (s.1, true)
def num9 (e : UInt8) (s : St9) : Option (Int × Nat) := if s.2 = true then none else numberR e s.1
def takeNum (s : St9) : St9 × Int :=
  match num9 59 s with
  | some (n, m) => if -far9 ≤ n ∧ n ≤ far9 then ((s.1.drop m, false), n) else (spoil9 s, 0)
  | none => (spoil9 s, 0)
def takeFlag (s : St9) : St9 × Bool :=
  match num9 59 s with
  | some (n, m) => if n = 0 ∨ n = 1 then ((s.1.drop m, false), decide (n = 1)) else (spoil9 s, false)
  | none => (spoil9 s, false)
def takeText (most : Int) (s : St9) : St9 × ByteArray :=
  match num9 58 s with
  | some (n, m) => if 0 ≤ n ∧ n ≤ most ∧ n < (s.1.length : Int) - m ∧ s.1[m + n.toNat]? = some 44 then ((s.1.drop (m + n.toNat + 1), false), ⟨((s.1.drop m).take n.toNat).toArray⟩) else (spoil9 s, ⟨#[]⟩)
  | none => (spoil9 s, ⟨#[]⟩)
def takeMany {α : Type} (take : St9 → St9 × α) : Nat → St9 → List α → St9 × List α
  | 0, s, out => (s, out)
  | k + 1, s, out => if s.2 = true then (s, out) else takeMany take k (take s).1 (out ++ [(take s).2])
def takeSome {α : Type} (take : St9 → St9 × α) (most : Int) (s : St9) : St9 × List α :=
  if (takeNum s).1.2 = true ∨ (takeNum s).2 < 0 ∨ most < (takeNum s).2 then (spoil9 s, [])
  else if (takeMany take (takeNum s).2.toNat (takeNum s).1 []).1.2 = true then (spoil9 s, []) else takeMany take (takeNum s).2.toNat (takeNum s).1 []
def takeTexts (most each : Int) (s : St9) : St9 × List ByteArray := takeSome (takeText each) most s
/-! ### what is read is what was written -/
theorem number_some {e : UInt8} {s : List UInt8} {n : Int} {m : Nat} (h : numberR e s = some (n, m)) : ∃ r, s = itoa n ++ e :: r ∧ m = (itoa n).length + 1 ∧ (itoa n).length ≤ 14 := by
  unfold numberR at h
  split at h
  · rename_i k hk
    obtain ⟨hk1, hk2, _⟩ := List.findIdx?_eq_some_iff_getElem.1 hk
    rw [List.length_take] at hk1
    have hks : k < s.length := by omega
    split at h
    · cases h
    · obtain ⟨n', hn, he⟩ := Option.map_eq_some_iff.1 h
      cases he
      have h2 := numS_some hn
      have hke : s[k] = e := by simpa using hk2
      refine ⟨s.drop (k + 1), ?_, ?_, ?_⟩
      · rw [h2, ← hke, List.getElem_cons_drop, List.take_append_drop]
      · rw [h2, List.length_take]; omega
      · rw [h2, List.length_take]; omega
  · cases h
theorem itoa_ne (n : Int) : itoa n ≠ [] := by
  unfold itoa
  split
  · simp
  · exact decDigits_ne _
theorem itoa_chars {n : Int} {b : UInt8} (h : b ∈ itoa n) : b = 45 ∨ (48 ≤ b.toNat ∧ b.toNat ≤ 57) := by
  unfold itoa at h
  split at h
  · exact (List.mem_cons.1 h).imp id fun h => decDigits_dig _ b h
  · exact .inr (decDigits_dig _ b h)
theorem number_enc {e : UInt8} {n : Int} {r : List UInt8} (he : e = 58 ∨ e = 59) (hl : (itoa n).length ≤ 14) : numberR e (itoa n ++ e :: r) = some (n, (itoa n).length + 1) := by
  have hne : ∀ b ∈ itoa n, b ≠ e := fun b hb k => by
    subst k
    rcases itoa_chars hb with h | h <;> rcases he with he | he <;> subst he <;> revert h <;> decide
  have hf : ((itoa n ++ e :: r).take 15).findIdx? (· == e) = some (itoa n).length := by
    rw [List.findIdx?_eq_some_iff_getElem]
    refine ⟨by rw [List.length_take, List.length_append, List.length_cons]; omega, ?_, fun j hj => ?_⟩
    · rw [List.getElem_take, List.getElem_append_right (Nat.le_refl _)]; simp
    · rw [List.getElem_take, List.getElem_append_left hj]
      simp [hne _ (List.getElem_mem hj)]
  unfold numberR
  rw [hf]
  dsimp only
  rw [if_neg fun k => itoa_ne n (List.length_eq_zero_iff.1 k), List.take_left, numS_itoa]
  rfl
theorem itoa_len {n : Int} (h : -far9 ≤ n ∧ n ≤ far9) : (itoa n).length ≤ 14 := by
  have hd : ∀ u : Nat, u < 10 ^ 13 → (decDigits u).length ≤ 13 := fun u hu => by
    rw [decDigits_length]
    by_cases h0 : u = 0
    · subst h0; rw [nDigits_small (by decide)]; decide
    · refine Nat.le_of_not_lt fun k => ?_
      have h1 : ∀ (k u : Nat), k + 1 ≤ nDigits u → 10 ^ k ≤ u ∨ k = 0 := fun k => by
        induction k with
        | zero => exact fun _ _ => .inr rfl
        | succ k ih =>
          intro u hu
          by_cases hs : u < 10
          · rw [nDigits_small hs] at hu; omega
          · rw [nDigits_big hs] at hu
            left
            rcases ih (u / 10) (by omega) with g | g
            · rw [Nat.pow_succ]; omega
            · subst g; simp; omega
      have := h1 13 u (by omega)
      omega
  unfold itoa
  have h1 := h.1
  have h2 := h.2
  simp only [far9] at h1 h2
  split
  · rw [List.length_cons]
    have := hd n.natAbs (by simp; omega)
    omega
  · have := hd n.toNat (by simp; omega)
    omega
theorem clamp_far (n : Int) : -far9 ≤ clamp9 n ∧ clamp9 n ≤ far9 := by
  unfold clamp9 far9; omega
theorem clamp_id {n : Int} (h : -far9 ≤ n ∧ n ≤ far9) : clamp9 n = n := by
  unfold clamp9 far9 at *; omega
theorem takeNum_enc {n : Int} (h : -far9 ≤ n ∧ n ≤ far9) (r : List UInt8) : takeNum (numB n ++ r, false) = ((r, false), n) := by
  unfold takeNum num9
  have e : numB n ++ r = itoa n ++ 59 :: r := by unfold numB; rw [clamp_id h]; simp
  rw [e]
  dsimp only
  rw [if_neg (by decide), number_enc (.inr rfl) (itoa_len h)]
  dsimp only
  rw [if_pos h, show (itoa n).length + 1 = (itoa n ++ [59]).length by simp, show itoa n ++ 59 :: r = (itoa n ++ [59]) ++ r by simp, List.drop_left]
theorem takeNum_back {s s' : St9} {n : Int} (h : takeNum s = (s', n)) (hb : s'.2 = false) : s.2 = false ∧ s.1 = numB n ++ s'.1 ∧ -far9 ≤ n ∧ n ≤ far9 := by
  unfold takeNum num9 at h
  by_cases hs : s.2 = true
  · rw [if_pos hs] at h
    cases h; cases hb
  · rw [if_neg hs] at h
    cases hn : numberR 59 s.1 with
    | none => rw [hn] at h; cases h; cases hb
    | some p =>
      obtain ⟨n', m⟩ := p
      rw [hn] at h
      dsimp only at h
      split at h
      · rename_i hf
        cases h
        obtain ⟨r, h1, h2, _⟩ := number_some hn
        refine ⟨by simpa using hs, ?_, hf⟩
        unfold numB
        rw [clamp_id hf, h1, h2, show (itoa n).length + 1 = (itoa n ++ [59]).length by simp, show itoa n ++ 59 :: r = (itoa n ++ [59]) ++ r by simp, List.drop_left]
      · cases h; cases hb
end Go.Proofs.YtmgkeippepeggaaGreatDoor
/- Chapter 09: texts and rows of things: what is read is what was written, and back. -/
namespace Go.Proofs.YtmgkeippepeggaaGreatDoor
open Go Go.Lib
theorem textB_eq (s : ByteArray) (r : List UInt8) : textB s ++ r = itoa s.size ++ 58 :: (s.data.toList ++ 44 :: r) := by
  unfold textB; simp
theorem ba_len (s : ByteArray) : s.data.toList.length = s.size := by rw [Array.length_toList]; rfl
theorem ba_eta (s : ByteArray) : (⟨s.data.toList.toArray⟩ : ByteArray) = s := by simp
theorem takeText_enc {t : ByteArray} {most : Int} (hm : (t.size : Int) ≤ most) (hf : (t.size : Int) ≤ far9) (r : List UInt8) : takeText most (textB t ++ r, false) = ((r, false), t) := by
  unfold takeText num9
  rw [textB_eq]
  dsimp only
  rw [if_neg (by decide), number_enc (.inl rfl) (itoa_len ⟨by unfold far9; omega, hf⟩)]
  dsimp only
  have hd : (itoa t.size ++ 58 :: (t.data.toList ++ 44 :: r)).drop ((itoa t.size).length + 1) = t.data.toList ++ 44 :: r := by
    rw [show (itoa t.size).length + 1 = (itoa t.size ++ [58]).length by simp, show itoa t.size ++ 58 :: (t.data.toList ++ 44 :: r) = (itoa t.size ++ [58]) ++ (t.data.toList ++ 44 :: r) by simp, List.drop_left]
  have hlen : (itoa t.size ++ 58 :: (t.data.toList ++ 44 :: r)).length = (itoa t.size).length + 1 + t.size + 1 + r.length := by
    rw [List.length_append, List.length_cons, List.length_append, List.length_cons, ba_len]; omega
  have h44 : (itoa t.size ++ 58 :: (t.data.toList ++ 44 :: r))[(itoa t.size).length + 1 + t.size]? = some 44 := by
    rw [← List.getElem?_drop, hd, List.getElem?_append_right (by rw [ba_len]; exact Nat.le_refl _), ba_len]; simp
  rw [if_pos ⟨by omega, hm, by rw [hlen]; omega, by rw [show (t.size : Int).toNat = t.size by omega]; exact h44⟩, show (t.size : Int).toNat = t.size by omega, hd]
  refine Prod.ext (Prod.ext ?_ rfl) ?_
  · dsimp only
    rw [show (itoa t.size).length + 1 + t.size + 1 = ((itoa t.size).length + 1) + (t.size + 1) by omega, ← List.drop_drop, hd, show t.data.toList ++ 44 :: r = (t.data.toList ++ [44]) ++ r by simp, show t.size + 1 = (t.data.toList ++ [44]).length by rw [List.length_append, ba_len]; rfl, List.drop_left]
  · dsimp only
    rw [show List.take t.size (t.data.toList ++ 44 :: r) = t.data.toList by rw [← ba_len t]; exact List.take_left]
theorem takeText_back {s s' : St9} {most : Int} {t : ByteArray} (h : takeText most s = (s', t)) (hb : s'.2 = false) : s.2 = false ∧ s.1 = textB t ++ s'.1 ∧ (t.size : Int) ≤ most := by
  unfold takeText num9 at h
  by_cases hs : s.2 = true
  · rw [if_pos hs] at h
    cases h; cases hb
  · rw [if_neg hs] at h
    cases hn : numberR 58 s.1 with
    | none => rw [hn] at h; cases h; cases hb
    | some p =>
      obtain ⟨n, m⟩ := p
      rw [hn] at h
      dsimp only at h
      split at h
      · rename_i hf
        obtain ⟨h0, h1, h2, h3⟩ := hf
        obtain ⟨r, e1, e2, _⟩ := number_some hn
        have hdr : s.1.drop m = r := by rw [e1, e2, show (itoa n).length + 1 = (itoa n ++ [58]).length by simp, show itoa n ++ 58 :: r = (itoa n ++ [58]) ++ r by simp, List.drop_left]
        have hrl : n.toNat < r.length := by
          have : s.1.length = (itoa n).length + 1 + r.length := by rw [e1, List.length_append, List.length_cons]; omega
          omega
        have h44 : r[n.toNat]'hrl = 44 := by
          have k : r[n.toNat]? = some 44 := by rw [← hdr, List.getElem?_drop]; exact h3
          rw [List.getElem?_eq_getElem hrl] at k
          exact Option.some.inj k
        have hd2 : s.1.drop (m + n.toNat + 1) = r.drop (n.toNat + 1) := by rw [← hdr, List.drop_drop]; congr 1
        cases h
        have hsz : (⟨((s.1.drop m).take n.toNat).toArray⟩ : ByteArray).size = n.toNat := by
          show ((s.1.drop m).take n.toNat).toArray.size = _
          rw [List.size_toArray, List.length_take, hdr]; omega
        refine ⟨by simpa using hs, ?_, by rw [hsz]; omega⟩
        rw [textB_eq, hsz, show ((n.toNat : Nat) : Int) = n by omega]
        dsimp only
        rw [hd2, hdr]
        rw [← h44, List.getElem_cons_drop, List.take_append_drop]
        exact e1
      · cases h; cases hb
theorem takeMany_bad {α : Type} (take : St9 → St9 × α) : ∀ (k : Nat) (s : St9) (out : List α), s.2 = true → takeMany take k s out = (s, out)
  | 0, _, _, _ => rfl
  | k + 1, s, out, h => by rw [takeMany, if_pos h]
theorem takeMany_enc {α : Type} {take : St9 → St9 × α} {put : α → List UInt8} {ok : α → Prop} (h : ∀ x r, ok x → take (put x ++ r, false) = ((r, false), x)) : ∀ (l : List α) (r : List UInt8) (out : List α), (∀ x ∈ l, ok x) → takeMany take l.length ((l.map put).flatten ++ r, false) out = ((r, false), out ++ l)
  | [], r, out, _ => by simp [takeMany]
  | x :: l, r, out, hl => by
    rw [List.length_cons, takeMany, if_neg (by simp), List.map_cons, List.flatten_cons, List.append_assoc, h x _ (hl x (by simp))]
    dsimp only
    rw [takeMany_enc h l r _ fun y hy => hl y (List.mem_cons_of_mem _ hy)]
    simp
theorem takeSome_enc {α : Type} {take : St9 → St9 × α} {put : α → List UInt8} {ok : α → Prop} (h : ∀ x r, ok x → take (put x ++ r, false) = ((r, false), x)) {l : List α} {most : Int} (hm : (l.length : Int) ≤ most) (hf : (l.length : Int) ≤ far9) (hl : ∀ x ∈ l, ok x) (r : List UInt8) : takeSome take most (manyB put l ++ r, false) = ((r, false), l) := by
  unfold takeSome manyB
  rw [List.append_assoc, takeNum_enc ⟨by unfold far9; omega, hf⟩]
  dsimp only
  rw [if_neg (by simp; omega), show ((l.length : Nat) : Int).toNat = l.length by omega, takeMany_enc h l r [] hl]
  simp
theorem takeMany_back {α : Type} {take : St9 → St9 × α} {put : α → List UInt8} {ok : α → Prop} (h : ∀ s s' x, take s = (s', x) → s'.2 = false → s.2 = false ∧ s.1 = put x ++ s'.1 ∧ ok x) : ∀ (k : Nat) (s s' : St9) (out out' : List α), takeMany take k s out = (s', out') → s'.2 = false → ∃ l, out' = out ++ l ∧ l.length = k ∧ s.1 = (l.map put).flatten ++ s'.1 ∧ ∀ x ∈ l, ok x
  | 0, s, s', out, out', e, _ => by
    cases e
    exact ⟨[], by simp, rfl, by simp, fun _ h => by cases h⟩
  | k + 1, s, s', out, out', e, hb => by
    rw [takeMany] at e
    by_cases hs : s.2 = true
    · rw [if_pos hs] at e
      cases e
      rw [hs] at hb; cases hb
    · rw [if_neg hs] at e
      obtain ⟨l, h1, h2, h3, h4⟩ := takeMany_back h k _ _ _ _ e hb
      have hb1 : (take s).1.2 = false := by
        cases q : (take s).1.2 with
        | false => rfl
        | true =>
          rw [takeMany_bad take k _ _ q] at e
          cases e
          rw [q] at hb; cases hb
      obtain ⟨_, g2, g3⟩ := h s (take s).1 (take s).2 rfl hb1
      refine ⟨(take s).2 :: l, by rw [h1]; simp, by rw [List.length_cons, h2], ?_, fun x hx => (List.mem_cons.1 hx).elim (fun q => q ▸ g3) (h4 x)⟩
      rw [g2, h3, List.map_cons, List.flatten_cons, List.append_assoc]
theorem takeSome_back {α : Type} {take : St9 → St9 × α} {put : α → List UInt8} {ok : α → Prop} (h : ∀ s s' x, take s = (s', x) → s'.2 = false → s.2 = false ∧ s.1 = put x ++ s'.1 ∧ ok x) {s s' : St9} {most : Int} {l : List α} (e : takeSome take most s = (s', l)) (hb : s'.2 = false) : s.2 = false ∧ s.1 = manyB put l ++ s'.1 ∧ (l.length : Int) ≤ most ∧ ∀ x ∈ l, ok x := by
  unfold takeSome at e
  split at e
  · cases e; cases hb
  · rename_i h1
    split at e
    · cases e; cases hb
    · have hnb : (takeNum s).1.2 = false := by
        cases q : (takeNum s).1.2 with
        | false => rfl
        | true => exact absurd (.inl q) h1
      obtain ⟨a1, a2, _⟩ := takeNum_back (s := s) (s' := (takeNum s).1) (n := (takeNum s).2) rfl hnb
      obtain ⟨l', b1, b2, b3, b4⟩ := takeMany_back h _ _ _ _ _ e hb
      rw [List.nil_append] at b1
      subst b1
      have hn0 : ¬ (takeNum s).2 < 0 := fun q => h1 (.inr (.inl q))
      have hnm : ¬ most < (takeNum s).2 := fun q => h1 (.inr (.inr q))
      refine ⟨a1, ?_, by omega, b4⟩
      unfold manyB
      rw [a2, b3, b2, show (((takeNum s).2.toNat : Nat) : Int) = (takeNum s).2 by omega, List.append_assoc]
end Go.Proofs.YtmgkeippepeggaaGreatDoor
/- Chapter 09: changes and patches: what is read is what was written, and back. -/
namespace Go.Proofs.YtmgkeippepeggaaGreatDoor
open Go Go.Lib
theorem textB_pos (t : ByteArray) : 0 < (textB t).length := by unfold textB; simp only [List.length_append, List.length_cons]; omega
/-! ### a limit that is no limit -/
theorem takeNum_less {s s' : St9} {n : Int} (h : takeNum s = (s', n)) (hb : s'.2 = false) : s'.1.length < s.1.length := by
  obtain ⟨_, e, _⟩ := takeNum_back h hb
  rw [e, List.length_append]
  have : 0 < (numB n).length := by unfold numB; simp
  omega
theorem takeText_less {s s' : St9} {m : Int} {t : ByteArray} (h : takeText m s = (s', t)) (hb : s'.2 = false) : s'.1.length < s.1.length := by
  obtain ⟨_, e, _⟩ := takeText_back h hb
  rw [e, List.length_append]
  have := textB_pos t
  omega
theorem takeMany_short {α : Type} {take : St9 → St9 × α} (h : ∀ s s' x, take s = (s', x) → s'.2 = false → s'.1.length < s.1.length) : ∀ (k : Nat) (s : St9) (out : List α), (takeMany take k s out).1.2 = false → k + (takeMany take k s out).1.1.length ≤ s.1.length
  | 0, s, out, _ => by rw [takeMany, Nat.zero_add]; exact Nat.le_refl _
  | k + 1, s, out, hb => by
    rw [takeMany] at hb ⊢
    by_cases hs : s.2 = true
    · rw [if_pos hs] at hb
      rw [hs] at hb; cases hb
    · rw [if_neg hs] at hb ⊢
      have h1 := takeMany_short h k _ _ hb
      have hb1 : (take s).1.2 = false := by
        cases q : (take s).1.2 with
        | false => rfl
        | true => rw [takeMany_bad take k _ _ q, q] at hb; cases hb
      have h2 := h s (take s).1 (take s).2 rfl hb1
      omega
theorem takeSome_most {α : Type} {take : St9 → St9 × α} (h : ∀ s s' x, take s = (s', x) → s'.2 = false → s'.1.length < s.1.length) {m1 m2 : Int} {s : St9} (h1 : (s.1.length : Int) ≤ m1) (h2 : (s.1.length : Int) ≤ m2) : takeSome take m1 s = takeSome take m2 s := by
  have hx : ∀ m : Int, (s.1.length : Int) ≤ m → takeSome take m s = if (takeNum s).1.2 = true ∨ (takeNum s).2 < 0 ∨ (takeMany take (takeNum s).2.toNat (takeNum s).1 []).1.2 = true then (spoil9 s, []) else takeMany take (takeNum s).2.toNat (takeNum s).1 [] := fun m hm => by
    unfold takeSome
    by_cases a : (takeNum s).1.2 = true
    · rw [if_pos (.inl a), if_pos (.inl a)]
    · have ab : (takeNum s).1.2 = false := by simpa using a
      have al := takeNum_less (s := s) (s' := (takeNum s).1) (n := (takeNum s).2) rfl ab
      by_cases b : (takeNum s).2 < 0
      · rw [if_pos (.inr (.inl b)), if_pos (.inr (.inl b))]
      · by_cases c : (takeMany take (takeNum s).2.toNat (takeNum s).1 []).1.2 = true
        · rw [if_pos (c := _ ∨ _ ∨ (takeMany take (takeNum s).2.toNat (takeNum s).1 []).1.2 = true) (.inr (.inr c))]
          split
          · rfl
          · first | rfl | rw [if_pos c]
        · have cb : (takeMany take (takeNum s).2.toNat (takeNum s).1 []).1.2 = false := by simpa using c
          have := takeMany_short h _ _ _ cb
          rw [if_neg (by rintro (q | q | q); exact a q; exact b q; omega), if_neg c, if_neg (by rintro (q | q | q); exact a q; exact b q; exact c q)]
  rw [hx m1 h1, hx m2 h2]
theorem takeSome_less {α : Type} {take : St9 → St9 × α} (h : ∀ s s' x, take s = (s', x) → s'.2 = false → s'.1.length < s.1.length) {m : Int} {s s' : St9} {l : List α} (e : takeSome take m s = (s', l)) (hb : s'.2 = false) : s'.1.length < s.1.length := by
  unfold takeSome at e
  split at e
  · cases e; cases hb
  · rename_i h1
    split at e
    · cases e; cases hb
    · have ab : (takeNum s).1.2 = false := by
        cases q : (takeNum s).1.2 with
        | false => rfl
        | true => exact absurd (.inl q) h1
      have al := takeNum_less (s := s) (s' := (takeNum s).1) (n := (takeNum s).2) rfl ab
      have := takeMany_short h (takeNum s).2.toNat (takeNum s).1 [] (by rw [e]; exact hb)
      rw [e] at this
      dsimp only at this
      omega
/-! ### what may be -/
def charP (b : UInt8) : Bool := (97 ≤ b.toNat && b.toNat ≤ 122) || (48 ≤ b.toNat && b.toNat ≤ 57) || b.toNat = 46 || b.toNat = 45 || b.toNat = 95 || b.toNat = 47
def namedP (s : ByteArray) : Bool := decide (1 ≤ s.size) && decide (s.size ≤ 24) && s.data.toList.all charP
def lineP (s : ByteArray) : Bool := decide (s.size ≤ 60) && s.data.toList.all fun b => decide (b ≠ 10)
def bareP (p : Pr9) : Bool := decide (p.2.2.2.1 = 0) && decide (p.2.2.2.2.1.length = 0) && decide (p.2.2.2.2.2.length = 0)
def rightP (p : Pr9) : Bool := namedP p.2.1 &&
  if p.1 = 0 then decide (p.2.2.1.size = 0) && decide (0 ≤ p.2.2.2.1) && decide (p.2.2.2.1 ≤ 1048576) && p.2.2.2.2.1.all lineP && p.2.2.2.2.2.all lineP && decide (p.2.2.2.2.1 ≠ p.2.2.2.2.2)
  else if p.1 = 3 then bareP p && namedP p.2.2.1 && decide (p.2.2.1 ≠ p.2.1)
  else bareP p && decide (p.2.2.1.size = 0) && (decide (p.1 = 1) || decide (p.1 = 2))
def depsP (id : Int) : Int → List Int → Bool
  | _, [] => true
  | last, n :: l => decide (last < n) && decide (n ≤ 1000000000) && decide (n ≠ id) && depsP id n l
def rightT (p : Pt9) : Bool := decide (1 ≤ p.1) && decide (p.1 ≤ 1000000000) && lineP p.2.1 && decide (p.2.2.1.length ≤ 8) && depsP p.1 0 p.2.2.1 && decide (1 ≤ p.2.2.2.length) && decide (p.2.2.2.length ≤ 24) && p.2.2.2.all rightP
def pr0 : Pr9 := (0, ⟨#[]⟩, ⟨#[]⟩, 0, [], [])
def pt0 : Pt9 := (0, ⟨#[]⟩, [], [])
/-! ### changes -/
/-- A change, as it is; of its lines no more than 'many' of what is left. -/
def rawPrim (s : St9) : St9 × Pr9 :=
  let a := takeNum s
  let b := takeText 24 a.1
  let c := takeText 24 b.1
  let d := takeNum c.1
  let e := takeTexts d.1.1.length 60 d.1
  let f := takeTexts e.1.1.length 60 e.1
  (f.1, (a.2, b.2, c.2, d.2, e.2, f.2))
def takePrim (s : St9) : St9 × Pr9 := if (rawPrim s).1.2 = true ∨ rightP (rawPrim s).2 = false then (spoil9 s, pr0) else rawPrim s
def takePrims (most : Int) (s : St9) : St9 × List Pr9 := takeSome takePrim most s
def rawPatch (s : St9) : St9 × Pt9 :=
  let a := takeNum s
  let b := takeText 60 a.1
  let c := takeSome takeNum 8 b.1
  let d := takePrims 24 c.1
  (d.1, (a.2, b.2, c.2, d.2))
def takePatch (s : St9) : St9 × Pt9 := if (rawPatch s).1.2 = true ∨ rightT (rawPatch s).2 = false then (spoil9 s, pt0) else rawPatch s
theorem flat_len {l : List ByteArray} : l.length ≤ ((l.map textB).flatten).length := by
  induction l with
  | nil => simp
  | cons x l ih =>
    rw [List.map_cons, List.flatten_cons, List.length_append, List.length_cons]
    have := textB_pos x
    omega
theorem texts_len {l : List ByteArray} {r : List UInt8} : l.length ≤ (textsB l ++ r).length := by
  unfold textsB manyB
  rw [List.length_append, List.length_append]
  have := flat_len (l := l)
  omega
/-- Sizes at which a change can be written and read. -/
def FitP (p : Pr9) : Prop := (p.2.2.2.2.1.length : Int) ≤ far9 ∧ (p.2.2.2.2.2.length : Int) ≤ far9
theorem rightP_parts {p : Pr9} (h : rightP p = true) : (-far9 ≤ p.1 ∧ p.1 ≤ far9) ∧ p.2.1.size ≤ 24 ∧ p.2.2.1.size ≤ 24 ∧ (-far9 ≤ p.2.2.2.1 ∧ p.2.2.2.1 ≤ far9) ∧ (∀ x ∈ p.2.2.2.2.1, x.size ≤ 60) ∧ ∀ x ∈ p.2.2.2.2.2, x.size ≤ 60 := by
  obtain ⟨k, n, t, a, o, w⟩ := p
  unfold rightP at h
  simp only [Bool.and_eq_true, namedP, decide_eq_true_eq] at h
  obtain ⟨⟨⟨_, h24⟩, _⟩, h⟩ := h
  have hl : ∀ x : ByteArray, lineP x = true → x.size ≤ 60 := fun x hx => by
    unfold lineP at hx
    simp only [Bool.and_eq_true, decide_eq_true_eq] at hx
    exact hx.1
  unfold far9
  dsimp only at h h24 ⊢
  split at h
  · simp only [Bool.and_eq_true, decide_eq_true_eq, List.all_eq_true] at h
    obtain ⟨⟨⟨⟨⟨h1, h2⟩, h3⟩, h4⟩, h5⟩, _⟩ := h
    exact ⟨by omega, h24, by omega, by omega, fun x hx => hl x (h4 x hx), fun x hx => hl x (h5 x hx)⟩
  · split at h
    · simp only [bareP, Bool.and_eq_true, decide_eq_true_eq] at h
      obtain ⟨⟨⟨⟨h1, h2⟩, h3⟩, ⟨⟨_, h4⟩, _⟩⟩, _⟩ := h
      rw [List.length_eq_zero_iff.1 h2, List.length_eq_zero_iff.1 h3]
      exact ⟨by omega, h24, h4, by omega, (fun _ k => by cases k), fun _ k => by cases k⟩
    · simp only [bareP, Bool.and_eq_true, Bool.or_eq_true, decide_eq_true_eq] at h
      obtain ⟨⟨⟨⟨h1, h2⟩, h3⟩, h4⟩, h5⟩ := h
      rw [List.length_eq_zero_iff.1 h2, List.length_eq_zero_iff.1 h3]
      exact ⟨by omega, h24, by omega, by omega, (fun _ k => by cases k), fun _ k => by cases k⟩
theorem takePrim_enc {p : Pr9} (hr : rightP p = true) (hf : FitP p) (r : List UInt8) : takePrim (primB p ++ r, false) = ((r, false), p) := by
  obtain ⟨h1, h2, h3, h4, h5, h6⟩ := rightP_parts hr
  obtain ⟨k, n, t, a, o, w⟩ := p
  have hraw : rawPrim (primB (k, n, t, a, o, w) ++ r, false) = ((r, false), (k, n, t, a, o, w)) := by
    unfold rawPrim primB
    dsimp only at h1 h2 h3 h4 h5 h6 ⊢
    simp only [List.append_assoc]
    rw [takeNum_enc h1]
    dsimp only
    rw [takeText_enc (by omega) (by unfold far9; omega)]
    dsimp only
    rw [takeText_enc (by omega) (by unfold far9; omega)]
    dsimp only
    rw [takeNum_enc h4]
    dsimp only
    have ht : ∀ (x : ByteArray) (r : List UInt8), x.size ≤ 60 → takeText 60 (textB x ++ r, false) = ((r, false), x) := fun x r hx => takeText_enc (by omega) (by unfold far9; omega) r
    have e1 : takeTexts (textsB o ++ (textsB w ++ r)).length 60 (textsB o ++ (textsB w ++ r), false) = ((textsB w ++ r, false), o) := takeSome_enc (l := o) ht (by have := texts_len (l := o) (r := textsB w ++ r); omega) hf.1 h5 _
    rw [e1]
    dsimp only
    have e2 : takeTexts (textsB w ++ r).length 60 (textsB w ++ r, false) = ((r, false), w) := takeSome_enc (l := w) ht (by have := texts_len (l := w) (r := r); omega) hf.2 h6 _
    rw [e2]
  unfold takePrim
  rw [hraw]
  dsimp only
  rw [if_neg (by rw [hr]; simp)]
theorem takePrim_back {s s' : St9} {p : Pr9} (h : takePrim s = (s', p)) (hb : s'.2 = false) : s.2 = false ∧ s.1 = primB p ++ s'.1 ∧ rightP p = true := by
  unfold takePrim at h
  split at h
  · cases h; cases hb
  · rename_i hc
    have hr : rightP (rawPrim s).2 = true := by
      cases q : rightP (rawPrim s).2 with
      | true => rfl
      | false => exact absurd (.inr q) hc
    rw [h] at hr
    have hf : s' = (rawPrim s).1 := by rw [h]
    refine (fun (k : s.2 = false ∧ s.1 = primB p ++ s'.1) => ⟨k.1, k.2, hr⟩) ?_
    unfold rawPrim at h
    dsimp only at h
    generalize ha : takeNum s = a at h
    obtain ⟨a1, a2⟩ := a
    generalize hbt : takeText 24 a1 = b at h
    obtain ⟨b1, b2⟩ := b
    generalize hct : takeText 24 b1 = c at h
    obtain ⟨c1, c2⟩ := c
    generalize hd : takeNum c1 = d at h
    obtain ⟨d1, d2⟩ := d
    dsimp only at h
    generalize he : takeTexts d1.1.length 60 d1 = e at h
    obtain ⟨e1, e2⟩ := e
    dsimp only at h
    generalize hf : takeTexts e1.1.length 60 e1 = f at h
    obtain ⟨f1, f2⟩ := f
    dsimp only at h
    cases h
    have ht : ∀ (s s' : St9) (x : ByteArray), takeText 60 s = (s', x) → s'.2 = false → s.2 = false ∧ s.1 = textB x ++ s'.1 ∧ True := fun s s' x q qb => by
      obtain ⟨q1, q2, _⟩ := takeText_back q qb
      exact ⟨q1, q2, trivial⟩
    obtain ⟨f3, f4, _⟩ := takeSome_back ht hf hb
    obtain ⟨e3, e4, _⟩ := takeSome_back ht he f3
    obtain ⟨d3, d4, _⟩ := takeNum_back hd e3
    obtain ⟨c3, c4, _⟩ := takeText_back hct d3
    obtain ⟨b3, b4, _⟩ := takeText_back hbt c3
    obtain ⟨a3, a4, _⟩ := takeNum_back ha b3
    refine ⟨a3, ?_⟩
    unfold primB textsB
    dsimp only
    rw [a4, b4, c4, d4, e4, f4]
    simp only [List.append_assoc]
theorem takePrim_less {s s' : St9} {p : Pr9} (h : takePrim s = (s', p)) (hb : s'.2 = false) : s'.1.length < s.1.length := by
  obtain ⟨_, e, _⟩ := takePrim_back h hb
  rw [e, List.length_append]
  have : 0 < (primB p).length := by unfold primB numB; simp only [List.length_append, List.length_cons]; omega
  omega
/-! ### patches -/
def FitT (p : Pt9) : Prop := ∀ x ∈ p.2.2.2, FitP x
theorem depsP_far {id : Int} : ∀ {last : Int} {l : List Int}, 0 ≤ last → depsP id last l = true → ∀ x ∈ l, -far9 ≤ x ∧ x ≤ far9
  | _, [], _, _ => fun _ h => by cases h
  | last, n :: l, h0, h => by
    unfold depsP at h
    simp only [Bool.and_eq_true, decide_eq_true_eq] at h
    obtain ⟨⟨⟨h1, h2⟩, _⟩, h3⟩ := h
    intro x hx
    rcases List.mem_cons.1 hx with rfl | hx
    · unfold far9; omega
    · exact depsP_far (by omega) h3 x hx
theorem takePatch_enc {p : Pt9} (hr : rightT p = true) (hf : FitT p) (r : List UInt8) : takePatch (patchB p ++ r, false) = ((r, false), p) := by
  have hr' := hr
  unfold rightT at hr'
  simp only [Bool.and_eq_true, decide_eq_true_eq, List.all_eq_true] at hr'
  obtain ⟨⟨⟨⟨⟨⟨⟨h1, h2⟩, h3⟩, h4⟩, h5⟩, h6⟩, h7⟩, h8⟩ := hr'
  have h3' : p.2.1.size ≤ 60 := by
    unfold lineP at h3
    simp only [Bool.and_eq_true, decide_eq_true_eq] at h3
    exact h3.1
  have hd := depsP_far (by decide) h5
  obtain ⟨i, n, d, l⟩ := p
  have hraw : rawPatch (patchB (i, n, d, l) ++ r, false) = ((r, false), (i, n, d, l)) := by
    unfold rawPatch patchB
    dsimp only at h1 h2 h3' h4 h6 h7 h8 hd ⊢
    simp only [List.append_assoc]
    rw [takeNum_enc (by unfold far9; omega)]
    dsimp only
    rw [takeText_enc (by omega) (by unfold far9; omega)]
    dsimp only
    have e1 : takeSome takeNum 8 (manyB numB d ++ (primsB l ++ r), false) = ((primsB l ++ r, false), d) := takeSome_enc (ok := fun n => -far9 ≤ n ∧ n ≤ far9) (fun x r hx => takeNum_enc hx r) (by omega) (by unfold far9; omega) hd _
    rw [e1]
    dsimp only
    have e2 : takePrims 24 (primsB l ++ r, false) = ((r, false), l) := takeSome_enc (ok := fun p => rightP p = true ∧ FitP p) (fun x r hx => takePrim_enc hx.1 hx.2 r) (by omega) (by unfold far9; omega) (fun x hx => ⟨h8 x hx, hf x hx⟩) _
    rw [e2]
  unfold takePatch
  rw [hraw]
  dsimp only
  rw [if_neg (by rw [hr]; simp)]
theorem takePatch_back {s s' : St9} {p : Pt9} (h : takePatch s = (s', p)) (hb : s'.2 = false) : s.2 = false ∧ s.1 = patchB p ++ s'.1 ∧ rightT p = true := by
  unfold takePatch at h
  split at h
  · cases h; cases hb
  · rename_i hc
    have hr : rightT (rawPatch s).2 = true := by
      cases q : rightT (rawPatch s).2 with
      | true => rfl
      | false => exact absurd (.inr q) hc
    rw [h] at hr
    refine (fun (k : s.2 = false ∧ s.1 = patchB p ++ s'.1) => ⟨k.1, k.2, hr⟩) ?_
    unfold rawPatch at h
    dsimp only at h
    generalize ha : takeNum s = a at h
    obtain ⟨a1, a2⟩ := a
    generalize hbt : takeText 60 a1 = b at h
    obtain ⟨b1, b2⟩ := b
    dsimp only at h
    generalize hct : takeSome takeNum 8 b1 = c at h
    obtain ⟨c1, c2⟩ := c
    dsimp only at h
    generalize hd : takePrims 24 c1 = d at h
    obtain ⟨d1, d2⟩ := d
    dsimp only at h
    cases h
    obtain ⟨d3, d4, _⟩ := takeSome_back (put := primB) (ok := fun p => rightP p = true) (fun s s' x q qb => takePrim_back q qb) hd hb
    obtain ⟨c3, c4, _⟩ := takeSome_back (put := numB) (ok := fun _ => True) (fun s s' x q qb => by obtain ⟨q1, q2, _⟩ := takeNum_back q qb; exact ⟨q1, q2, trivial⟩) hct d3
    obtain ⟨b3, b4, _⟩ := takeText_back hbt c3
    obtain ⟨a3, a4, _⟩ := takeNum_back ha b3
    refine ⟨a3, ?_⟩
    unfold patchB primsB
    dsimp only
    rw [a4, b4, c4, d4]
    simp only [List.append_assoc]
end Go.Proofs.YtmgkeippepeggaaGreatDoor
/- Chapter 09: what is left is an end of what was there; a number, as the document looks for it. -/
namespace Go.Proofs.YtmgkeippepeggaaGreatDoor
open Go Go.Lib
/-- What is left behind a reading is an end of what was left ahead of it. -/
def GoesP {α : Type} (take : St9 → St9 × α) : Prop := ∀ s, ∃ j, j ≤ s.1.length ∧ (take s).1.1 = s.1.drop j
theorem goes_num : GoesP takeNum := fun s => by
  unfold takeNum
  cases hn : num9 59 s with
  | none => exact ⟨0, Nat.zero_le _, rfl⟩
  | some p =>
    obtain ⟨n, m⟩ := p
    dsimp only
    split
    · unfold num9 at hn
      split at hn
      · cases hn
      · obtain ⟨r, h1, h2, _⟩ := number_some hn
        exact ⟨m, by rw [h1, h2, List.length_append, List.length_cons]; omega, rfl⟩
    · exact ⟨0, Nat.zero_le _, rfl⟩
theorem goes_flag : GoesP takeFlag := fun s => by
  unfold takeFlag
  cases hn : num9 59 s with
  | none => exact ⟨0, Nat.zero_le _, rfl⟩
  | some p =>
    obtain ⟨n, m⟩ := p
    dsimp only
    split
    · unfold num9 at hn
      split at hn
      · cases hn
      · obtain ⟨r, h1, h2, _⟩ := number_some hn
        exact ⟨m, by rw [h1, h2, List.length_append, List.length_cons]; omega, rfl⟩
    · exact ⟨0, Nat.zero_le _, rfl⟩
theorem goes_text (most : Int) : GoesP (takeText most) := fun s => by
  unfold takeText
  cases hn : num9 58 s with
  | none => exact ⟨0, Nat.zero_le _, rfl⟩
  | some p =>
    obtain ⟨n, m⟩ := p
    dsimp only
    split
    · rename_i h
      exact ⟨m + n.toNat + 1, by omega, rfl⟩
    · exact ⟨0, Nat.zero_le _, rfl⟩
theorem drop_drop {l l' : List UInt8} {j k : Nat} (hj : j ≤ l.length) (e : l' = l.drop j) (hk : k ≤ l'.length) : j + k ≤ l.length ∧ l'.drop k = l.drop (j + k) := by
  subst e
  rw [List.length_drop] at hk
  exact ⟨by omega, by rw [List.drop_drop]⟩
theorem goes_many {α : Type} {take : St9 → St9 × α} (h : GoesP take) : ∀ (k : Nat) (s : St9) (out : List α), ∃ j, j ≤ s.1.length ∧ (takeMany take k s out).1.1 = s.1.drop j
  | 0, s, _ => ⟨0, Nat.zero_le _, rfl⟩
  | k + 1, s, out => by
    rw [takeMany]
    split
    · exact ⟨0, Nat.zero_le _, rfl⟩
    · obtain ⟨j, h1, h2⟩ := h s
      obtain ⟨i, h3, h4⟩ := goes_many h k (take s).1 (out ++ [(take s).2])
      obtain ⟨h5, h6⟩ := drop_drop h1 h2 h3
      exact ⟨j + i, h5, h4.trans h6⟩
theorem goes_some {α : Type} {take : St9 → St9 × α} (h : GoesP take) (most : Int) : GoesP (takeSome take most) := fun s => by
  unfold takeSome
  split
  · exact ⟨0, Nat.zero_le _, rfl⟩
  · split
    · exact ⟨0, Nat.zero_le _, rfl⟩
    · obtain ⟨j, h1, h2⟩ := goes_num s
      obtain ⟨i, h3, h4⟩ := goes_many h (takeNum s).2.toNat (takeNum s).1 []
      obtain ⟨h5, h6⟩ := drop_drop h1 h2 h3
      exact ⟨j + i, h5, h4.trans h6⟩
theorem goes_trans {α β : Type} {s : St9} {a : St9 × α} {b : St9 × β} (h1 : ∃ j, j ≤ s.1.length ∧ a.1.1 = s.1.drop j) (h2 : ∃ j, j ≤ a.1.1.length ∧ b.1.1 = a.1.1.drop j) : ∃ j, j ≤ s.1.length ∧ b.1.1 = s.1.drop j := by
  obtain ⟨j, h3, h4⟩ := h1
  obtain ⟨i, h5, h6⟩ := h2
  obtain ⟨h7, h8⟩ := drop_drop h3 h4 h5
  exact ⟨j + i, h7, h6.trans h8⟩
theorem goes_raw : GoesP rawPrim := fun s => by
  have h1 := goes_num s
  have h2 := goes_trans h1 (goes_text 24 (takeNum s).1)
  have h3 := goes_trans h2 (goes_text 24 (takeText 24 (takeNum s).1).1)
  have h4 := goes_trans h3 (goes_num (takeText 24 (takeText 24 (takeNum s).1).1).1)
  have h5 := goes_trans h4 (goes_some (goes_text 60) (takeNum (takeText 24 (takeText 24 (takeNum s).1).1).1).1.1.length _)
  exact goes_trans h5 (goes_some (goes_text 60) _ _)
theorem goes_prim : GoesP takePrim := fun s => by
  unfold takePrim
  split
  · exact ⟨0, Nat.zero_le _, rfl⟩
  · exact goes_raw s
theorem goes_rawT : GoesP rawPatch := fun s => by
  have h1 := goes_num s
  have h2 := goes_trans h1 (goes_text 60 (takeNum s).1)
  have h3 := goes_trans h2 (goes_some goes_num 8 (takeText 60 (takeNum s).1).1)
  exact goes_trans h3 (goes_some goes_prim 24 _)
theorem goes_patch : GoesP takePatch := fun s => by
  unfold takePatch
  split
  · exact ⟨0, Nat.zero_le _, rfl⟩
  · exact goes_rawT s
/-- The document looks for the end in all that is left. -/
theorem numberR_full (e : UInt8) (s : List UInt8) : numberR e s = match s.findIdx? (· == e) with
    | some k => if k = 0 ∨ 14 < k then none else (numS (s.take k)).map fun n => (n, k + 1)
    | none => none := by
  unfold numberR
  cases h : s.findIdx? (· == e) with
  | none =>
    have : (s.take 15).findIdx? (· == e) = none := by
      rw [List.findIdx?_eq_none_iff] at h ⊢
      exact fun x hx => h x (List.mem_of_mem_take hx)
    rw [this]
  | some k =>
    obtain ⟨h1, h2, h3⟩ := List.findIdx?_eq_some_iff_getElem.1 h
    by_cases hk : k < 15
    · have : (s.take 15).findIdx? (· == e) = some k := by
        rw [List.findIdx?_eq_some_iff_getElem]
        refine ⟨by rw [List.length_take]; omega, by rw [List.getElem_take]; exact h2, fun j hj => ?_⟩
        rw [List.getElem_take]; exact h3 j hj
      rw [this]
      dsimp only
      by_cases h0 : k = 0
      · rw [if_pos h0, if_pos (.inl h0)]
      · rw [if_neg h0, if_neg (by omega)]
    · have : (s.take 15).findIdx? (· == e) = none := by
        rw [List.findIdx?_eq_none_iff]
        intro x hx
        obtain ⟨j, hj, rfl⟩ := List.mem_iff_getElem.1 hx
        rw [List.length_take] at hj
        rw [List.getElem_take]
        simpa using h3 j (by omega)
      rw [this]
      dsimp only
      rw [if_pos (.inr (by omega))]
end Go.Proofs.YtmgkeippepeggaaGreatDoor
/- Chapter 09: bytes as a string. -/
namespace Go.Proofs.YtmgkeippepeggaaGreatDoor
open Go Go.Lib
def sB (l : List UInt8) : ByteArray := ⟨l.toArray⟩
theorem sB_list (l : List UInt8) : (sB l).data.toList = l := by simp [sB]
theorem sB_size (l : List UInt8) : (sB l).size = l.length := by rw [← ba_len, sB_list]
theorem sB_of (s : ByteArray) : sB s.data.toList = s := ba_eta s
theorem sB_inj {a b : List UInt8} (h : sB a = sB b) : a = b := by rw [← sB_list a, h, sB_list]
theorem sB_app (a b : List UInt8) : sB a ++ sB b = sB (a ++ b) := by
  apply ByteArray.ext
  rw [ByteArray.data_append]
  apply Array.ext'
  rw [Array.toList_append]
  show (sB a).data.toList ++ (sB b).data.toList = (sB (a ++ b)).data.toList
  rw [sB_list, sB_list, sB_list]
theorem sB_text (s : ByteArray) : sB (textB s) = sB (itoa s.size) ++ sB [58] ++ s ++ sB [44] := by
  unfold textB
  rw [← sB_app, ← sB_app, ← sB_app, sB_of]
theorem flag_eq (b : Bool) : flagB b = if b then [49, 59] else [48, 59] := by cases b <;> decide +kernel
/-- A row's things, written up to some place. -/
theorem flat_next {α : Type} (put : α → List UInt8) {l : List α} {k : Nat} (hk : k < l.length) : ((l.take (k + 1)).map put).flatten = ((l.take k).map put).flatten ++ put l[k] := by
  rw [List.take_succ_eq_append_getElem hk, List.map_append, List.flatten_append]
  simp
end Go.Proofs.YtmgkeippepeggaaGreatDoor
namespace Go.Proofs.YtmgkeippepeggaaGreatDoor
open Go Go.SL
theorem ti0 : TI Tryz.prog 0 (.tuple #[]) 1 0 := ti_of (by kernel_rfl)
theorem ti1 : TI Tryz.prog 1 (.nilFunc) 1 8 := ti_of (by kernel_rfl)
theorem ti2 : TI Tryz.prog 2 (.int .i64 0) 1 8 := ti_of (by kernel_rfl)
theorem ti3 : TI Tryz.prog 3 (.int .i64 0) 1 8 := ti_of (by kernel_rfl)
theorem ti4 : TI Tryz.prog 4 (.bool false) 1 1 := ti_of (by kernel_rfl)
theorem ti5 : TI Tryz.prog 5 (.int .u8 0) 1 1 := ti_of (by kernel_rfl)
theorem ti6 : TI Tryz.prog 6 (.int .u8 0) 1 1 := ti_of (by kernel_rfl)
theorem ti7 : TI Tryz.prog 7 (.agg #[.int .i64 0, .int .i64 0, .bool false, .int .u8 0]) 4 24 := ti_of (by kernel_rfl)
theorem ti8 : TI Tryz.prog 8 (.agg #[.int .i64 0, .int .i64 0, .bool false, .int .u8 0]) 4 24 := ti_of (by kernel_rfl)
theorem ti9 : TI Tryz.prog 9 (.string ⟨#[]⟩) 1 16 := ti_of (by kernel_rfl)
theorem ti10 : TI Tryz.prog 10 (.string ⟨#[]⟩) 1 16 := ti_of (by kernel_rfl)
theorem ti11 : TI Tryz.prog 11 (.string ⟨#[]⟩) 1 16 := ti_of (by kernel_rfl)
theorem ti12 : TI Tryz.prog 12 (.int .u64 0) 1 8 := ti_of (by kernel_rfl)
theorem ti13 : TI Tryz.prog 13 (.agg #[.string ⟨#[]⟩, .int .u64 0]) 2 24 := ti_of (by kernel_rfl)
theorem ti14 : TI Tryz.prog 14 (.agg #[.string ⟨#[]⟩, .int .u64 0]) 2 24 := ti_of (by kernel_rfl)
theorem ti15 : TI Tryz.prog 15 (.pointer none) 1 8 := ti_of (by kernel_rfl)
theorem ti16 : TI Tryz.prog 16 (.pointer none) 1 8 := ti_of (by kernel_rfl)
theorem ti17 : TI Tryz.prog 17 (.pointer none) 1 8 := ti_of (by kernel_rfl)
theorem ti18 : TI Tryz.prog 18 (.agg #[.pointer none]) 1 8 := ti_of (by kernel_rfl)
theorem ti19 : TI Tryz.prog 19 (.agg #[.pointer none]) 1 8 := ti_of (by kernel_rfl)
theorem ti20 : TI Tryz.prog 20 (.nilIface) 1 16 := ti_of (by kernel_rfl)
theorem ti21 : TI Tryz.prog 21 (.int .i32 0) 1 4 := ti_of (by kernel_rfl)
theorem ti22 : TI Tryz.prog 22 (.slice none 0 0) 1 24 := ti_of (by kernel_rfl)
theorem ti23 : TI Tryz.prog 23 (.nilFunc) 1 8 := ti_of (by kernel_rfl)
theorem ti24 : TI Tryz.prog 24 (.nilFunc) 1 8 := ti_of (by kernel_rfl)
theorem ti25 : TI Tryz.prog 25 (.slice none 0 0) 1 24 := ti_of (by kernel_rfl)
theorem ti26 : TI Tryz.prog 26 (.agg #[.slice none 0 0]) 1 24 := ti_of (by kernel_rfl)
theorem ti27 : TI Tryz.prog 27 (.agg #[.slice none 0 0]) 1 24 := ti_of (by kernel_rfl)
theorem ti28 : TI Tryz.prog 28 (.slice none 0 0) 1 24 := ti_of (by kernel_rfl)
theorem ti29 : TI Tryz.prog 29 (.agg #[.int .i64 0, .string ⟨#[]⟩, .string ⟨#[]⟩, .int .i64 0, .slice none 0 0, .slice none 0 0]) 6 96 := ti_of (by kernel_rfl)
theorem ti30 : TI Tryz.prog 30 (.agg #[.int .i64 0, .string ⟨#[]⟩, .string ⟨#[]⟩, .int .i64 0, .slice none 0 0, .slice none 0 0]) 6 96 := ti_of (by kernel_rfl)
theorem ti31 : TI Tryz.prog 31 (.slice none 0 0) 1 24 := ti_of (by kernel_rfl)
theorem ti32 : TI Tryz.prog 32 (.slice none 0 0) 1 24 := ti_of (by kernel_rfl)
theorem ti33 : TI Tryz.prog 33 (.agg #[.int .i64 0, .string ⟨#[]⟩, .slice none 0 0, .slice none 0 0]) 4 72 := ti_of (by kernel_rfl)
theorem ti34 : TI Tryz.prog 34 (.agg #[.int .i64 0, .string ⟨#[]⟩, .slice none 0 0, .slice none 0 0]) 4 72 := ti_of (by kernel_rfl)
theorem ti35 : TI Tryz.prog 35 (.agg #[.int .i64 0, .int .i64 0, .string ⟨#[]⟩, .slice none 0 0, .int .i64 0, .string ⟨#[]⟩, .string ⟨#[]⟩, .int .i64 0, .slice none 0 0, .slice none 0 0, .slice none 0 0, .int .i64 0, .string ⟨#[]⟩, .slice none 0 0, .slice none 0 0]) 15 248 := ti_of (by kernel_rfl)
theorem ti36 : TI Tryz.prog 36 (.agg #[.int .i64 0, .int .i64 0, .string ⟨#[]⟩, .slice none 0 0, .int .i64 0, .string ⟨#[]⟩, .string ⟨#[]⟩, .int .i64 0, .slice none 0 0, .slice none 0 0, .slice none 0 0, .int .i64 0, .string ⟨#[]⟩, .slice none 0 0, .slice none 0 0]) 15 248 := ti_of (by kernel_rfl)
theorem ti37 : TI Tryz.prog 37 (.nilFunc) 1 8 := ti_of (by kernel_rfl)
theorem ti38 : TI Tryz.prog 38 (.pointer none) 1 8 := ti_of (by kernel_rfl)
theorem ti39 : TI Tryz.prog 39 (.nilFunc) 1 8 := ti_of (by kernel_rfl)
theorem ti40 : TI Tryz.prog 40 (.pointer none) 1 8 := ti_of (by kernel_rfl)
theorem ti41 : TI Tryz.prog 41 (.nilFunc) 1 8 := ti_of (by kernel_rfl)
theorem ti42 : TI Tryz.prog 42 (.nilFunc) 1 8 := ti_of (by kernel_rfl)
theorem ti43 : TI Tryz.prog 43 (.nilFunc) 1 8 := ti_of (by kernel_rfl)
theorem ti44 : TI Tryz.prog 44 (.nilFunc) 1 8 := ti_of (by kernel_rfl)
theorem ti45 : TI Tryz.prog 45 (.nilFunc) 1 8 := ti_of (by kernel_rfl)
theorem ti46 : TI Tryz.prog 46 (.slice none 0 0) 1 24 := ti_of (by kernel_rfl)
theorem ti47 : TI Tryz.prog 47 (.agg #[.string ⟨#[]⟩, .int .i64 0, .bool false]) 3 32 := ti_of (by kernel_rfl)
theorem ti48 : TI Tryz.prog 48 (.agg #[.string ⟨#[]⟩, .int .i64 0, .bool false]) 3 32 := ti_of (by kernel_rfl)
theorem ti49 : TI Tryz.prog 49 (.agg #[.int .i64 0, .int .i64 0, .int .i64 0]) 3 24 := ti_of (by kernel_rfl)
theorem ti50 : TI Tryz.prog 50 (.agg #[.int .i64 0, .int .i64 0, .int .i64 0]) 3 24 := ti_of (by kernel_rfl)
theorem ti51 : TI Tryz.prog 51 (.tuple #[.agg #[.string ⟨#[]⟩, .int .i64 0, .bool false], .bool false]) 1 0 := ti_of (by kernel_rfl)
theorem ti52 : TI Tryz.prog 52 (.nilFunc) 1 8 := ti_of (by kernel_rfl)
theorem ti53 : TI Tryz.prog 53 (.nilFunc) 1 8 := ti_of (by kernel_rfl)
theorem ti54 : TI Tryz.prog 54 (.nilFunc) 1 8 := ti_of (by kernel_rfl)
theorem ti55 : TI Tryz.prog 55 (.nilFunc) 1 8 := ti_of (by kernel_rfl)
theorem ti56 : TI Tryz.prog 56 (.nilFunc) 1 8 := ti_of (by kernel_rfl)
theorem ti57 : TI Tryz.prog 57 (.nilFunc) 1 8 := ti_of (by kernel_rfl)
theorem ti58 : TI Tryz.prog 58 (.agg #[.int .i64 0, .string ⟨#[]⟩, .string ⟨#[]⟩, .int .i64 0, .slice none 0 0, .slice none 0 0]) 6 96 := ti_of (by kernel_rfl)
theorem ti59 : TI Tryz.prog 59 (.nilFunc) 1 8 := ti_of (by kernel_rfl)
theorem ti60 : TI Tryz.prog 60 (.nilFunc) 1 8 := ti_of (by kernel_rfl)
theorem ti61 : TI Tryz.prog 61 (.nilFunc) 1 8 := ti_of (by kernel_rfl)
theorem ti62 : TI Tryz.prog 62 (.slice none 0 0) 1 24 := ti_of (by kernel_rfl)
theorem ti63 : TI Tryz.prog 63 (.nilFunc) 1 8 := ti_of (by kernel_rfl)
theorem ti64 : TI Tryz.prog 64 (.nilFunc) 1 8 := ti_of (by kernel_rfl)
theorem ti65 : TI Tryz.prog 65 (.nilFunc) 1 8 := ti_of (by kernel_rfl)
theorem ti66 : TI Tryz.prog 66 (.agg #[.int .i64 0, .string ⟨#[]⟩, .slice none 0 0, .slice none 0 0]) 4 72 := ti_of (by kernel_rfl)
theorem ti67 : TI Tryz.prog 67 (.agg #[.int .i64 0, .string ⟨#[]⟩, .slice none 0 0, .slice none 0 0]) 4 72 := ti_of (by kernel_rfl)
theorem ti68 : TI Tryz.prog 68 (.nilFunc) 1 8 := ti_of (by kernel_rfl)
theorem ti69 : TI Tryz.prog 69 (.nilFunc) 1 8 := ti_of (by kernel_rfl)
theorem ti70 : TI Tryz.prog 70 (.nilFunc) 1 8 := ti_of (by kernel_rfl)
theorem ti71 : TI Tryz.prog 71 (.nilFunc) 1 8 := ti_of (by kernel_rfl)
theorem ti72 : TI Tryz.prog 72 (.nilFunc) 1 8 := ti_of (by kernel_rfl)
theorem ti73 : TI Tryz.prog 73 (.nilFunc) 1 8 := ti_of (by kernel_rfl)
theorem ti74 : TI Tryz.prog 74 (.nilFunc) 1 8 := ti_of (by kernel_rfl)
theorem ti75 : TI Tryz.prog 75 (.nilFunc) 1 8 := ti_of (by kernel_rfl)
theorem ti76 : TI Tryz.prog 76 (.nilFunc) 1 8 := ti_of (by kernel_rfl)
theorem ti77 : TI Tryz.prog 77 (.nilFunc) 1 8 := ti_of (by kernel_rfl)
theorem ti78 : TI Tryz.prog 78 (.nilFunc) 1 8 := ti_of (by kernel_rfl)
theorem ti79 : TI Tryz.prog 79 (.nilFunc) 1 8 := ti_of (by kernel_rfl)
theorem ti80 : TI Tryz.prog 80 (.nilFunc) 1 8 := ti_of (by kernel_rfl)
theorem ti81 : TI Tryz.prog 81 (.slice none 0 0) 1 24 := ti_of (by kernel_rfl)
theorem ti82 : TI Tryz.prog 82 (.nilFunc) 1 8 := ti_of (by kernel_rfl)
theorem ti83 : TI Tryz.prog 83 (.nilFunc) 1 8 := ti_of (by kernel_rfl)
theorem ti84 : TI Tryz.prog 84 (.nilFunc) 1 8 := ti_of (by kernel_rfl)
theorem ti85 : TI Tryz.prog 85 (.nilFunc) 1 8 := ti_of (by kernel_rfl)
theorem ti86 : TI Tryz.prog 86 (.nilFunc) 1 8 := ti_of (by kernel_rfl)
theorem ti87 : TI Tryz.prog 87 (.nilFunc) 1 8 := ti_of (by kernel_rfl)
theorem ti88 : TI Tryz.prog 88 (.nilFunc) 1 8 := ti_of (by kernel_rfl)
theorem ti89 : TI Tryz.prog 89 (.nilFunc) 1 8 := ti_of (by kernel_rfl)
theorem ti90 : TI Tryz.prog 90 (.nilFunc) 1 8 := ti_of (by kernel_rfl)
theorem ti91 : TI Tryz.prog 91 (.agg #[.slice none 0 0, .bool false]) 2 32 := ti_of (by kernel_rfl)
theorem ti92 : TI Tryz.prog 92 (.agg #[.slice none 0 0, .bool false]) 2 32 := ti_of (by kernel_rfl)
theorem ti93 : TI Tryz.prog 93 (.tuple #[.int .i64 0, .int .i64 0]) 1 0 := ti_of (by kernel_rfl)
theorem ti94 : TI Tryz.prog 94 (.nilFunc) 1 8 := ti_of (by kernel_rfl)
theorem ti95 : TI Tryz.prog 95 (.nilFunc) 1 8 := ti_of (by kernel_rfl)
theorem ti96 : TI Tryz.prog 96 (.nilFunc) 1 8 := ti_of (by kernel_rfl)
theorem ti97 : TI Tryz.prog 97 (.nilFunc) 1 8 := ti_of (by kernel_rfl)
theorem ti98 : TI Tryz.prog 98 (.nilFunc) 1 8 := ti_of (by kernel_rfl)
theorem ti99 : TI Tryz.prog 99 (.nilFunc) 1 8 := ti_of (by kernel_rfl)
theorem ti100 : TI Tryz.prog 100 (.tuple #[.agg #[.string ⟨#[]⟩, .int .i64 0, .bool false], .int .i64 0]) 1 0 := ti_of (by kernel_rfl)
theorem ti101 : TI Tryz.prog 101 (.nilFunc) 1 8 := ti_of (by kernel_rfl)
theorem ti102 : TI Tryz.prog 102 (.nilFunc) 1 8 := ti_of (by kernel_rfl)
theorem ti103 : TI Tryz.prog 103 (.tuple #[.agg #[.string ⟨#[]⟩, .int .i64 0, .bool false], .string ⟨#[]⟩]) 1 0 := ti_of (by kernel_rfl)
theorem ti104 : TI Tryz.prog 104 (.nilFunc) 1 8 := ti_of (by kernel_rfl)
theorem ti105 : TI Tryz.prog 105 (.tuple #[.agg #[.string ⟨#[]⟩, .int .i64 0, .bool false], .slice none 0 0]) 1 0 := ti_of (by kernel_rfl)
theorem ti106 : TI Tryz.prog 106 (.nilFunc) 1 8 := ti_of (by kernel_rfl)
theorem ti107 : TI Tryz.prog 107 (.tuple #[.agg #[.string ⟨#[]⟩, .int .i64 0, .bool false], .agg #[.int .i64 0, .string ⟨#[]⟩, .string ⟨#[]⟩, .int .i64 0, .slice none 0 0, .slice none 0 0]]) 1 0 := ti_of (by kernel_rfl)
theorem ti108 : TI Tryz.prog 108 (.nilFunc) 1 8 := ti_of (by kernel_rfl)
theorem ti109 : TI Tryz.prog 109 (.tuple #[.agg #[.string ⟨#[]⟩, .int .i64 0, .bool false], .slice none 0 0]) 1 0 := ti_of (by kernel_rfl)
theorem ti110 : TI Tryz.prog 110 (.nilFunc) 1 8 := ti_of (by kernel_rfl)
theorem ti111 : TI Tryz.prog 111 (.tuple #[.agg #[.string ⟨#[]⟩, .int .i64 0, .bool false], .agg #[.int .i64 0, .string ⟨#[]⟩, .slice none 0 0, .slice none 0 0]]) 1 0 := ti_of (by kernel_rfl)
theorem ti112 : TI Tryz.prog 112 (.nilFunc) 1 8 := ti_of (by kernel_rfl)
theorem ti113 : TI Tryz.prog 113 (.nilFunc) 1 8 := ti_of (by kernel_rfl)
theorem ti114 : TI Tryz.prog 114 (.nilFunc) 1 8 := ti_of (by kernel_rfl)
theorem ti115 : TI Tryz.prog 115 (.nilFunc) 1 8 := ti_of (by kernel_rfl)
theorem ti116 : TI Tryz.prog 116 (.nilFunc) 1 8 := ti_of (by kernel_rfl)
theorem ti117 : TI Tryz.prog 117 (.nilFunc) 1 8 := ti_of (by kernel_rfl)
theorem ti118 : TI Tryz.prog 118 (.nilFunc) 1 8 := ti_of (by kernel_rfl)
theorem ti119 : TI Tryz.prog 119 (.nilFunc) 1 8 := ti_of (by kernel_rfl)
theorem ti120 : TI Tryz.prog 120 (.nilFunc) 1 8 := ti_of (by kernel_rfl)
theorem ti121 : TI Tryz.prog 121 (.nilFunc) 1 8 := ti_of (by kernel_rfl)
theorem ti122 : TI Tryz.prog 122 (.nilFunc) 1 8 := ti_of (by kernel_rfl)
theorem ti123 : TI Tryz.prog 123 (.nilFunc) 1 8 := ti_of (by kernel_rfl)
theorem ti124 : TI Tryz.prog 124 (.nilFunc) 1 8 := ti_of (by kernel_rfl)
theorem ti125 : TI Tryz.prog 125 (.nilFunc) 1 8 := ti_of (by kernel_rfl)
theorem ti126 : TI Tryz.prog 126 (.nilFunc) 1 8 := ti_of (by kernel_rfl)
theorem ti127 : TI Tryz.prog 127 (.nilFunc) 1 8 := ti_of (by kernel_rfl)
theorem ti128 : TI Tryz.prog 128 (.nilIface) 1 16 := ti_of (by kernel_rfl)
theorem ti129 : TI Tryz.prog 129 (.nilIface) 1 16 := ti_of (by kernel_rfl)
theorem ti130 : TI Tryz.prog 130 (.tuple #[.int .i64 0, .nilIface]) 1 0 := ti_of (by kernel_rfl)
theorem ti131 : TI Tryz.prog 131 (.nilFunc) 1 8 := ti_of (by kernel_rfl)
theorem ti132 : TI Tryz.prog 132 (.nilFunc) 1 8 := ti_of (by kernel_rfl)
theorem ti133 : TI Tryz.prog 133 (.nilFunc) 1 8 := ti_of (by kernel_rfl)
theorem ti134 : TI Tryz.prog 134 (.tuple #[.int .i64 0, .int .i64 0, .bool false]) 1 0 := ti_of (by kernel_rfl)
theorem ti135 : TI Tryz.prog 135 (.nilFunc) 1 8 := ti_of (by kernel_rfl)
theorem ti136 : TI Tryz.prog 136 (.nilFunc) 1 8 := ti_of (by kernel_rfl)
theorem ti137 : TI Tryz.prog 137 (.nilFunc) 1 8 := ti_of (by kernel_rfl)
theorem ti138 : TI Tryz.prog 138 (.nilFunc) 1 8 := ti_of (by kernel_rfl)
theorem ti139 : TI Tryz.prog 139 (.nilFunc) 1 8 := ti_of (by kernel_rfl)
theorem ti140 : TI Tryz.prog 140 (.nilFunc) 1 8 := ti_of (by kernel_rfl)
theorem ti141 : TI Tryz.prog 141 (.nilFunc) 1 8 := ti_of (by kernel_rfl)
theorem ti142 : TI Tryz.prog 142 (.nilFunc) 1 8 := ti_of (by kernel_rfl)
theorem ti143 : TI Tryz.prog 143 (.nilFunc) 1 8 := ti_of (by kernel_rfl)
theorem ti144 : TI Tryz.prog 144 (.nilFunc) 1 8 := ti_of (by kernel_rfl)
theorem ti145 : TI Tryz.prog 145 (.nilFunc) 1 8 := ti_of (by kernel_rfl)
theorem ti146 : TI Tryz.prog 146 (.nilFunc) 1 8 := ti_of (by kernel_rfl)
theorem ti147 : TI Tryz.prog 147 (.nilFunc) 1 8 := ti_of (by kernel_rfl)
theorem ti148 : TI Tryz.prog 148 (.nilFunc) 1 8 := ti_of (by kernel_rfl)
theorem ti149 : TI Tryz.prog 149 (.nilFunc) 1 8 := ti_of (by kernel_rfl)
theorem ti150 : TI Tryz.prog 150 (.nilFunc) 1 8 := ti_of (by kernel_rfl)
theorem ti151 : TI Tryz.prog 151 (.nilFunc) 1 8 := ti_of (by kernel_rfl)
theorem ti152 : TI Tryz.prog 152 (.nilFunc) 1 8 := ti_of (by kernel_rfl)
theorem ti153 : TI Tryz.prog 153 (.int .u64 0) 1 8 := ti_of (by kernel_rfl)
theorem ti154 : TI Tryz.prog 154 (.nilFunc) 1 8 := ti_of (by kernel_rfl)
theorem ti155 : TI Tryz.prog 155 (.int .i64 0) 1 8 := ti_of (by kernel_rfl)
theorem ti156 : TI Tryz.prog 156 (.tuple #[.int .i64 0, .nilIface]) 1 0 := ti_of (by kernel_rfl)
theorem ti157 : TI Tryz.prog 157 (.nilFunc) 1 8 := ti_of (by kernel_rfl)
theorem ti158 : TI Tryz.prog 158 (.pointer none) 1 8 := ti_of (by kernel_rfl)
theorem ti159 : TI Tryz.prog 159 (.nilFunc) 1 8 := ti_of (by kernel_rfl)
theorem ti160 : TI Tryz.prog 160 (.nilFunc) 1 8 := ti_of (by kernel_rfl)
theorem ti161 : TI Tryz.prog 161 (.nilFunc) 1 8 := ti_of (by kernel_rfl)
theorem ti162 : TI Tryz.prog 162 (.nilFunc) 1 8 := ti_of (by kernel_rfl)
theorem ti166 : TI Tryz.prog 166 (.nilFunc) 1 8 := ti_of (by kernel_rfl)
theorem ti167 : TI Tryz.prog 167 (.nilFunc) 1 8 := ti_of (by kernel_rfl)
theorem ti168 : TI Tryz.prog 168 (.pointer none) 1 8 := ti_of (by kernel_rfl)
theorem ti169 : TI Tryz.prog 169 (.nilFunc) 1 8 := ti_of (by kernel_rfl)
theorem ti170 : TI Tryz.prog 170 (.nilFunc) 1 8 := ti_of (by kernel_rfl)
theorem ti171 : TI Tryz.prog 171 (.nilFunc) 1 8 := ti_of (by kernel_rfl)
theorem ti172 : TI Tryz.prog 172 (.agg #[.int .u8 0, .int .u8 0, .int .u8 0, .int .u8 0, .int .u8 0, .int .u8 0, .int .u8 0, .int .u8 0, .int .u8 0, .int .u8 0, .int .u8 0, .int .u8 0, .int .u8 0, .int .u8 0, .int .u8 0, .int .u8 0, .int .u8 0, .int .u8 0, .int .u8 0, .int .u8 0, .int .u8 0, .int .u8 0, .int .u8 0, .int .u8 0]) 24 24 := ti_of (by kernel_rfl)
theorem ti173 : TI Tryz.prog 173 (.nilFunc) 1 8 := ti_of (by kernel_rfl)
theorem ti174 : TI Tryz.prog 174 (.nilFunc) 1 8 := ti_of (by kernel_rfl)
theorem ti175 : TI Tryz.prog 175 (.tuple #[.slice none 0 0, .string ⟨#[]⟩]) 1 0 := ti_of (by kernel_rfl)
theorem ti176 : TI Tryz.prog 176 (.nilFunc) 1 8 := ti_of (by kernel_rfl)
theorem ti177 : TI Tryz.prog 177 (.tuple #[.int .u64 0, .nilIface]) 1 0 := ti_of (by kernel_rfl)
theorem ti178 : TI Tryz.prog 178 (.nilFunc) 1 8 := ti_of (by kernel_rfl)
theorem ti179 : TI Tryz.prog 179 (.int .u64 0) 1 8 := ti_of (by kernel_rfl)
theorem ti180 : TI Tryz.prog 180 (.agg #[.string ⟨#[]⟩, .string ⟨#[]⟩, .nilIface]) 3 48 := ti_of (by kernel_rfl)
theorem ti181 : TI Tryz.prog 181 (.agg #[.string ⟨#[]⟩, .string ⟨#[]⟩, .nilIface]) 3 48 := ti_of (by kernel_rfl)
theorem ti182 : TI Tryz.prog 182 (.nilFunc) 1 8 := ti_of (by kernel_rfl)
theorem ti183 : TI Tryz.prog 183 (.nilFunc) 1 8 := ti_of (by kernel_rfl)
theorem ti184 : TI Tryz.prog 184 (.tuple #[.int .i32 0, .int .i64 0]) 1 0 := ti_of (by kernel_rfl)
theorem ti185 : TI Tryz.prog 185 (.nilFunc) 1 8 := ti_of (by kernel_rfl)
theorem ti186 : TI Tryz.prog 186 (.nilFunc) 1 8 := ti_of (by kernel_rfl)
theorem ti187 : TI Tryz.prog 187 (.nilFunc) 1 8 := ti_of (by kernel_rfl)
theorem ti188 : TI Tryz.prog 188 (.nilFunc) 1 8 := ti_of (by kernel_rfl)
theorem ti189 : TI Tryz.prog 189 (.agg #[.int .u64 0, .int .u64 0, .int .u64 0, .int .u64 0, .int .u64 0, .int .u64 0, .int .u64 0, .int .u64 0, .int .u64 0, .int .u64 0, .int .u64 0, .int .u64 0, .int .u64 0, .int .u64 0, .int .u64 0, .int .u64 0, .int .u64 0, .int .u64 0, .int .u64 0, .int .u64 0]) 20 160 := ti_of (by kernel_rfl)
theorem ti190 : TI Tryz.prog 190 (.int .u32 0) 1 4 := ti_of (by kernel_rfl)
theorem ti192 : TI Tryz.prog 192 (.nilFunc) 1 8 := ti_of (by kernel_rfl)
theorem ti193 : TI Tryz.prog 193 (.nilFunc) 1 8 := ti_of (by kernel_rfl)
theorem ti194 : TI Tryz.prog 194 (.pointer none) 1 8 := ti_of (by kernel_rfl)
theorem ti195 : TI Tryz.prog 195 (.pointer none) 1 8 := ti_of (by kernel_rfl)
theorem ti196 : TI Tryz.prog 196 (.agg #[.string ⟨#[]⟩]) 1 16 := ti_of (by kernel_rfl)
theorem ti197 : TI Tryz.prog 197 (.agg #[.string ⟨#[]⟩]) 1 16 := ti_of (by kernel_rfl)
theorem ti198 : TI Tryz.prog 198 (.nilFunc) 1 8 := ti_of (by kernel_rfl)
theorem ti199 : TI Tryz.prog 199 (.nilFunc) 1 8 := ti_of (by kernel_rfl)
theorem ti200 : TI Tryz.prog 200 (.nilFunc) 1 8 := ti_of (by kernel_rfl)
theorem ti202 : TI Tryz.prog 202 (.agg #[.int .u8 0, .int .u8 0]) 2 2 := ti_of (by kernel_rfl)
theorem ti203 : TI Tryz.prog 203 (.agg #[.int .u8 0, .int .u8 0]) 2 2 := ti_of (by kernel_rfl)
theorem ti204 : TI Tryz.prog 204 (.agg #[.int .u8 0, .int .u8 0, .int .u8 0, .int .u8 0, .int .u8 0, .int .u8 0, .int .u8 0, .int .u8 0, .int .u8 0, .int .u8 0, .int .u8 0, .int .u8 0, .int .u8 0, .int .u8 0, .int .u8 0, .int .u8 0, .int .u8 0, .int .u8 0, .int .u8 0, .int .u8 0, .int .u8 0, .int .u8 0, .int .u8 0, .int .u8 0, .int .u8 0, .int .u8 0, .int .u8 0, .int .u8 0, .int .u8 0, .int .u8 0, .int .u8 0, .int .u8 0]) 32 32 := ti_of (by kernel_rfl)
theorem ti205 : TI Tryz.prog 205 (.nilFunc) 1 8 := ti_of (by kernel_rfl)
theorem ti206 : TI Tryz.prog 206 (.tuple #[.int .u32 0, .int .u32 0]) 1 0 := ti_of (by kernel_rfl)
theorem ti207 : TI Tryz.prog 207 (.nilFunc) 1 8 := ti_of (by kernel_rfl)
theorem ti208 : TI Tryz.prog 208 (.agg #[.int .u8 0, .int .u8 0, .int .u8 0, .int .u8 0, .int .u8 0, .int .u8 0, .int .u8 0, .int .u8 0, .int .u8 0, .int .u8 0, .int .u8 0, .int .u8 0, .int .u8 0, .int .u8 0, .int .u8 0, .int .u8 0, .int .u8 0, .int .u8 0, .int .u8 0, .int .u8 0, .int .u8 0, .int .u8 0, .int .u8 0, .int .u8 0, .int .u8 0, .int .u8 0, .int .u8 0, .int .u8 0, .int .u8 0, .int .u8 0, .int .u8 0, .int .u8 0]) 32 32 := ti_of (by kernel_rfl)
theorem ti210 : TI Tryz.prog 210 (.agg #[.pointer none, .pointer none, .pointer none, .string ⟨#[]⟩]) 4 40 := ti_of (by kernel_rfl)
theorem ti211 : TI Tryz.prog 211 (.agg #[.pointer none, .pointer none, .pointer none, .string ⟨#[]⟩]) 4 40 := ti_of (by kernel_rfl)
theorem ti212 : TI Tryz.prog 212 (.agg #[]) 0 0 := ti_of (by kernel_rfl)
theorem ti213 : TI Tryz.prog 213 (.agg #[]) 0 0 := ti_of (by kernel_rfl)
theorem ti214 : TI Tryz.prog 214 (.agg #[]) 0 0 := ti_of (by kernel_rfl)
theorem ti215 : TI Tryz.prog 215 (.int .u8 0) 1 1 := ti_of (by kernel_rfl)
theorem ti216 : TI Tryz.prog 216 (.int .u8 0) 1 1 := ti_of (by kernel_rfl)
theorem ti217 : TI Tryz.prog 217 (.nilFunc) 1 8 := ti_of (by kernel_rfl)
theorem ti218 : TI Tryz.prog 218 (.int .i32 0) 1 4 := ti_of (by kernel_rfl)
theorem ti219 : TI Tryz.prog 219 (.int .i32 0) 1 4 := ti_of (by kernel_rfl)
theorem ti220 : TI Tryz.prog 220 (.agg #[.int .u64 0, .int .u64 0, .int .u32 0, .int .u8 0, .int .u8 0, .int .u8 0, .int .u8 0, .nilFunc, .pointer none, .int .i32 0, .int .i32 0]) 11 48 := ti_of (by kernel_rfl)
theorem ti221 : TI Tryz.prog 221 (.agg #[.int .u64 0, .int .u64 0, .int .u32 0, .int .u8 0, .int .u8 0, .int .u8 0, .int .u8 0, .nilFunc, .pointer none, .int .i32 0, .int .i32 0]) 11 48 := ti_of (by kernel_rfl)
theorem ti222 : TI Tryz.prog 222 (.pointer none) 1 8 := ti_of (by kernel_rfl)
theorem lone1 : Lone Tryz.prog 1 := lone_of Tryz.underlying1 rfl
theorem lone2 : Lone Tryz.prog 2 := lone_of Tryz.underlying2 rfl
theorem lone3 : Lone Tryz.prog 3 := lone_of Tryz.underlying3 rfl
theorem lone4 : Lone Tryz.prog 4 := lone_of Tryz.underlying4 rfl
theorem lone5 : Lone Tryz.prog 5 := lone_of Tryz.underlying5 rfl
theorem lone6 : Lone Tryz.prog 6 := lone_of Tryz.underlying6 rfl
theorem lone9 : Lone Tryz.prog 9 := lone_of Tryz.underlying9 rfl
theorem lone10 : Lone Tryz.prog 10 := lone_of Tryz.underlying10 rfl
theorem lone11 : Lone Tryz.prog 11 := lone_of Tryz.underlying11 rfl
theorem lone12 : Lone Tryz.prog 12 := lone_of Tryz.underlying12 rfl
theorem lone15 : Lone Tryz.prog 15 := lone_of Tryz.underlying15 rfl
theorem lone16 : Lone Tryz.prog 16 := lone_of Tryz.underlying16 rfl
theorem lone17 : Lone Tryz.prog 17 := lone_of Tryz.underlying17 rfl
theorem lone20 : Lone Tryz.prog 20 := lone_of Tryz.underlying20 rfl
theorem lone21 : Lone Tryz.prog 21 := lone_of Tryz.underlying21 rfl
theorem lone22 : Lone Tryz.prog 22 := lone_of Tryz.underlying22 rfl
theorem lone23 : Lone Tryz.prog 23 := lone_of Tryz.underlying23 rfl
theorem lone24 : Lone Tryz.prog 24 := lone_of Tryz.underlying24 rfl
theorem lone25 : Lone Tryz.prog 25 := lone_of Tryz.underlying25 rfl
theorem lone28 : Lone Tryz.prog 28 := lone_of Tryz.underlying28 rfl
theorem lone31 : Lone Tryz.prog 31 := lone_of Tryz.underlying31 rfl
theorem lone32 : Lone Tryz.prog 32 := lone_of Tryz.underlying32 rfl
theorem lone37 : Lone Tryz.prog 37 := lone_of Tryz.underlying37 rfl
theorem lone38 : Lone Tryz.prog 38 := lone_of Tryz.underlying38 rfl
theorem lone39 : Lone Tryz.prog 39 := lone_of Tryz.underlying39 rfl
theorem lone40 : Lone Tryz.prog 40 := lone_of Tryz.underlying40 rfl
theorem lone41 : Lone Tryz.prog 41 := lone_of Tryz.underlying41 rfl
theorem lone42 : Lone Tryz.prog 42 := lone_of Tryz.underlying42 rfl
theorem lone43 : Lone Tryz.prog 43 := lone_of Tryz.underlying43 rfl
theorem lone44 : Lone Tryz.prog 44 := lone_of Tryz.underlying44 rfl
theorem lone45 : Lone Tryz.prog 45 := lone_of Tryz.underlying45 rfl
theorem lone46 : Lone Tryz.prog 46 := lone_of Tryz.underlying46 rfl
theorem lone52 : Lone Tryz.prog 52 := lone_of Tryz.underlying52 rfl
theorem lone53 : Lone Tryz.prog 53 := lone_of Tryz.underlying53 rfl
theorem lone54 : Lone Tryz.prog 54 := lone_of Tryz.underlying54 rfl
theorem lone55 : Lone Tryz.prog 55 := lone_of Tryz.underlying55 rfl
theorem lone56 : Lone Tryz.prog 56 := lone_of Tryz.underlying56 rfl
theorem lone57 : Lone Tryz.prog 57 := lone_of Tryz.underlying57 rfl
theorem lone59 : Lone Tryz.prog 59 := lone_of Tryz.underlying59 rfl
theorem lone60 : Lone Tryz.prog 60 := lone_of Tryz.underlying60 rfl
theorem lone61 : Lone Tryz.prog 61 := lone_of Tryz.underlying61 rfl
theorem lone62 : Lone Tryz.prog 62 := lone_of Tryz.underlying62 rfl
theorem lone63 : Lone Tryz.prog 63 := lone_of Tryz.underlying63 rfl
theorem lone64 : Lone Tryz.prog 64 := lone_of Tryz.underlying64 rfl
theorem lone65 : Lone Tryz.prog 65 := lone_of Tryz.underlying65 rfl
theorem lone68 : Lone Tryz.prog 68 := lone_of Tryz.underlying68 rfl
theorem lone69 : Lone Tryz.prog 69 := lone_of Tryz.underlying69 rfl
theorem lone70 : Lone Tryz.prog 70 := lone_of Tryz.underlying70 rfl
theorem lone71 : Lone Tryz.prog 71 := lone_of Tryz.underlying71 rfl
theorem lone72 : Lone Tryz.prog 72 := lone_of Tryz.underlying72 rfl
theorem lone73 : Lone Tryz.prog 73 := lone_of Tryz.underlying73 rfl
theorem lone74 : Lone Tryz.prog 74 := lone_of Tryz.underlying74 rfl
theorem lone75 : Lone Tryz.prog 75 := lone_of Tryz.underlying75 rfl
theorem lone76 : Lone Tryz.prog 76 := lone_of Tryz.underlying76 rfl
theorem lone77 : Lone Tryz.prog 77 := lone_of Tryz.underlying77 rfl
theorem lone78 : Lone Tryz.prog 78 := lone_of Tryz.underlying78 rfl
theorem lone79 : Lone Tryz.prog 79 := lone_of Tryz.underlying79 rfl
theorem lone80 : Lone Tryz.prog 80 := lone_of Tryz.underlying80 rfl
theorem lone81 : Lone Tryz.prog 81 := lone_of Tryz.underlying81 rfl
theorem lone82 : Lone Tryz.prog 82 := lone_of Tryz.underlying82 rfl
theorem lone83 : Lone Tryz.prog 83 := lone_of Tryz.underlying83 rfl
theorem lone84 : Lone Tryz.prog 84 := lone_of Tryz.underlying84 rfl
theorem lone85 : Lone Tryz.prog 85 := lone_of Tryz.underlying85 rfl
theorem lone86 : Lone Tryz.prog 86 := lone_of Tryz.underlying86 rfl
theorem lone87 : Lone Tryz.prog 87 := lone_of Tryz.underlying87 rfl
theorem lone88 : Lone Tryz.prog 88 := lone_of Tryz.underlying88 rfl
theorem lone89 : Lone Tryz.prog 89 := lone_of Tryz.underlying89 rfl
theorem lone90 : Lone Tryz.prog 90 := lone_of Tryz.underlying90 rfl
theorem lone94 : Lone Tryz.prog 94 := lone_of Tryz.underlying94 rfl
theorem lone95 : Lone Tryz.prog 95 := lone_of Tryz.underlying95 rfl
theorem lone96 : Lone Tryz.prog 96 := lone_of Tryz.underlying96 rfl
theorem lone97 : Lone Tryz.prog 97 := lone_of Tryz.underlying97 rfl
theorem lone98 : Lone Tryz.prog 98 := lone_of Tryz.underlying98 rfl
theorem lone99 : Lone Tryz.prog 99 := lone_of Tryz.underlying99 rfl
theorem lone101 : Lone Tryz.prog 101 := lone_of Tryz.underlying101 rfl
theorem lone102 : Lone Tryz.prog 102 := lone_of Tryz.underlying102 rfl
theorem lone104 : Lone Tryz.prog 104 := lone_of Tryz.underlying104 rfl
theorem lone106 : Lone Tryz.prog 106 := lone_of Tryz.underlying106 rfl
theorem lone108 : Lone Tryz.prog 108 := lone_of Tryz.underlying108 rfl
theorem lone110 : Lone Tryz.prog 110 := lone_of Tryz.underlying110 rfl
theorem lone112 : Lone Tryz.prog 112 := lone_of Tryz.underlying112 rfl
theorem lone113 : Lone Tryz.prog 113 := lone_of Tryz.underlying113 rfl
theorem lone114 : Lone Tryz.prog 114 := lone_of Tryz.underlying114 rfl
theorem lone115 : Lone Tryz.prog 115 := lone_of Tryz.underlying115 rfl
theorem lone116 : Lone Tryz.prog 116 := lone_of Tryz.underlying116 rfl
theorem lone117 : Lone Tryz.prog 117 := lone_of Tryz.underlying117 rfl
theorem lone118 : Lone Tryz.prog 118 := lone_of Tryz.underlying118 rfl
theorem lone119 : Lone Tryz.prog 119 := lone_of Tryz.underlying119 rfl
theorem lone120 : Lone Tryz.prog 120 := lone_of Tryz.underlying120 rfl
theorem lone121 : Lone Tryz.prog 121 := lone_of Tryz.underlying121 rfl
theorem lone122 : Lone Tryz.prog 122 := lone_of Tryz.underlying122 rfl
theorem lone123 : Lone Tryz.prog 123 := lone_of Tryz.underlying123 rfl
theorem lone124 : Lone Tryz.prog 124 := lone_of Tryz.underlying124 rfl
theorem lone125 : Lone Tryz.prog 125 := lone_of Tryz.underlying125 rfl
theorem lone126 : Lone Tryz.prog 126 := lone_of Tryz.underlying126 rfl
theorem lone127 : Lone Tryz.prog 127 := lone_of Tryz.underlying127 rfl
theorem lone128 : Lone Tryz.prog 128 := lone_of Tryz.underlying128 rfl
theorem lone129 : Lone Tryz.prog 129 := lone_of Tryz.underlying129 rfl
theorem lone131 : Lone Tryz.prog 131 := lone_of Tryz.underlying131 rfl
theorem lone132 : Lone Tryz.prog 132 := lone_of Tryz.underlying132 rfl
theorem lone133 : Lone Tryz.prog 133 := lone_of Tryz.underlying133 rfl
theorem lone135 : Lone Tryz.prog 135 := lone_of Tryz.underlying135 rfl
theorem lone136 : Lone Tryz.prog 136 := lone_of Tryz.underlying136 rfl
theorem lone137 : Lone Tryz.prog 137 := lone_of Tryz.underlying137 rfl
theorem lone138 : Lone Tryz.prog 138 := lone_of Tryz.underlying138 rfl
theorem lone139 : Lone Tryz.prog 139 := lone_of Tryz.underlying139 rfl
theorem lone140 : Lone Tryz.prog 140 := lone_of Tryz.underlying140 rfl
theorem lone141 : Lone Tryz.prog 141 := lone_of Tryz.underlying141 rfl
theorem lone142 : Lone Tryz.prog 142 := lone_of Tryz.underlying142 rfl
theorem lone143 : Lone Tryz.prog 143 := lone_of Tryz.underlying143 rfl
theorem lone144 : Lone Tryz.prog 144 := lone_of Tryz.underlying144 rfl
theorem lone145 : Lone Tryz.prog 145 := lone_of Tryz.underlying145 rfl
theorem lone146 : Lone Tryz.prog 146 := lone_of Tryz.underlying146 rfl
theorem lone147 : Lone Tryz.prog 147 := lone_of Tryz.underlying147 rfl
theorem lone148 : Lone Tryz.prog 148 := lone_of Tryz.underlying148 rfl
theorem lone149 : Lone Tryz.prog 149 := lone_of Tryz.underlying149 rfl
theorem lone150 : Lone Tryz.prog 150 := lone_of Tryz.underlying150 rfl
theorem lone151 : Lone Tryz.prog 151 := lone_of Tryz.underlying151 rfl
theorem lone152 : Lone Tryz.prog 152 := lone_of Tryz.underlying152 rfl
theorem lone153 : Lone Tryz.prog 153 := lone_of Tryz.underlying153 rfl
theorem lone154 : Lone Tryz.prog 154 := lone_of Tryz.underlying154 rfl
theorem lone155 : Lone Tryz.prog 155 := lone_of Tryz.underlying155 rfl
theorem lone157 : Lone Tryz.prog 157 := lone_of Tryz.underlying157 rfl
theorem lone158 : Lone Tryz.prog 158 := lone_of Tryz.underlying158 rfl
theorem lone159 : Lone Tryz.prog 159 := lone_of Tryz.underlying159 rfl
theorem lone160 : Lone Tryz.prog 160 := lone_of Tryz.underlying160 rfl
theorem lone161 : Lone Tryz.prog 161 := lone_of Tryz.underlying161 rfl
theorem lone162 : Lone Tryz.prog 162 := lone_of Tryz.underlying162 rfl
theorem lone166 : Lone Tryz.prog 166 := lone_of Tryz.underlying166 rfl
theorem lone167 : Lone Tryz.prog 167 := lone_of Tryz.underlying167 rfl
theorem lone168 : Lone Tryz.prog 168 := lone_of Tryz.underlying168 rfl
theorem lone169 : Lone Tryz.prog 169 := lone_of Tryz.underlying169 rfl
theorem lone170 : Lone Tryz.prog 170 := lone_of Tryz.underlying170 rfl
theorem lone171 : Lone Tryz.prog 171 := lone_of Tryz.underlying171 rfl
theorem lone173 : Lone Tryz.prog 173 := lone_of Tryz.underlying173 rfl
theorem lone174 : Lone Tryz.prog 174 := lone_of Tryz.underlying174 rfl
theorem lone176 : Lone Tryz.prog 176 := lone_of Tryz.underlying176 rfl
theorem lone178 : Lone Tryz.prog 178 := lone_of Tryz.underlying178 rfl
theorem lone179 : Lone Tryz.prog 179 := lone_of Tryz.underlying179 rfl
theorem lone182 : Lone Tryz.prog 182 := lone_of Tryz.underlying182 rfl
theorem lone183 : Lone Tryz.prog 183 := lone_of Tryz.underlying183 rfl
theorem lone185 : Lone Tryz.prog 185 := lone_of Tryz.underlying185 rfl
theorem lone186 : Lone Tryz.prog 186 := lone_of Tryz.underlying186 rfl
theorem lone187 : Lone Tryz.prog 187 := lone_of Tryz.underlying187 rfl
theorem lone188 : Lone Tryz.prog 188 := lone_of Tryz.underlying188 rfl
theorem lone190 : Lone Tryz.prog 190 := lone_of Tryz.underlying190 rfl
theorem lone192 : Lone Tryz.prog 192 := lone_of Tryz.underlying192 rfl
theorem lone193 : Lone Tryz.prog 193 := lone_of Tryz.underlying193 rfl
theorem lone194 : Lone Tryz.prog 194 := lone_of Tryz.underlying194 rfl
theorem lone195 : Lone Tryz.prog 195 := lone_of Tryz.underlying195 rfl
theorem lone198 : Lone Tryz.prog 198 := lone_of Tryz.underlying198 rfl
theorem lone199 : Lone Tryz.prog 199 := lone_of Tryz.underlying199 rfl
theorem lone200 : Lone Tryz.prog 200 := lone_of Tryz.underlying200 rfl
theorem lone205 : Lone Tryz.prog 205 := lone_of Tryz.underlying205 rfl
theorem lone207 : Lone Tryz.prog 207 := lone_of Tryz.underlying207 rfl
theorem lone215 : Lone Tryz.prog 215 := lone_of Tryz.underlying215 rfl
theorem lone216 : Lone Tryz.prog 216 := lone_of Tryz.underlying216 rfl
theorem lone217 : Lone Tryz.prog 217 := lone_of Tryz.underlying217 rfl
theorem lone218 : Lone Tryz.prog 218 := lone_of Tryz.underlying218 rfl
theorem lone219 : Lone Tryz.prog 219 := lone_of Tryz.underlying219 rfl
theorem lone222 : Lone Tryz.prog 222 := lone_of Tryz.underlying222 rfl
-- 0 main.main
-- 1 gosem.cut
-- 2 gosem.cut.init
-- 3 quiltwork/quiltworklaw09.CodeWrites
theorem cl3 : Callable Tryz.prog 3 := callable_of Tryz.func3 (by kernel_rfl) (by kernel_rfl)
-- 4 quiltwork/quiltworklaw09.CodeApart
theorem cl4 : Callable Tryz.prog 4 := callable_of Tryz.func4 (by kernel_rfl) (by kernel_rfl)
-- 5 quiltwork/quiltworklaw09.CodeReads
theorem cl5 : Callable Tryz.prog 5 := callable_of Tryz.func5 (by kernel_rfl) (by kernel_rfl)
-- 6 quiltwork/quiltworklaw09.CodeBack
theorem cl6 : Callable Tryz.prog 6 := callable_of Tryz.func6 (by kernel_rfl) (by kernel_rfl)
-- 7 quiltwork/quiltworklaw09.CodeOne
theorem cl7 : Callable Tryz.prog 7 := callable_of Tryz.func7 (by kernel_rfl) (by kernel_rfl)
-- 8 quiltwork/quiltworklaw09.CodeSpoils
theorem cl8 : Callable Tryz.prog 8 := callable_of Tryz.func8 (by kernel_rfl) (by kernel_rfl)
-- 9 quiltwork/quiltworklaw09.few
theorem cl9 : Callable Tryz.prog 9 := callable_of Tryz.func9 (by kernel_rfl) (by kernel_rfl)
-- 10 quiltwork/quiltworklaw09.alive
theorem cl10 : Callable Tryz.prog 10 := callable_of Tryz.func10 (by kernel_rfl) (by kernel_rfl)
-- 11 quiltwork/quiltworklaw09.put
theorem cl11 : Callable Tryz.prog 11 := callable_of Tryz.func11 (by kernel_rfl) (by kernel_rfl)
-- 12 (*quiltwork/code.Out).Bytes
theorem cl12 : Callable Tryz.prog 12 := callable_of Tryz.func12 (by kernel_rfl) (by kernel_rfl)
-- 13 quiltwork/code.Of
theorem cl13 : Callable Tryz.prog 13 := callable_of Tryz.func13 (by kernel_rfl) (by kernel_rfl)
-- 14 (*quiltwork/code.In).Num
theorem cl14 : Callable Tryz.prog 14 := callable_of Tryz.func14 (by kernel_rfl) (by kernel_rfl)
-- 15 (*quiltwork/code.In).Flag
theorem cl15 : Callable Tryz.prog 15 := callable_of Tryz.func15 (by kernel_rfl) (by kernel_rfl)
-- 16 (*quiltwork/code.In).Text
theorem cl16 : Callable Tryz.prog 16 := callable_of Tryz.func16 (by kernel_rfl) (by kernel_rfl)
-- 17 (*quiltwork/code.In).Texts
theorem cl17 : Callable Tryz.prog 17 := callable_of Tryz.func17 (by kernel_rfl) (by kernel_rfl)
-- 18 (*quiltwork/code.In).Left
theorem cl18 : Callable Tryz.prog 18 := callable_of Tryz.func18 (by kernel_rfl) (by kernel_rfl)
-- 19 quiltwork/quiltworklaw09.read
theorem cl19 : Callable Tryz.prog 19 := callable_of Tryz.func19 (by kernel_rfl) (by kernel_rfl)
-- 20 (*quiltwork/code.In).Done
theorem cl20 : Callable Tryz.prog 20 := callable_of Tryz.func20 (by kernel_rfl) (by kernel_rfl)
-- 21 quiltwork/quiltworkref03.Right
theorem cl21 : Callable Tryz.prog 21 := callable_of Tryz.func21 (by kernel_rfl) (by kernel_rfl)
-- 22 quiltwork/quiltworkref07.Right
theorem cl22 : Callable Tryz.prog 22 := callable_of Tryz.func22 (by kernel_rfl) (by kernel_rfl)
-- 23 quiltwork/quiltworkref01.Same
theorem cl23 : Callable Tryz.prog 23 := callable_of Tryz.func23 (by kernel_rfl) (by kernel_rfl)
-- 24 quiltwork/quiltworkref03.Same
theorem cl24 : Callable Tryz.prog 24 := callable_of Tryz.func24 (by kernel_rfl) (by kernel_rfl)
-- 25 (*quiltwork/code.In).Prim
theorem cl25 : Callable Tryz.prog 25 := callable_of Tryz.func25 (by kernel_rfl) (by kernel_rfl)
-- 26 quiltwork/quiltworkref03.All
theorem cl26 : Callable Tryz.prog 26 := callable_of Tryz.func26 (by kernel_rfl) (by kernel_rfl)
-- 27 quiltwork/quiltworklaw03.Old
theorem cl27 : Callable Tryz.prog 27 := callable_of Tryz.func27 (by kernel_rfl) (by kernel_rfl)
-- 28 (*quiltwork/code.In).Prims
theorem cl28 : Callable Tryz.prog 28 := callable_of Tryz.func28 (by kernel_rfl) (by kernel_rfl)
-- 29 quiltwork/quiltworkref07.Same
theorem cl29 : Callable Tryz.prog 29 := callable_of Tryz.func29 (by kernel_rfl) (by kernel_rfl)
-- 30 quiltwork/quiltworklaw07.Old
theorem cl30 : Callable Tryz.prog 30 := callable_of Tryz.func30 (by kernel_rfl) (by kernel_rfl)
-- 31 (*quiltwork/code.In).Patch
theorem cl31 : Callable Tryz.prog 31 := callable_of Tryz.func31 (by kernel_rfl) (by kernel_rfl)
-- 32 (*quiltwork/code.Out).Num
theorem cl32 : Callable Tryz.prog 32 := callable_of Tryz.func32 (by kernel_rfl) (by kernel_rfl)
-- 33 (*quiltwork/code.Out).Flag
theorem cl33 : Callable Tryz.prog 33 := callable_of Tryz.func33 (by kernel_rfl) (by kernel_rfl)
-- 34 (*quiltwork/code.Out).Text
theorem cl34 : Callable Tryz.prog 34 := callable_of Tryz.func34 (by kernel_rfl) (by kernel_rfl)
-- 35 (*quiltwork/code.Out).Texts
theorem cl35 : Callable Tryz.prog 35 := callable_of Tryz.func35 (by kernel_rfl) (by kernel_rfl)
-- 36 (*quiltwork/code.Out).Prim
theorem cl36 : Callable Tryz.prog 36 := callable_of Tryz.func36 (by kernel_rfl) (by kernel_rfl)
-- 37 (*quiltwork/code.Out).Prims
theorem cl37 : Callable Tryz.prog 37 := callable_of Tryz.func37 (by kernel_rfl) (by kernel_rfl)
-- 38 (*quiltwork/code.Out).Patch
theorem cl38 : Callable Tryz.prog 38 := callable_of Tryz.func38 (by kernel_rfl) (by kernel_rfl)
-- 39 quiltwork/prim.Same
theorem cl39 : Callable Tryz.prog 39 := callable_of Tryz.func39 (by kernel_rfl) (by kernel_rfl)
-- 40 quiltwork/named.Same
theorem cl40 : Callable Tryz.prog 40 := callable_of Tryz.func40 (by kernel_rfl) (by kernel_rfl)
-- 41 quiltwork/quiltworklaw03.Many
theorem cl41 : Callable Tryz.prog 41 := callable_of Tryz.func41 (by kernel_rfl) (by kernel_rfl)
-- 42 quiltwork/quiltworklaw07.Many
theorem cl42 : Callable Tryz.prog 42 := callable_of Tryz.func42 (by kernel_rfl) (by kernel_rfl)
-- 43 quiltwork/quiltworkref09.Num
theorem cl43 : Callable Tryz.prog 43 := callable_of Tryz.func43 (by kernel_rfl) (by kernel_rfl)
-- 44 quiltwork/quiltworkref09.Flag
theorem cl44 : Callable Tryz.prog 44 := callable_of Tryz.func44 (by kernel_rfl) (by kernel_rfl)
-- 45 quiltwork/quiltworkref09.Text
theorem cl45 : Callable Tryz.prog 45 := callable_of Tryz.func45 (by kernel_rfl) (by kernel_rfl)
-- 46 quiltwork/quiltworkref09.Texts
theorem cl46 : Callable Tryz.prog 46 := callable_of Tryz.func46 (by kernel_rfl) (by kernel_rfl)
-- 47 quiltwork/quiltworkref09.Prim
theorem cl47 : Callable Tryz.prog 47 := callable_of Tryz.func47 (by kernel_rfl) (by kernel_rfl)
-- 48 quiltwork/quiltworklaw03.New
theorem cl48 : Callable Tryz.prog 48 := callable_of Tryz.func48 (by kernel_rfl) (by kernel_rfl)
-- 49 quiltwork/quiltworkref09.Prims
theorem cl49 : Callable Tryz.prog 49 := callable_of Tryz.func49 (by kernel_rfl) (by kernel_rfl)
-- 50 quiltwork/quiltworklaw07.New
theorem cl50 : Callable Tryz.prog 50 := callable_of Tryz.func50 (by kernel_rfl) (by kernel_rfl)
-- 51 quiltwork/quiltworkref09.Patch
theorem cl51 : Callable Tryz.prog 51 := callable_of Tryz.func51 (by kernel_rfl) (by kernel_rfl)
-- 52 slices.Clone[[]byte,byte]
theorem cl52 : Callable Tryz.prog 52 := callable_of Tryz.func52 (by kernel_rfl) (by kernel_rfl)
-- 53 (*quiltwork/code.In).number
theorem cl53 : Callable Tryz.prog 53 := callable_of Tryz.func53 (by kernel_rfl) (by kernel_rfl)
-- 54 quiltwork/code.goes[int]
theorem cl54 : Callable Tryz.prog 54 := callable_of Tryz.func54 (by kernel_rfl) (by kernel_rfl)
-- 55 quiltwork/code.goes[bool]
theorem cl55 : Callable Tryz.prog 55 := callable_of Tryz.func55 (by kernel_rfl) (by kernel_rfl)
-- 56 quiltwork/code.goes[string]
theorem cl56 : Callable Tryz.prog 56 := callable_of Tryz.func56 (by kernel_rfl) (by kernel_rfl)
-- 57 quiltwork/code.some[string]
theorem cl57 : Callable Tryz.prog 57 := callable_of Tryz.func57 (by kernel_rfl) (by kernel_rfl)
-- 58 (*quiltwork/code.In).Texts$1
theorem cl58 : Callable Tryz.prog 58 := callable_of Tryz.func58 (by kernel_rfl) (by kernel_rfl)
-- 59 quiltwork/quiltworkref09.TakeNum
theorem cl59 : Callable Tryz.prog 59 := callable_of Tryz.func59 (by kernel_rfl) (by kernel_rfl)
-- 60 quiltwork/quiltworkref09.TakeFlag
theorem cl60 : Callable Tryz.prog 60 := callable_of Tryz.func60 (by kernel_rfl) (by kernel_rfl)
-- 61 quiltwork/quiltworkref09.TakeText
theorem cl61 : Callable Tryz.prog 61 := callable_of Tryz.func61 (by kernel_rfl) (by kernel_rfl)
-- 62 quiltwork/quiltworkref09.TakeTexts
theorem cl62 : Callable Tryz.prog 62 := callable_of Tryz.func62 (by kernel_rfl) (by kernel_rfl)
-- 63 quiltwork/quiltworkref09.TakePrim
theorem cl63 : Callable Tryz.prog 63 := callable_of Tryz.func63 (by kernel_rfl) (by kernel_rfl)
-- 64 quiltwork/quiltworkref09.TakePrims
theorem cl64 : Callable Tryz.prog 64 := callable_of Tryz.func64 (by kernel_rfl) (by kernel_rfl)
-- 65 quiltwork/quiltworkref09.TakePatch
theorem cl65 : Callable Tryz.prog 65 := callable_of Tryz.func65 (by kernel_rfl) (by kernel_rfl)
-- 66 quiltwork/quiltworkref02.Named
theorem cl66 : Callable Tryz.prog 66 := callable_of Tryz.func66 (by kernel_rfl) (by kernel_rfl)
-- 67 quiltwork/quiltworkref01.All
theorem cl67 : Callable Tryz.prog 67 := callable_of Tryz.func67 (by kernel_rfl) (by kernel_rfl)
-- 68 quiltwork/quiltworkref01.Right
theorem cl68 : Callable Tryz.prog 68 := callable_of Tryz.func68 (by kernel_rfl) (by kernel_rfl)
-- 69 quiltwork/quiltworkref05.Right
theorem cl69 : Callable Tryz.prog 69 := callable_of Tryz.func69 (by kernel_rfl) (by kernel_rfl)
-- 70 quiltwork/code.whole[quiltwork/prim.Prim]
theorem cl70 : Callable Tryz.prog 70 := callable_of Tryz.func70 (by kernel_rfl) (by kernel_rfl)
-- 71 (*quiltwork/code.In).prim
theorem cl71 : Callable Tryz.prog 71 := callable_of Tryz.func71 (by kernel_rfl) (by kernel_rfl)
-- 72 quiltwork/prim.Right
theorem cl72 : Callable Tryz.prog 72 := callable_of Tryz.func72 (by kernel_rfl) (by kernel_rfl)
-- 73 quiltwork/code.some[quiltwork/prim.Prim]
theorem cl73 : Callable Tryz.prog 73 := callable_of Tryz.func73 (by kernel_rfl) (by kernel_rfl)
-- 74 quiltwork/code.whole[quiltwork/named.Patch]
theorem cl74 : Callable Tryz.prog 74 := callable_of Tryz.func74 (by kernel_rfl) (by kernel_rfl)
-- 75 (*quiltwork/code.In).patch
theorem cl75 : Callable Tryz.prog 75 := callable_of Tryz.func75 (by kernel_rfl) (by kernel_rfl)
-- 76 quiltwork/named.Right
theorem cl76 : Callable Tryz.prog 76 := callable_of Tryz.func76 (by kernel_rfl) (by kernel_rfl)
-- 77 strconv.AppendInt
theorem cl77 : Callable Tryz.prog 77 := callable_of Tryz.func77 (by kernel_rfl) (by kernel_rfl)
-- 78 quiltwork/code.each[string]
theorem cl78 : Callable Tryz.prog 78 := callable_of Tryz.func78 (by kernel_rfl) (by kernel_rfl)
-- 79 quiltwork/code.each[quiltwork/prim.Prim]
theorem cl79 : Callable Tryz.prog 79 := callable_of Tryz.func79 (by kernel_rfl) (by kernel_rfl)
-- 80 quiltwork/code.each[int]
theorem cl80 : Callable Tryz.prog 80 := callable_of Tryz.func80 (by kernel_rfl) (by kernel_rfl)
-- 81 quiltwork/line.Same
theorem cl81 : Callable Tryz.prog 81 := callable_of Tryz.func81 (by kernel_rfl) (by kernel_rfl)
-- 82 slices.Equal[[]int,int]
theorem cl82 : Callable Tryz.prog 82 := callable_of Tryz.func82 (by kernel_rfl) (by kernel_rfl)
-- 83 quiltwork/seq.Same
theorem cl83 : Callable Tryz.prog 83 := callable_of Tryz.func83 (by kernel_rfl) (by kernel_rfl)
-- 84 quiltwork/quiltworkref09.digits
theorem cl84 : Callable Tryz.prog 84 := callable_of Tryz.func84 (by kernel_rfl) (by kernel_rfl)
-- 85 bytes.IndexByte
theorem cl85 : Callable Tryz.prog 85 := callable_of Tryz.func85 (by kernel_rfl) (by kernel_rfl)
-- 86 strconv.Atoi
theorem cl86 : Callable Tryz.prog 86 := callable_of Tryz.func86 (by kernel_rfl) (by kernel_rfl)
-- 87 strconv.Itoa
theorem cl87 : Callable Tryz.prog 87 := callable_of Tryz.func87 (by kernel_rfl) (by kernel_rfl)
-- 88 quiltwork/code.some[string]$1
theorem cl88 : Callable Tryz.prog 88 := callable_of Tryz.func88 (by kernel_rfl) (by kernel_rfl)
-- 89 quiltwork/code.whole[[]string]
theorem cl89 : Callable Tryz.prog 89 := callable_of Tryz.func89 (by kernel_rfl) (by kernel_rfl)
-- 90 quiltwork/code.some[string]$2
theorem cl90 : Callable Tryz.prog 90 := callable_of Tryz.func90 (by kernel_rfl) (by kernel_rfl)
-- 91 quiltwork/quiltworkref09.upto
theorem cl91 : Callable Tryz.prog 91 := callable_of Tryz.func91 (by kernel_rfl) (by kernel_rfl)
-- 92 quiltwork/quiltworkref09.spoil
theorem cl92 : Callable Tryz.prog 92 := callable_of Tryz.func92 (by kernel_rfl) (by kernel_rfl)
-- 93 quiltwork/tree.Named
theorem cl93 : Callable Tryz.prog 93 := callable_of Tryz.func93 (by kernel_rfl) (by kernel_rfl)
-- 94 quiltwork/line.All
theorem cl94 : Callable Tryz.prog 94 := callable_of Tryz.func94 (by kernel_rfl) (by kernel_rfl)
-- 95 quiltwork/code.some[quiltwork/prim.Prim]$1
theorem cl95 : Callable Tryz.prog 95 := callable_of Tryz.func95 (by kernel_rfl) (by kernel_rfl)
-- 96 quiltwork/code.whole[[]quiltwork/prim.Prim]
theorem cl96 : Callable Tryz.prog 96 := callable_of Tryz.func96 (by kernel_rfl) (by kernel_rfl)
-- 97 quiltwork/code.some[quiltwork/prim.Prim]$2
theorem cl97 : Callable Tryz.prog 97 := callable_of Tryz.func97 (by kernel_rfl) (by kernel_rfl)
-- 98 quiltwork/code.some[int]
theorem cl98 : Callable Tryz.prog 98 := callable_of Tryz.func98 (by kernel_rfl) (by kernel_rfl)
-- 99 quiltwork/named.Right$1
theorem cl99 : Callable Tryz.prog 99 := callable_of Tryz.func99 (by kernel_rfl) (by kernel_rfl)
-- 100 quiltwork/line.Right
theorem cl100 : Callable Tryz.prog 100 := callable_of Tryz.func100 (by kernel_rfl) (by kernel_rfl)
-- 101 slices.ContainsFunc[[]int,int]
theorem cl101 : Callable Tryz.prog 101 := callable_of Tryz.func101 (by kernel_rfl) (by kernel_rfl)
-- 102 quiltwork/seq.Right
theorem cl102 : Callable Tryz.prog 102 := callable_of Tryz.func102 (by kernel_rfl) (by kernel_rfl)
-- 103 internal/strconv.AppendInt
theorem cl103 : Callable Tryz.prog 103 := callable_of Tryz.func103 (by kernel_rfl) (by kernel_rfl)
-- 104 slices.Equal[[]string,string]
theorem cl104 : Callable Tryz.prog 104 := callable_of Tryz.func104 (by kernel_rfl) (by kernel_rfl)
-- 105 slices.EqualFunc[[]quiltwork/prim.Prim,[]quiltwork/prim.Prim,quiltwork/prim.Prim,quiltwork/prim.Prim]
theorem cl105 : Callable Tryz.prog 105 := callable_of Tryz.func105 (by kernel_rfl) (by kernel_rfl)
-- 106 internal/bytealg.IndexByte
-- 107 internal/strconv.Atoi
theorem cl107 : Callable Tryz.prog 107 := callable_of Tryz.func107 (by kernel_rfl) (by kernel_rfl)
-- 108 strconv.toError
theorem cl108 : Callable Tryz.prog 108 := callable_of Tryz.func108 (by kernel_rfl) (by kernel_rfl)
-- 109 internal/strconv.Itoa
theorem cl109 : Callable Tryz.prog 109 := callable_of Tryz.func109 (by kernel_rfl) (by kernel_rfl)
-- 110 strings.Trim
theorem cl110 : Callable Tryz.prog 110 := callable_of Tryz.func110 (by kernel_rfl) (by kernel_rfl)
-- 111 slices.ContainsFunc[[]string,string]
theorem cl111 : Callable Tryz.prog 111 := callable_of Tryz.func111 (by kernel_rfl) (by kernel_rfl)
-- 112 quiltwork/line.All$1
theorem cl112 : Callable Tryz.prog 112 := callable_of Tryz.func112 (by kernel_rfl) (by kernel_rfl)
-- 113 quiltwork/code.some[int]$1
theorem cl113 : Callable Tryz.prog 113 := callable_of Tryz.func113 (by kernel_rfl) (by kernel_rfl)
-- 114 quiltwork/code.whole[[]int]
theorem cl114 : Callable Tryz.prog 114 := callable_of Tryz.func114 (by kernel_rfl) (by kernel_rfl)
-- 115 quiltwork/code.some[int]$2
theorem cl115 : Callable Tryz.prog 115 := callable_of Tryz.func115 (by kernel_rfl) (by kernel_rfl)
-- 116 strings.Contains
theorem cl116 : Callable Tryz.prog 116 := callable_of Tryz.func116 (by kernel_rfl) (by kernel_rfl)
-- 117 slices.IndexFunc[[]int,int]
theorem cl117 : Callable Tryz.prog 117 := callable_of Tryz.func117 (by kernel_rfl) (by kernel_rfl)
-- 118 slices.ContainsFunc[[]quiltwork/prim.Prim,quiltwork/prim.Prim]
theorem cl118 : Callable Tryz.prog 118 := callable_of Tryz.func118 (by kernel_rfl) (by kernel_rfl)
-- 119 quiltwork/seq.Right$1
theorem cl119 : Callable Tryz.prog 119 := callable_of Tryz.func119 (by kernel_rfl) (by kernel_rfl)
-- 120 internal/strconv.AppendUint
theorem cl120 : Callable Tryz.prog 120 := callable_of Tryz.func120 (by kernel_rfl) (by kernel_rfl)
-- 121 internal/strconv.ParseInt
theorem cl121 : Callable Tryz.prog 121 := callable_of Tryz.func121 (by kernel_rfl) (by kernel_rfl)
-- 122 strconv.syntaxError
theorem cl122 : Callable Tryz.prog 122 := callable_of Tryz.func122 (by kernel_rfl) (by kernel_rfl)
-- 123 strconv.rangeError
theorem cl123 : Callable Tryz.prog 123 := callable_of Tryz.func123 (by kernel_rfl) (by kernel_rfl)
-- 124 strconv.baseError
theorem cl124 : Callable Tryz.prog 124 := callable_of Tryz.func124 (by kernel_rfl) (by kernel_rfl)
-- 125 strconv.bitSizeError
theorem cl125 : Callable Tryz.prog 125 := callable_of Tryz.func125 (by kernel_rfl) (by kernel_rfl)
-- 126 internal/strconv.FormatInt
theorem cl126 : Callable Tryz.prog 126 := callable_of Tryz.func126 (by kernel_rfl) (by kernel_rfl)
-- 127 strings.trimLeftByte
theorem cl127 : Callable Tryz.prog 127 := callable_of Tryz.func127 (by kernel_rfl) (by kernel_rfl)
-- 128 strings.trimRightByte
theorem cl128 : Callable Tryz.prog 128 := callable_of Tryz.func128 (by kernel_rfl) (by kernel_rfl)
-- 129 strings.makeASCIISet
theorem cl129 : Callable Tryz.prog 129 := callable_of Tryz.func129 (by kernel_rfl) (by kernel_rfl)
-- 130 strings.trimLeftASCII
theorem cl130 : Callable Tryz.prog 130 := callable_of Tryz.func130 (by kernel_rfl) (by kernel_rfl)
-- 131 strings.trimRightASCII
theorem cl131 : Callable Tryz.prog 131 := callable_of Tryz.func131 (by kernel_rfl) (by kernel_rfl)
-- 132 strings.trimLeftUnicode
theorem cl132 : Callable Tryz.prog 132 := callable_of Tryz.func132 (by kernel_rfl) (by kernel_rfl)
-- 133 strings.trimRightUnicode
theorem cl133 : Callable Tryz.prog 133 := callable_of Tryz.func133 (by kernel_rfl) (by kernel_rfl)
-- 134 slices.IndexFunc[[]string,string]
theorem cl134 : Callable Tryz.prog 134 := callable_of Tryz.func134 (by kernel_rfl) (by kernel_rfl)
-- 135 strings.Index
theorem cl135 : Callable Tryz.prog 135 := callable_of Tryz.func135 (by kernel_rfl) (by kernel_rfl)
-- 136 slices.IndexFunc[[]quiltwork/prim.Prim,quiltwork/prim.Prim]
theorem cl136 : Callable Tryz.prog 136 := callable_of Tryz.func136 (by kernel_rfl) (by kernel_rfl)
-- 137 internal/strconv.small
theorem cl137 : Callable Tryz.prog 137 := callable_of Tryz.func137 (by kernel_rfl) (by kernel_rfl)
-- 138 internal/strconv.numDigits
theorem cl138 : Callable Tryz.prog 138 := callable_of Tryz.func138 (by kernel_rfl) (by kernel_rfl)
-- 139 internal/strconv.formatBase10
theorem cl139 : Callable Tryz.prog 139 := callable_of Tryz.func139 (by kernel_rfl) (by kernel_rfl)
-- 140 internal/strconv.formatBits
theorem cl140 : Callable Tryz.prog 140 := callable_of Tryz.func140 (by kernel_rfl) (by kernel_rfl)
-- 141 internal/strconv.ParseUint
theorem cl141 : Callable Tryz.prog 141 := callable_of Tryz.func141 (by kernel_rfl) (by kernel_rfl)
-- 142 internal/stringslite.Clone
theorem cl142 : Callable Tryz.prog 142 := callable_of Tryz.func142 (by kernel_rfl) (by kernel_rfl)
-- 143 errors.New
theorem cl143 : Callable Tryz.prog 143 := callable_of Tryz.func143 (by kernel_rfl) (by kernel_rfl)
-- 144 (*strings.asciiSet).contains
theorem cl144 : Callable Tryz.prog 144 := callable_of Tryz.func144 (by kernel_rfl) (by kernel_rfl)
-- 145 unicode/utf8.DecodeRuneInString
theorem cl145 : Callable Tryz.prog 145 := callable_of Tryz.func145 (by kernel_rfl) (by kernel_rfl)
-- 146 strings.ContainsRune
theorem cl146 : Callable Tryz.prog 146 := callable_of Tryz.func146 (by kernel_rfl) (by kernel_rfl)
-- 147 unicode/utf8.DecodeLastRuneInString
theorem cl147 : Callable Tryz.prog 147 := callable_of Tryz.func147 (by kernel_rfl) (by kernel_rfl)
-- 148 internal/stringslite.Index
theorem cl148 : Callable Tryz.prog 148 := callable_of Tryz.func148 (by kernel_rfl) (by kernel_rfl)
-- 149 internal/strconv.log10Pow2
theorem cl149 : Callable Tryz.prog 149 := callable_of Tryz.func149 (by kernel_rfl) (by kernel_rfl)
-- 150 math/bits.Len64
theorem cl150 : Callable Tryz.prog 150 := callable_of Tryz.func150 (by kernel_rfl) (by kernel_rfl)
-- 151 internal/strconv.bool2[int]
theorem cl151 : Callable Tryz.prog 151 := callable_of Tryz.func151 (by kernel_rfl) (by kernel_rfl)
-- 152 internal/strconv.isPowerOfTwo
theorem cl152 : Callable Tryz.prog 152 := callable_of Tryz.func152 (by kernel_rfl) (by kernel_rfl)
-- 153 math/bits.TrailingZeros
theorem cl153 : Callable Tryz.prog 153 := callable_of Tryz.func153 (by kernel_rfl) (by kernel_rfl)
-- 154 internal/strconv.lower
theorem cl154 : Callable Tryz.prog 154 := callable_of Tryz.func154 (by kernel_rfl) (by kernel_rfl)
-- 155 internal/strconv.underscoreOK
theorem cl155 : Callable Tryz.prog 155 := callable_of Tryz.func155 (by kernel_rfl) (by kernel_rfl)
-- 156 unicode/utf8.decodeRuneInStringSlow
theorem cl156 : Callable Tryz.prog 156 := callable_of Tryz.func156 (by kernel_rfl) (by kernel_rfl)
-- 157 strings.IndexRune
theorem cl157 : Callable Tryz.prog 157 := callable_of Tryz.func157 (by kernel_rfl) (by kernel_rfl)
-- 158 unicode/utf8.RuneStart
theorem cl158 : Callable Tryz.prog 158 := callable_of Tryz.func158 (by kernel_rfl) (by kernel_rfl)
-- 159 internal/stringslite.IndexByte
theorem cl159 : Callable Tryz.prog 159 := callable_of Tryz.func159 (by kernel_rfl) (by kernel_rfl)
-- 160 internal/bytealg.IndexString
-- 161 internal/bytealg.Cutover
theorem cl161 : Callable Tryz.prog 161 := callable_of Tryz.func161 (by kernel_rfl) (by kernel_rfl)
-- 162 internal/bytealg.IndexRabinKarp[string]
theorem cl162 : Callable Tryz.prog 162 := callable_of Tryz.func162 (by kernel_rfl) (by kernel_rfl)
-- 163 math/bits.TrailingZeros32
theorem cl163 : Callable Tryz.prog 163 := callable_of Tryz.func163 (by kernel_rfl) (by kernel_rfl)
-- 164 math/bits.TrailingZeros64
theorem cl164 : Callable Tryz.prog 164 := callable_of Tryz.func164 (by kernel_rfl) (by kernel_rfl)
-- 165 strings.IndexByte
theorem cl165 : Callable Tryz.prog 165 := callable_of Tryz.func165 (by kernel_rfl) (by kernel_rfl)
-- 166 unicode/utf8.ValidRune
theorem cl166 : Callable Tryz.prog 166 := callable_of Tryz.func166 (by kernel_rfl) (by kernel_rfl)
-- 167 internal/bytealg.IndexByteString
-- 168 internal/bytealg.hashStr[string]
theorem cl168 : Callable Tryz.prog 168 := callable_of Tryz.func168 (by kernel_rfl) (by kernel_rfl)
-- 169 (runtime.boundsError).Error
-- 170 (runtime.boundsError).RuntimeError
-- 171 (runtime.errorString).Error
-- 172 (runtime.errorString).RuntimeError
-- 173 (runtime.plainError).Error
-- 174 (runtime.plainError).RuntimeError
-- 175 (runtime.errorAddressString).Error
-- 176 (runtime.errorAddressString).RuntimeError
-- 177 (*runtime.TypeAssertionError).Error
-- 178 (*runtime.TypeAssertionError).RuntimeError
-- 179 (*runtime.PanicNilError).Error
-- 180 (*runtime.PanicNilError).RuntimeError
-- 181 (*internal/abi.Type).Align
-- 182 (internal/runtime/maps.unhashableTypeError).Error
-- 183 (internal/runtime/maps.unhashableTypeError).RuntimeError
-- 184 (internal/strconv.Error).Error
-- 185 (*strconv.NumError).Error
-- 186 (*errors.errorString).Error
-- 187 (internal/abi.Kind).String
-- 188 var's%20door:%20gosem.cut.vars%20holds%20initialisers%20alone;%20see%20the%20manifest's%20row%20cutvarsword%20(look%2011,%20test%20files%20too)
-- 189 var's%20door:%20internal/strconv.uint64pow10%20is%20laid%20by%20its%20own%20initialiser,%20plain%20data%20(look%2011)
-- 190 var's%20door:%20math/bits.deBruijn32tab%20is%20laid%20by%20its%20own%20initialiser,%20plain%20data%20(look%2011)
-- 191 var's%20door:%20math/bits.deBruijn64tab%20is%20laid%20by%20its%20own%20initialiser,%20plain%20data%20(look%2011)
-- 192 var's%20door:%20strconv.ErrRange%20is%20laid%20by%20its%20own%20call%20of%20errors.New%20on%20one%20literal%20(look%2011)
-- 193 var's%20door:%20strconv.ErrSyntax%20is%20laid%20by%20its%20own%20call%20of%20errors.New%20on%20one%20literal%20(look%2011)
-- 194 var's%20door:%20the%20look%20of%20gosem.cut.vars%20went%20over%20the%20folder%20that%20the%20caller%20named%20as%20the%20repository's%20root%20(look%2011)
-- 195 var's%20door:%20unicode/utf8.acceptRanges%20is%20laid%20by%20its%20own%20initialiser,%20plain%20data%20(look%2011)
-- 196 var's%20door:%20unicode/utf8.first%20is%20laid%20by%20its%20text%20alone%20(pinned%201)
-- 197 gosem.cut.vars
theorem cl197 : Callable Tryz.prog 197 := callable_of Tryz.func197 (by kernel_rfl) (by kernel_rfl)
end Go.Proofs.YtmgkeippepeggaaGreatDoor
/- Chapter 09: the library's numerals, as contracts. -/
namespace Go.Proofs.YtmgkeippepeggaaGreatDoor
open Go Go.SL Go.Lib Go.Sort
abbrev tabC : List Value := pow10Tab.map fun z => Value.int .u64 z
/-- The table of the powers of ten. -/
abbrev G3 : A := BlkR 3 189 tabC
theorem tab_is {L : List A} (h : Has L G3) {w : World} {O : Perm} (hs : Stars L w O) : TabIs Tryz.prog w "internal/strconv.uint64pow10" .u64 pow10Tab := by
  obtain ⟨_, fz, hh⟩ := h w O hs
  have hg : Tryz.prog.globalNamed "internal/strconv.uint64pow10" = some 3 := by kernel_rfl
  unfold TabIs World.var?
  rw [hg]
  show (match w.heap[3]? with | some (.cells cs _ _) => some cs | _ => none) = _
  rw [hh]
theorem numDigits_con (u : Nat) (h1 : 1 ≤ u) (h2 : u < 18446744073709551616) : Con Tryz.prog 138 [.int .u64 u] [G3] (γ := Unit) (fun _ => .int .i64 (nDigits u)) (fun _ => True) (fun _ => []) :=
  con_pure fun w _ hs => Tryz.internal_strconv_numDigits u h1 h2 w (tab_is Has.here hs)
theorem small_con (i : Nat) (h : i < 100) : Con Tryz.prog 137 [.int .i64 i] [] (γ := Unit) (fun _ => .string (sB (decDigits i))) (fun _ => True) (fun _ => []) :=
  con_pure fun w _ _ => Tryz.internal_strconv_small i h w
abbrev byteV (b : UInt8) : Value := .int .u8 (b.toNat : Int)
/-- Cells that are laid over the first of others. -/
theorem put_front {n : Nat} {u v' : Nat} {dk : Array UInt8} {Z : List Value} (hn : n = nDigits u) (hf : FmtInv n u 0 v' dk) (h : n ≤ Z.length) : putCells byteV 0 dk Z.toArray = ((decDigits u).map byteV ++ Z.drop n).toArray := by
  have hdl := decDigits_length u
  have hdk : dk.size = n := hf.size
  apply Array.ext_getElem?
  intro j
  rw [putCells, Array.getElem?_mapIdx, List.getElem?_toArray, List.getElem?_toArray]
  by_cases hjn : j < n
  · rw [List.getElem?_append_left (by rw [List.length_map, hdl]; omega), List.getElem?_map, List.getElem?_eq_getElem (l := decDigits u) (i := j) (by rw [hdl]; omega), List.getElem?_eq_getElem (l := Z) (i := j) (by omega)]
    simp only [Option.map_some, Nat.zero_le, true_and, Nat.zero_add, hdk, Nat.sub_zero, if_pos hjn]
    rw [row_is_numeral (dk := dk) (v' := v') (by rw [← hn]; exact hf)]
  · rw [List.getElem?_append_right (by rw [List.length_map, hdl]; omega), List.getElem?_drop, List.length_map, hdl, show n + (j - nDigits u) = j by omega]
    cases Z[j]? with
    | none => rfl
    | some x => simp only [Option.map_some, Nat.zero_le, true_and, Nat.zero_add, hdk, if_neg hjn]
theorem fmt_con (b n u : Nat) (Z : List Value) (hZl : Z.length = 24) (hZ : ∀ j, j < 24 → Z[j]? = some (Value.int .u8 0)) (hn : n = nDigits u) (hu : u < 18446744073709551616) (h24 : n ≤ 24) : Con Tryz.prog 139 [.slice (some ⟨b, 0, none⟩) n 24, .int .u64 u] [Blk b 172 Z] (γ := Unit) (fun _ => .tuple #[]) (fun _ => True)
    (fun _ => [Blk b 172 ((decDigits u).map byteV ++ Z.drop n)]) := fun w O hs hd => by
  obtain ⟨O1, O2, s, ⟨hb2, hh⟩, _⟩ := hs
  have hO := s.l b
  have hsz : (Array.replicate n (0 : UInt8)).size = n := Array.size_replicate
  have hH : Holds byteV w b 0 (Array.replicate n (0 : UInt8)) := fun j hj => by
    rw [hsz] at hj
    refine ⟨?_, by simp [World.frozen?, hh]⟩
    rw [getElem!_pos _ j (by rw [hsz]; exact hj)]
    have hj2 := hZ j (by omega)
    simp only [World.cell?, hh, Nat.zero_add, List.getElem?_toArray, Array.getElem_replicate]
    rw [hj2]; rfl
  have hc := Tryz.internal_strconv_formatBase10 b 0 24 u (Array.replicate n 0) w hH (by rw [hsz, hn]; exact lt_pow_nDigits u) hu (by rw [hsz]; omega)
  rw [hsz] at hc
  refine hc.mono fun e w' ⟨he, k, v', dk, hw, hf⟩ => ?_
  have hheap : w'.heap = w.heap.modify b (onCells (putCells byteV 0 dk)) := by rw [hw]; rfl
  have hget : w'.heap[b]? = some (.cells ((decDigits u).map byteV ++ Z.drop n).toArray 172 (0, 0)) := by
    rw [hheap, Array.getElem?_modify, if_pos rfl, hh]
    show some (Obj.cells (putCells byteV 0 dk Z.toArray) 172 (0, 0)) = _
    rw [put_front hn hf (by omega)]
  have hother : ∀ k, k ≠ b → w'.heap[k]? = w.heap[k]? := fun k hk => by rw [hheap, Array.getElem?_modify, if_neg (fun h => hk h.symm)]
  refine ⟨(), O, he, trivial, ⟨O, fun _ => 0, ⟨fun _ => Nat.le_refl _, fun _ => Nat.zero_le _, fun _ _ => rfl, fun _ h => absurd h (by simp)⟩, ⟨by omega, hget⟩, trivial⟩, ⟨by rw [hw]; rfl, by rw [hw]; rfl, by rw [hw]; rfl, by rw [hheap, Array.size_modify]; exact Nat.le_refl _, fun k _ h2 => hother k fun q => by subst q; omega, fun _ _ => Nat.le_refl _, fun k h => by rw [hheap, Array.size_modify]; exact hd k h⟩⟩
end Go.Proofs.YtmgkeippepeggaaGreatDoor
/- Chapter 09: where a number ends, in a string from some place on. -/
namespace Go.Proofs.YtmgkeippepeggaaGreatDoor
open Go Go.Lib
def leftB (B : ByteArray) (k : Nat) : List UInt8 := B.data.toList.drop k
theorem leftB_len (B : ByteArray) (k : Nat) : (leftB B k).length = B.size - k := by unfold leftB; rw [List.length_drop, ba_len]
theorem leftB_get {B : ByteArray} {a j : Nat} (h : a + j < B.data.toList.length) : (leftB B a)[j]? = some (B.data.toList[a + j]) := by
  unfold leftB
  rw [List.getElem?_drop, List.getElem?_eq_getElem h]
theorem find_left {B : ByteArray} {a k : Nat} {e : UInt8} (h1 : a ≤ k) (hk : k < B.data.toList.length) (he : B.data.toList[k] = e) (hb : ∀ (j : Nat) (h : j < B.data.toList.length), a ≤ j → j < k → B.data.toList[j] ≠ e) : (leftB B a).findIdx? (· == e) = some (k - a) := by
  rw [List.findIdx?_eq_some_iff_getElem]
  have hl : k - a < (leftB B a).length := by rw [leftB_len, ← ba_len]; omega
  have hg : ∀ (j : Nat) (hj : j < (leftB B a).length), (leftB B a)[j] = B.data.toList[a + j]'(by rw [leftB_len, ← ba_len] at hj; omega) := fun j hj => by
    have := leftB_get (B := B) (a := a) (j := j) (by rw [leftB_len, ← ba_len] at hj; omega)
    rw [List.getElem?_eq_getElem hj] at this
    exact Option.some.inj this
  refine ⟨hl, ?_, fun j hj => ?_⟩
  · rw [hg _ hl]
    simp only [show a + (k - a) = k by omega, he, BEq.rfl]
  · rw [hg _ (by omega)]
    have := hb (a + j) (by rw [leftB_len, ← ba_len] at hl; omega) (by omega) (by omega)
    simpa using this
theorem find_nowhere {B : ByteArray} {a : Nat} {e : UInt8} (hb : ∀ (j : Nat) (h : j < B.data.toList.length), a ≤ j → B.data.toList[j] ≠ e) : (leftB B a).findIdx? (· == e) = none := by
  rw [List.findIdx?_eq_none_iff]
  intro x hx
  obtain ⟨j, hj, rfl⟩ := List.mem_iff_getElem.1 hx
  have hj' : a + j < B.data.toList.length := by rw [leftB_len, ← ba_len] at hj; omega
  have := leftB_get (B := B) (a := a) (j := j) hj'
  rw [List.getElem?_eq_getElem hj] at this
  rw [Option.some.inj this]
  simpa using hb (a + j) hj' (by omega)
/-- A number's value stays small. -/
theorem val_bound : ∀ (s : List UInt8) (a : Int), 0 ≤ a → 0 ≤ s.foldl stepV a ∧ s.foldl stepV a < (a + 1) * 10 ^ s.length
  | [], a, h => by simp; omega
  | b :: s, a, h => by
    have hs : 0 ≤ stepV a b ∧ stepV a b + 1 ≤ (a + 1) * 10 := by
      unfold stepV
      split <;> omega
    obtain ⟨h1, h2⟩ := val_bound s (stepV a b) hs.1
    refine ⟨h1, Int.lt_of_lt_of_le h2 ?_⟩
    rw [List.length_cons, Int.pow_succ, Int.mul_comm (10 ^ s.length) 10, ← Int.mul_assoc]
    exact Int.mul_le_mul_of_nonneg_right hs.2 (Int.pow_nonneg (by decide))
theorem val_small {s : List UInt8} (h : s.length ≤ 14) : 0 ≤ valR s ∧ valR s < 100000000000000 := by
  obtain ⟨h1, h2⟩ := val_bound s 0 (by decide)
  refine ⟨h1, Int.lt_of_lt_of_le h2 ?_⟩
  have h3 : 10 ^ s.length ≤ 10 ^ 14 := Nat.pow_le_pow_right (by decide) h
  have e : (10 : Int) ^ s.length = ((10 ^ s.length : Nat) : Int) := by simp
  have e2 : (10 : Nat) ^ 14 = 100000000000000 := by decide
  rw [e]; omega
theorem valR_next {l : List UInt8} {k : Nat} (hk : k < l.length) : valR (l.take (k + 1)) = stepV (valR (l.take k)) l[k] := by
  unfold valR
  rw [List.take_succ_eq_append_getElem hk, List.foldl_append]; rfl
end Go.Proofs.YtmgkeippepeggaaGreatDoor
/- Chapter 09: the states of the document's reader: ends of a string. -/
namespace Go.Proofs.YtmgkeippepeggaaGreatDoor
open Go Go.Lib
def EndsB (B : ByteArray) (s : St9) : Prop := ∃ k, k ≤ B.size ∧ s.1 = leftB B k
/-- Where the document stands, when this much is left. -/
def plc (B : ByteArray) (s : St9) : Nat := B.size - s.1.length
theorem EndsB.at {B : ByteArray} {s : St9} (h : EndsB B s) : plc B s ≤ B.size ∧ s.1 = leftB B (plc B s) ∧ s.1.length = B.size - plc B s := by
  obtain ⟨k, hk, e⟩ := h
  have hp : plc B s = k := by unfold plc; rw [e, leftB_len]; omega
  rw [hp]
  exact ⟨hk, e, by rw [e, leftB_len]⟩
theorem EndsB.eta {B : ByteArray} {s : St9} (h : EndsB B s) : s = (leftB B (plc B s), s.2) := Prod.ext h.at.2.1 rfl
theorem EndsB.drop {B : ByteArray} {s : St9} (h : EndsB B s) {m : Nat} (hm : m ≤ s.1.length) (b : Bool) : EndsB B (s.1.drop m, b) ∧ plc B (s.1.drop m, b) = plc B s + m := by
  obtain ⟨k, hk, e⟩ := h
  have hl : s.1.length = B.size - k := by rw [e, leftB_len]
  refine ⟨⟨k + m, by omega, ?_⟩, ?_⟩
  · show s.1.drop m = _
    rw [e]; unfold leftB; rw [List.drop_drop]
  · unfold plc
    show B.size - (s.1.drop m).length = _
    rw [List.length_drop]; omega
theorem EndsB.goes {α : Type} {take : St9 → St9 × α} (hg : GoesP take) {B : ByteArray} {s : St9} (h : EndsB B s) : EndsB B (take s).1 := by
  obtain ⟨j, hj, e⟩ := hg s
  obtain ⟨k, hk, e2⟩ := (h.drop hj (take s).1.2).1
  exact ⟨k, hk, e.trans e2⟩
theorem EndsB.start (B : ByteArray) (b : Bool) : EndsB B (B.data.toList, b) ∧ plc B (B.data.toList, b) = 0 := ⟨⟨0, Nat.zero_le _, rfl⟩, by
  unfold plc
  show B.size - B.data.toList.length = 0
  rw [ba_len]; omega⟩
theorem plc_spoil (B : ByteArray) (s : St9) : plc B (spoil9 s) = plc B s := rfl
theorem numS_val {s : List UInt8} {n : Int} (h : numS s = some n) : n = valS s := by
  unfold numS at h
  split at h
  · exact (Option.some.inj h).symm
  · cases h
theorem num9_bound {e : UInt8} {s : St9} {n : Int} {m : Nat} (h : num9 e s = some (n, m)) : 0 < m ∧ m ≤ s.1.length ∧ -100000000000000 < n ∧ n < 100000000000000 ∧ s.2 = false := by
  unfold num9 at h
  split at h
  · cases h
  · rename_i hb
    rw [numberR_full] at h
    cases hf : s.1.findIdx? (· == e) with
    | none => rw [hf] at h; cases h
    | some k =>
      rw [hf] at h
      obtain ⟨h1, _, _⟩ := List.findIdx?_eq_some_iff_getElem.1 hf
      dsimp only at h
      split at h
      · cases h
      · rename_i hk
        obtain ⟨n', hn, e'⟩ := Option.map_eq_some_iff.1 h
        cases e'
        have hs := val_small (s := s.1.take k) (by rw [List.length_take]; omega)
        have hv := numS_val hn
        unfold valS at hv
        refine ⟨by omega, by omega, ?_, ?_, by simpa using hb⟩
        · split at hv <;> omega
        · split at hv <;> omega
end Go.Proofs.YtmgkeippepeggaaGreatDoor

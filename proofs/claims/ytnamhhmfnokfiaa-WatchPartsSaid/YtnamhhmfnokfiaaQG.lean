/- Rows: what a law's arguments are, opened as the engine's assertions; the row of a law that returns true and leaves its arguments. -/
import Derived.Test.YtnamhhmfnokfiaaQ9
import Derived.ProofKit
import Derived.OpenShut
import Derived.ShutString
import Derived.ChangeOld
import Derived.Below
import Derived.Carry
import Derived.SizedLaws
import Derived.LaidMore
import Derived.LaidLaws
import Derived.HandedShaped
import Derived.WalkKit
import Derived.SevenTiedAt
import Derived.Shelf.Vars
namespace Go.SL
open Go Go.RowKit

/-- All that there is may be read. -/
def readAll (w : World) : Perm := fun b => if b < w.heap.size then 1 else 0
theorem readAll_dom {w : World} : ∀ b, readAll w b ≠ 0 → b < w.heap.size := fun b h => by
  unfold readAll at h; split at h
  · assumption
  · exact absurd rfl h
theorem readAll_lt {w : World} {b : Nat} (h : b < w.heap.size) : 1 ≤ readAll w b := by unfold readAll; rw [if_pos h]; exact Nat.le_refl _
theorem readAll_one {w : World} (b : Nat) : readAll w b ≤ 1 := by unfold readAll; split <;> omega
theorem below_of_rel {w w' : World} {O' : Perm} (h : Rel w (readAll w) w' O') : Below w.heap.size w w' :=
  ⟨h.os, h.tape, h.output, h.size, fun b hb => h.old b hb (by have := readAll_one (w := w) b; omega)⟩
theorem split_dup {O : Perm} (h : ∀ b, O b ≤ 1) : Split O O O := ⟨fun _ => Nat.le_refl _, fun _ => Nat.le_refl _, fun b hb => by have := h b; omega, fun b hb => by have := h b; omega⟩
theorem stars_all {w : World} {O : Perm} (h : ∀ b, O b ≤ 1) : ∀ {L : List A}, (∀ a ∈ L, a.h w O) → Stars L w O
  | [], _ => trivial
  | a :: L, k => ⟨O, O, split_dup h, k a (by simp), stars_all h fun b hb => k b (by simp [hb])⟩
theorem calls_of_con {P : Program} {f : FuncId} {args : List Value} {L : List A} {v : Value} (h : Con P f args L (γ := Unit) (fun _ => v) (fun _ => True) (fun _ => [])) {w : World} (hL : ∀ a ∈ L, a.h w (readAll w)) :
    Calls P f args.toArray w fun e w' => e = .returned v ∧ Below w.heap.size w w' :=
  (h w (readAll w) (stars_all readAll_one hL) readAll_dom).mono fun _ _ ⟨_, _, he, _, _, hr⟩ => ⟨he, below_of_rel hr⟩

/-! ### opening -/
def Opens {α : Type} (P : Program) (t : TypeId) (e : Enc α) (good : α → Prop) : Prop :=
  ∀ (H : Type) (enc : TypeId × Value → H) (W : World) (fuel : Nat) (cs : List Value) (x : DataW H × List MemPlace), DataW.trod enc P W 0 (fun _ => true) true fuel t cs = some x → (∀ n ∈ x.1.weights P t, n ≤ reachBytes) →
    ∃ z, e.rd W (readAll W) cs z ∧ good z
theorem opens_str {P : Program} {t : TypeId} (ht : P.underlying t = some .string) : Opens P t eStr (fun s => s.size ≤ reachBytes) := by
  intro H enc W fuel cs x h hw
  obtain ⟨s, rfl, rfl, _⟩ := DataW.trod_string ht h
  refine ⟨s, rfl, ?_⟩
  have := hw s.data.toList.length (by simp [DataW.weights])
  rwa [← Lib.size_eq] at this
theorem opens_int {P : Program} {t : TypeId} {K : IntKind} (ht : P.underlying t = some (.int K)) : Opens P t (eInt K) (fun n => (Lit.int K n).wf = true) := by
  intro H enc W fuel cs x h hw
  obtain ⟨n, rfl, rfl, hn⟩ := DataW.trod_int ht h
  exact ⟨n, rfl, hn⟩
theorem opens_bool {P : Program} {t : TypeId} (ht : P.underlying t = some .bool) : Opens P t eBool (fun _ => True) := by
  intro H enc W fuel cs x h hw
  obtain ⟨n, rfl, rfl⟩ := DataW.trod_bool ht h
  exact ⟨n, rfl, trivial⟩
theorem weights_all {H : Type} {P : Program} {u : TypeId} {n : Nat} : ∀ {l : List (DataW H)} {d : DataW H}, d ∈ l → n ∈ d.weights P u → n ∈ DataW.weightsAll P u l
  | d0 :: l, d, hd, hn => by
    simp only [DataW.weightsAll, List.mem_append]
    rcases List.mem_cons.1 hd with rfl | hd
    · exact .inl hn
    · exact .inr (weights_all hd hn)
theorem weights_each {H : Type} {P : Program} {n : Nat} : ∀ {ts : List TypeId} {l : List (DataW H)} {i : Nat} {u : TypeId} {d : DataW H}, ts[i]? = some u → l[i]? = some d → n ∈ d.weights P u → n ∈ DataW.weightsEach P ts l
  | t :: ts, d0 :: l, 0, u, d, ht, hd, hn => by
    simp at ht hd; subst ht; subst hd
    simp only [DataW.weightsEach, List.mem_append]; exact .inl hn
  | t :: ts, d0 :: l, i + 1, u, d, ht, hd, hn => by
    simp at ht hd
    simp only [DataW.weightsEach, List.mem_append]; exact .inr (weights_each ht hd hn)
  | [], _, _, _, _, ht, _, _ => by simp at ht
  | _ :: _, [], _, _, _, _, hd, _ => by simp at hd

theorem opens_slice {α : Type} {P : Program} {t u : TypeId} {e : Enc α} {good : α → Prop} (ht : P.underlying t = some (.slice u)) (hc : P.cellsOf u = e.n) (hn : 0 < e.n) (h : Opens P u e good) :
    Opens P t (eSl e) (fun xs => xs.length * P.bytesOf u ≤ reachBytes ∧ ∀ x ∈ xs, good x) := by
  intro H enc W fuel cs x hx hw
  rcases DataW.trod_slice ht hx with ⟨rfl, rfl⟩ | ⟨a, len, cap, elems, rest, n, _, rfl, rfl, _, hl, hm, hlen, hel, hsp, _⟩
  · exact ⟨[], ⟨_, rfl, none, 0, rfl, Nat.le_refl _, Nat.zero_le _, .inl ⟨.inl rfl, rfl⟩⟩, by simp, fun x hx => by cases hx⟩
  obtain ⟨hrl, hr⟩ := hsp rfl
  have hwt : ∀ y ∈ elems, ∀ k ∈ y.1.weights P u, k ≤ reachBytes := fun y hy k hk => hw k (by
    simp only [DataW.weights, ht, List.mem_cons, List.mem_append]
    exact .inr (.inl (weights_all (List.mem_map_of_mem hy) hk)))
  have hbytes : len * P.bytesOf u ≤ reachBytes := by
    have := hw ((elems.length + rest.length) * P.bytesOf u) (by simp [DataW.weights, ht])
    rw [hlen] at this
    exact Nat.le_trans (Nat.mul_le_mul_right _ (Nat.le_add_right _ _)) this
  rw [hc] at hel hr
  by_cases hcap : cap = 0
  · refine ⟨[], ⟨_, rfl, some a, cap, ?_, Nat.zero_le _, hm, .inl ⟨.inr hcap, rfl⟩⟩, by simp, fun x hx => by cases hx⟩
    rw [show len = 0 by omega]; rfl
  · -- the first cell is there
    have hfirst : ∃ u0, W.cell? a = some u0 := by
      have key : ∃ c0 y0, W.cells? 0 (a.add (0 * e.n)) e.n = some c0 ∧ some y0 = (some y0 : Option (DataW H × List MemPlace)) := by
        by_cases h0 : len = 0
        · have := hr 0 (by omega)
          rw [h0, List.getElem?_eq_getElem (by omega), Option.bind_eq_some_iff] at this
          obtain ⟨c0, hc0, _⟩ := this
          exact ⟨c0, rest[0], by simpa using hc0, rfl⟩
        · have := hel 0 (by omega)
          rw [List.getElem?_eq_getElem (by omega), Option.bind_eq_some_iff] at this
          obtain ⟨c0, hc0, _⟩ := this
          exact ⟨c0, elems[0], hc0, rfl⟩
      obtain ⟨c0, _, hc0, _⟩ := key
      obtain ⟨_, hl0, hg⟩ := World.cells?_some hc0
      have := hg 0 hn
      rw [List.getElem?_eq_getElem (by omega)] at this
      exact ⟨_, by simpa [Addr.add] using this⟩
    obtain ⟨u0, hu0⟩ := hfirst
    have hspot : a.spot = none := by
      unfold World.cell? at hu0
      split at hu0
      · split at hu0
        · cases hu0
        · rename_i hs; simpa using hs
      · cases hu0
    have hblk : a.block < W.heap.size := by
      unfold World.cell? at hu0
      split at hu0
      · rename_i hh
        rcases Nat.lt_or_ge a.block W.heap.size with h | h
        · exact h
        · rw [Array.getElem?_eq_none h] at hh; cases hh
      · cases hu0
    obtain ⟨b, off, sp⟩ := a
    simp only at hspot hblk
    subst hspot
    have hadd : ∀ j : Nat, (⟨b, off, none⟩ : Addr).add j = ⟨b, off + j, none⟩ := fun j => by
      unfold Addr.add; split
      · rename_i h; rw [h, Nat.add_zero]
      · rfl
    have main : ∀ k, k ≤ len → ∃ cs xs, xs.length = k ∧ Rows e W (readAll W) cs xs ∧ (∀ j v, cs[j]? = some v → W.cell? ⟨b, off + j, none⟩ = some v) ∧ ∀ x ∈ xs, good x := by
      intro k
      induction k with
      | zero => exact fun _ => ⟨[], [], rfl, rfl, fun j v hj => by simp at hj, fun x hx => by cases hx⟩
      | succ k ih =>
        intro hk
        obtain ⟨cs, xs, h1, h2, h3, h4⟩ := ih (by omega)
        have := hel k (by omega)
        rw [List.getElem?_eq_getElem (by omega), Option.bind_eq_some_iff] at this
        obtain ⟨c0, hc0, hy0⟩ := this
        obtain ⟨z, hz, hg⟩ := h H enc W n c0 _ hy0 (hwt _ (List.getElem_mem _))
        obtain ⟨_, hl0, hcell⟩ := World.cells?_some hc0
        refine ⟨cs ++ c0, xs ++ [z], by simp [h1], h2.append ⟨c0, [], by simp, hz, rfl⟩, fun j v hj => ?_, fun x hx => ?_⟩
        · have hcl : cs.length = k * e.n := by rw [h2.length, h1]
          rcases Nat.lt_or_ge j cs.length with hj1 | hj1
          · rw [List.getElem?_append_left hj1] at hj; exact h3 j v hj
          · rw [List.getElem?_append_right hj1] at hj
            have hj2 : j - cs.length < e.n := by
              rcases Nat.lt_or_ge (j - cs.length) c0.length with h | h
              · omega
              · rw [List.getElem?_eq_none h] at hj; cases hj
            have := hcell (j - cs.length) hj2
            rw [hadd, hj] at this
            rw [← this, show (⟨b, off + k * e.n, none⟩ : Addr).add (j - cs.length) = ⟨b, off + j, none⟩ from ?_]
            unfold Addr.add
            split
            · rename_i h; congr 1; omega
            · show (⟨b, off + k * e.n + (j - cs.length), none⟩ : Addr) = _
              congr 1; omega
        · rcases List.mem_append.1 hx with hx | hx
          · exact h4 x hx
          · rw [List.mem_singleton.1 hx]; exact hg
    obtain ⟨cs, xs, h1, h2, h3, h4⟩ := main len (Nat.le_refl _)
    refine ⟨xs, ⟨_, rfl, some ⟨b, off, none⟩, cap, by rw [h1], by omega, hm, .inr ⟨b, off, cs, rfl, readAll_lt hblk, h2, h3⟩⟩, by rw [h1]; exact hbytes, h4⟩

theorem opens_good {α : Type} {P : Program} {t : TypeId} {e : Enc α} {good good' : α → Prop} (h : Opens P t e good) (hg : ∀ x, good x → good' x) : Opens P t e good' := fun H enc W fuel cs x hx hw => by
  obtain ⟨z, h1, h2⟩ := h H enc W fuel cs x hx hw
  exact ⟨z, h1, hg z h2⟩

/-- The fields of a struct from number i on, whose cells begin at off. -/
def OpensFrom {α : Type} (P : Program) (fs : Array Field) (i off : Nat) (e : Enc α) (good : α → Prop) : Prop :=
  ∀ (H : Type) (enc : TypeId × Value → H) (W : World) (n : Nat) (cs : List Value) (xs : List (DataW H × List MemPlace)), cs.length = off + e.n → xs.length = fs.size →
    (∀ (j : Nat) (f : Field), i ≤ j → fs[j]? = some f → DataW.trod enc P W 0 (fun _ => true) true n f.type ((cs.drop f.offset).take (P.cellsOf f.type)) = xs[j]?) →
    (∀ (j : Nat) (f : Field) (y : DataW H × List MemPlace), i ≤ j → fs[j]? = some f → xs[j]? = some y → ∀ k ∈ y.1.weights P f.type, k ≤ reachBytes) →
    ∃ z, e.rd W (readAll W) (cs.drop off) z ∧ good z
theorem opens_last {α : Type} {P : Program} {fs : Array Field} {i off : Nat} {f : Field} {e : Enc α} {good : α → Prop} (hf : fs[i]? = some f) (ho : f.offset = off) (hc : P.cellsOf f.type = e.n) (h : Opens P f.type e good) : OpensFrom P fs i off e good := by
  intro H enc W n cs xs hl hx hr hw
  have hi : i < fs.size := by
    rcases Nat.lt_or_ge i fs.size with h | h
    · exact h
    · rw [Array.getElem?_eq_none h] at hf; cases hf
  have h1 := hr i f (Nat.le_refl _) hf
  have hxi : xs[i]? = some (xs[i]'(by omega)) := List.getElem?_eq_getElem (by omega)
  rw [hxi, ho, hc, List.take_of_length_le (by simp; omega)] at h1
  exact h H enc W n _ _ h1 (hw i f _ (Nat.le_refl _) hf hxi)
theorem opens_cons {α β : Type} {P : Program} {fs : Array Field} {i off : Nat} {f : Field} {e : Enc α} {e' : Enc β} {good : α → Prop} {good' : β → Prop} (hf : fs[i]? = some f) (ho : f.offset = off) (hc : P.cellsOf f.type = e.n) (h : Opens P f.type e good)
    (hs : OpensFrom P fs (i + 1) (off + e.n) e' good') : OpensFrom P fs i off (ePair e e') (fun x => good x.1 ∧ good' x.2) := by
  intro H enc W n cs xs hl hx hr hw
  have hl' : cs.length = off + (e.n + e'.n) := hl
  have hi : i < fs.size := by
    rcases Nat.lt_or_ge i fs.size with h | h
    · exact h
    · rw [Array.getElem?_eq_none h] at hf; cases hf
  have h1 := hr i f (Nat.le_refl _) hf
  have hxi : xs[i]? = some (xs[i]'(by omega)) := List.getElem?_eq_getElem (by omega)
  rw [hxi, ho, hc] at h1
  obtain ⟨z1, a1, b1⟩ := h H enc W n _ _ h1 (hw i f _ (Nat.le_refl _) hf hxi)
  obtain ⟨z2, a2, b2⟩ := hs H enc W n cs xs (by omega) hx (fun j f hj => hr j f (by omega)) (fun j f y hj => hw j f y (by omega))
  refine ⟨(z1, z2), ⟨_, _, ?_, a1, a2⟩, b1, b2⟩
  rw [← List.drop_drop, List.take_append_drop]
theorem opens_struct {α : Type} {P : Program} {t : TypeId} {fs : Array Field} {e : Enc α} {good : α → Prop} (ht : P.underlying t = some (.struct fs)) (hc : P.cellsOf t = e.n) (h : OpensFrom P fs 0 0 e good) : Opens P t e good := by
  intro H enc W fuel cs x hx hw
  obtain ⟨xs, n, _, rfl, hl, hlen, hr⟩ := DataW.trod_struct ht hx
  obtain ⟨z, h1, h2⟩ := h H enc W n cs xs (by omega) hlen (fun j f _ hj => hr j f hj) fun j f y _ hj hy k hk => hw k (by
    simp only [DataW.weights, ht]
    exact weights_each (i := j) (u := f.type) (d := y.1) (by rw [List.getElem?_map, Array.getElem?_toList, hj]; rfl) (by rw [List.getElem?_map, hy]; rfl) hk)
  exact ⟨z, by simpa using h1, h2⟩

/-! ### the arguments of a call -/
theorem open_arg {α : Type} {P : Program} {t : TypeId} {e : Enc α} {good : α → Prop} {H : Type} {enc : TypeId × Value → H} {W : World} {v : Value} {d : DataW H} {ps : List MemPlace} (ho : Opens P t e good)
    (h : DataW.Trod enc P W 0 (fun _ => true) true t v d ps) (hw : ∀ n ∈ d.weights P t, n ≤ reachBytes) : ∃ z, e.rd W (readAll W) v.cells.toList z ∧ good z := by
  obtain ⟨fuel, hf⟩ := h
  exact ho H enc W fuel _ _ hf hw
theorem arg_slice {α : Type} {P : Program} {t u : TypeId} {e : Enc α} {W : World} {base : Nat} {v : Value} {xs : List α} {O : Perm} (ht : P.underlying t = some (.slice u)) (hv : Value.okWide P W .any base t v)
    (h : (eSl e).rd W O v.cells.toList xs) : (Sl e v xs).h W O := by
  obtain ⟨a, l, c, rfl⟩ := WideShapes.okWide_slice ht hv
  obtain ⟨u, h1, h2⟩ := h
  have : (#[.slice a l c] : Array Value).toList = [u] := h1
  simp at this
  subst this
  exact h2
theorem arg_string {P : Program} {t : TypeId} {W : World} {base : Nat} {v : Value} {s : ByteArray} {O : Perm} (ht : P.underlying t = some .string) (hv : Value.okWide P W .any base t v) (h : eStr.rd W O v.cells.toList s) : v = .string s := by
  obtain ⟨s', rfl⟩ := WideShapes.okWide_string ht hv
  have : (#[.string s'] : Array Value).toList = [.string s] := h
  simpa using this
theorem arg_int {P : Program} {t : TypeId} {K : IntKind} {W : World} {base : Nat} {v : Value} {n : Int} {O : Perm} (ht : P.underlying t = some (.int K)) (hv : Value.okWide P W .any base t v) (h : (eInt K).rd W O v.cells.toList n) : v = .int K n := by
  have hv' := hv
  unfold Value.okWide at hv'
  rw [ht] at hv'
  simp only at hv'
  unfold Cell.okWide Cell.ok at hv'
  rw [ht] at hv'
  cases v <;> simp at hv'
  case int K' n' =>
    have : (#[.int K' n'] : Array Value).toList = [.int K n] := h
    simpa using this
theorem arg_bool {P : Program} {t : TypeId} {W : World} {base : Nat} {v : Value} {n : Bool} {O : Perm} (ht : P.underlying t = some .bool) (hv : Value.okWide P W .any base t v) (h : eBool.rd W O v.cells.toList n) : v = .bool n := by
  have hv' := hv
  unfold Value.okWide at hv'
  rw [ht] at hv'
  simp only at hv'
  unfold Cell.okWide Cell.ok at hv'
  rw [ht] at hv'
  cases v <;> simp at hv'
  case bool n' =>
    have : (#[.bool n'] : Array Value).toList = [.bool n] := h
    simpa using this
theorem arg_struct {α : Type} {P : Program} {t : TypeId} {fs : Array Field} {e : Enc α} {W : World} {base : Nat} {v : Value} {x : α} {O : Perm} (ht : P.underlying t = some (.struct fs)) (hv : Value.okWide P W .any base t v) (h : e.rd W O v.cells.toList x) :
    ∃ cs : List Value, v = .agg cs.toArray ∧ (Rd e cs x).h W O := by
  obtain ⟨cs, rfl, _⟩ := WideShapes.okWide_struct ht hv
  exact ⟨cs.toList, by simp, h⟩

theorem trodAll_below {H : Type} {enc : TypeId × Value → H} {P : Program} (hl : laidOutB P = true) {W W' : World} (hb : Below W.heap.size W W') : ∀ {ts : List TypeId} {vs : List Value} {ds : List (DataW H)} {ps : List MemPlace},
    (ts.all fun t => P.readableRec t && decide (t < P.types.size)) = true → DataW.TrodAll enc P W 0 (fun _ => true) true ts vs ds ps → DataW.TrodAll enc P W' 0 (fun b => decide (b < W.heap.size)) true ts vs ds ps
  | [], [], [], _, _, h => h
  | t :: ts, v :: vs, d :: ds, ps, ha, h => by
    obtain ⟨p, q, h1, h2, rfl⟩ := h
    simp only [List.all_cons, Bool.and_eq_true, decide_eq_true_iff] at ha
    refine ⟨p, q, Below.trod hl ha.1.1 ha.1.2 h1 hb ?_, trodAll_below hl hb (by simpa using ha.2) h2, rfl⟩
    obtain ⟨m, hm⟩ := h1
    exact DataW.trod_lt m _ _ _ hm

/-- THE ROW of a law that returns true and leaves its arguments as they are. -/
theorem lift_true {H : Type} {enc : TypeId × Value → H} {C : Checked} {os : Os} {f : FuncId} {fn : Func} {s : ChangeSpec} {X : World → Array Value → Prop} {t : TypeId}
    (hX : ∀ (w w' : World) (args : Array Value), w.heap = w'.heap → X w args → X w' args)
    (own : ownKnob C.prog.godebug = none) (started : os.Started) (noInit : C.prog.inits.idxOf? f = none) (hfn : C.prog.funcs[f]? = some fn)
    (hvars : s.vars = []) (hs : ∀ ds : List (DataW H), ds.length = fn.params.size → s.fn H ds = { results := [.lit (.bool true)], args := ds })
    (hres : fn.resultTypes = #[t]) (ht : C.prog.underlying t = some .bool) (hl : laidOutB C.prog = true) (hpar : (fn.params.toList.all fun t => C.prog.readableRec t && decide (t < C.prog.types.size)) = true)
    (witness : ∃ (w : World) (tape : Tape) (i : Input), w.os = os ∧ (w.forCall tape i).Shaped C.prog ∧ i.vars = [] ∧ Input.okWide C.prog (w.forCall tape i) .any w.heap.size f i ∧
      ((s.pre enc C.prog fn [] false (w.forCall tape i).memory i.args ∧ X (w.forCall tape i).memory i.args) ∧ sizedMet enc C.prog fn (OpenSpec.ofChange s) false (w.forCall tape i).memory i.args) ∧ ({} : Assume).holds C.prog (lone (Frame.enter C.prog f i.args .normal) [] (w.forCall tape i)))
    (walk : ∀ (W : World) (base : Nat) (args : Array Value) (ds : List (DataW H)) (ps : List MemPlace), W.ShapedOpen C.prog → X W args → (∀ (j : Nat) t v, fn.params[j]? = some t → args[j]? = some v → Value.okWide C.prog W .any base t v) →
      DataW.TrodAll enc C.prog W 0 (fun _ => true) true fn.params.toList args.toList ds ps → (∀ (j : Nat) t d, fn.params.toList[j]? = some t → ds[j]? = some d → ∀ n ∈ d.weights C.prog t, n ≤ reachBytes) →
      Calls C.prog f args W fun e W' => e = .returned (.bool true) ∧ Below W.heap.size W W') :
    ReturnsInHanded {} C os f .any (fun w args => (s.pre enc C.prog fn [] false w args ∧ X w args) ∧ sizedMet enc C.prog fn (OpenSpec.ofChange s) false w args) (s.post enc C.prog fn false true false false) := by
  refine returnsInHanded_of_calls own started noInit witness ?_
  intro w tape i _ hsh _ hok hpre hholds
  obtain ⟨_, _, _, fn', hfn', _, _, _, _, hval⟩ := hok
  have e : fn' = fn := Option.some.inj (hfn'.symm.trans hfn)
  subst e
  obtain ⟨⟨⟨ds, gs, before, hw, hc⟩, hx⟩, hz⟩ := hpre
  have hwt := hz.weights hw
  have hw' := DataW.Whole.of_heap (w' := w.forCall tape i) (by rfl) hw
  have hw2 := hw'
  obtain ⟨p, q, hA, hV, rfl, hfz, hnd⟩ := hw2
  rw [hvars] at hV
  obtain ⟨rfl, rfl⟩ := ChangeShapes.trodVars_none hV
  have hlen : ∀ {ts : List TypeId} {vs : List Value} {ds : List (DataW H)} {ps : List MemPlace}, DataW.TrodAll enc C.prog (w.forCall tape i) 0 (fun _ => true) true ts vs ds ps → ds.length = ts.length := by
    intro ts
    induction ts with
    | nil => intro vs ds ps h; cases vs <;> cases ds <;> simp_all [DataW.TrodAll]
    | cons t ts ih =>
      intro vs ds ps h
      cases vs with
      | nil => cases ds <;> simp_all [DataW.TrodAll]
      | cons v vs => cases ds with
        | nil => simp_all [DataW.TrodAll]
        | cons d ds =>
          obtain ⟨_, _, _, h, _⟩ := h
          simp [ih h]
  have hdl : ds.length = fn'.params.size := by rw [hlen hA]; simp
  have hsd := hs ds hdl
  refine (walk (w.forCall tape i) w.heap.size i.args ds p hsh (hX _ _ _ (by rfl) hx) hval hA fun j t d hj hd n hn => ?_).mono fun e W' ⟨he, bel⟩ => ?_
  · have := List.all_eq_true.1 hwt n (weights_each (i := j) (u := t) (d := d) (by rw [List.getElem?_append_left (List.getElem?_eq_some_iff.1 hj).1]; exact hj) (by rw [List.getElem?_append_left (List.getElem?_eq_some_iff.1 hd).1]; exact hd) hn)
    simpa using this
  · subst he
    refine ChangeSpec.post_blind ?_
    refine ⟨ds, [], p ++ [], [], p, [], hw', ?_, ?_, ?_, bel.frame _, fun h => by cases h⟩
    · rw [List.append_nil, hsd, hres]
      exact ChangeShapes.trodAll_mk1 (shut_bool ht _)
    · rw [List.append_nil, hsd]
      exact trodAll_below hl bel hpar hA
    · rw [List.append_nil, hsd, hvars]
      rfl
/-- A package-level variable of an integer kind holds some number of it. -/
theorem var_int {P : Program} {w : World} {g : Nat} {t : TypeId} {zero : Array Value} {k : IntKind} (h : w.ShapedOpen P) (hg : g < P.globals.size)
    (h0 : ((begin P (fun _ _ => 0) default).world.heap[g]?).bind Obj.row? = some (zero, t)) (hz : zero.size = 1)
    (hb : P.buildable t = true) (hc : P.cellTypes P.depth t = some [t]) (hu : P.underlying t = some (.int k)) : ∃ m, (BlkR g t [.int k m]).h w (readAll w) := by
  obtain ⟨m, hm⟩ := Go.Proofs.cell_of_shapedOpen_int h hg h0 hz hb hc hu
  obtain ⟨cs, hh, hs, _⟩ := h.1 g zero t hg h0
  have h1 : g < w.heap.size := by
    rcases Nat.lt_or_ge g w.heap.size with h | h
    · exact h
    · rw [Array.getElem?_eq_none h] at hh; cases hh
  have h2 : cs = #[.int k m] := by
    have e1 : cs[0]? = some (.int k m) := by simpa [World.cell?, hh] using hm
    apply Array.ext
    · rw [hs, hz]; rfl
    · intro i hi _
      have : i = 0 := by omega
      subst this
      rw [Array.getElem?_eq_getElem hi] at e1
      simpa using Option.some.inj e1
  exact ⟨m, readAll_lt h1, (0, 0), by rw [hh, h2]⟩
end Go.SL

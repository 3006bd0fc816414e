/- The texts QG, Sh, QV, QW, QX, QY, QZ, QU, D1, D2, D3, D4, D5, D6, one behind the other. -/
import Derived.Test.YtmgkeippepeggaaGreatDoorZY2
import Derived.ProofKit
import Derived.OpenShut
import Derived.ShutString
import Derived.ChangeOld
import Derived.Below
import Derived.Carry
import Derived.SizedLaws
import Derived.LaidMore
import Derived.LaidLaws
import Derived.HandedShaped
import Derived.WalkKit
import Derived.SevenTiedAt
import Derived.Shelf.Vars
import Derived.Shelf.Strings.SlTrimAscii
import Derived.Shelf.Strings.Trim
import Derived.Shelf.Small.Utf8
import Derived.Shelf.Small.Strs
import Derived.Shelf.Strconv.Atoi
import Derived.Shelf.Strconv.Itoa0
import Derived.Shelf.Strconv.Itoa1
import Derived.Shelf.LaysM
import Derived.Shelf.Strconv.Itoa2
import Derived.Shelf.Strconv.Itoa3
import Derived.Shelf.Strconv.AtoiErrFast
import Derived.Shelf.Strconv.ParseIntEmpty
import Derived.Shelf.Strconv.AtoiFail
import Derived.Shelf.Strconv.Clone
import Derived.Shelf.Strconv.SyntaxError
import Derived.Shelf.LaysC
import Derived.Shelf.Strconv.ToError
import Derived.Shelf.Strconv.Lower
import Derived.Shelf.Strconv.ParseUint10
import Derived.Shelf.Strconv.ParseUint10Empty
import Derived.Shelf.Strconv.ParseUint10Any
import Derived.Shelf.Strconv.ParseInt10
import Derived.Shelf.Strconv.AtoiLong
import Derived.Shelf.Strconv.AtoiInnerAll
import Derived.Shelf.Strconv.RangeError
import Derived.Shelf.Strconv.ToErrorRange
import Derived.Shelf.Strconv.AtoiAll
import Derived.Shelf.Strconv.ErrVarAll
import Derived.Shelf.Strings.Search1
import Derived.Shelf.Strings.Search2
import Derived.Shelf.Strings.Search3
import Derived.Shelf.Strings.Shaped
import Derived.Shelf.Strconv.AppendUint10
import Derived.Shelf.Strconv.AppendInt10
import Derived.Shelf.Strconv.AppendIntPublic10
import Derived.Shelf.Strings.Runes
import Derived.Shelf.Strings.AsciiSet
import Derived.Shelf.Unicode.DecodeSlow
import Derived.Shelf.Slices.Equal
import Derived.Shelf.Slices.Empties2
import Derived.Shelf.Bytes.IndexByte
import Derived.Test.YtmgkeippepeggaaGreatDoorProg
import Derived.Laws.Externs
import Derived.Lib.AppendZerosOnto
import Derived.Lib.Overlaps
import Derived.Lib.AtoiTie
import Derived.Lib.ItoaNum
set_option linter.unusedVariables false
set_option linter.unusedSimpArgs false
/- Rows: what a law's arguments are, opened as the engine's assertions; the row of a law that returns true and leaves its arguments. -/
namespace Go.SL
open Go Go.RowKit

/-- All that there is may be read. -/
def readAll (w : World) : Perm := fun b => if b < w.heap.size then 1 else 0
theorem readAll_dom {w : World} : ∀ b, readAll w b ≠ 0 → b < w.heap.size := fun b h => by
  unfold readAll at h; split at h
  · assumption
  · exact absurd rfl h
theorem readAll_lt {w : World} {b : Nat} (h : b < w.heap.size) : 1 ≤ readAll w b := by unfold readAll; rw [if_pos h]; exact Nat.le_refl _
theorem readAll_one {w : World} (b : Nat) : readAll w b ≤ 1 := by unfold readAll; split <;> omega
theorem below_of_rel {w w' : World} {O' : Perm} (h : Rel w (readAll w) w' O') : Below w.heap.size w w' :=
  ⟨h.os, h.tape, h.output, h.size, fun b hb => h.old b hb (by have := readAll_one (w := w) b; omega)⟩
theorem split_dup {O : Perm} (h : ∀ b, O b ≤ 1) : Split O O O := ⟨fun _ => Nat.le_refl _, fun _ => Nat.le_refl _, fun b hb => by have := h b; omega, fun b hb => by have := h b; omega⟩
theorem stars_all {w : World} {O : Perm} (h : ∀ b, O b ≤ 1) : ∀ {L : List A}, (∀ a ∈ L, a.h w O) → Stars L w O
  | [], _ => trivial
  | a :: L, k => ⟨O, O, split_dup h, k a (by simp), stars_all h fun b hb => k b (by simp [hb])⟩
theorem calls_of_con {P : Program} {f : FuncId} {args : List Value} {L : List A} {v : Value} (h : Con P f args L (γ := Unit) (fun _ => v) (fun _ => True) (fun _ => [])) {w : World} (hL : ∀ a ∈ L, a.h w (readAll w)) :
    Calls P f args.toArray w fun e w' => e = .returned v ∧ Below w.heap.size w w' :=
  (h w (readAll w) (stars_all readAll_one hL) readAll_dom).mono fun _ _ ⟨_, _, he, _, _, hr⟩ => ⟨he, below_of_rel hr⟩

/-! ### opening -/
def Opens {α : Type} (P : Program) (t : TypeId) (e : Enc α) (good : α → Prop) : Prop :=
  ∀ (H : Type) (enc : TypeId × Value → H) (W : World) (fuel : Nat) (cs : List Value) (x : DataW H × List MemPlace), DataW.trod enc P W 0 (fun _ => true) true fuel t cs = some x → (∀ n ∈ x.1.weights P t, n ≤ reachBytes) →
    ∃ z, e.rd W (readAll W) cs z ∧ good z
theorem opens_str {P : Program} {t : TypeId} (ht : P.underlying t = some .string) : Opens P t eStr (fun s => s.size ≤ reachBytes) := by
  intro H enc W fuel cs x h hw
  obtain ⟨s, rfl, rfl, _⟩ := DataW.trod_string ht h
  refine ⟨s, rfl, ?_⟩
  have := hw s.data.toList.length (by simp [DataW.weights])
  rwa [← Lib.size_eq] at this
theorem opens_int {P : Program} {t : TypeId} {K : IntKind} (ht : P.underlying t = some (.int K)) : Opens P t (eInt K) (fun n => (Lit.int K n).wf = true) := by
  intro H enc W fuel cs x h hw
  obtain ⟨n, rfl, rfl, hn⟩ := DataW.trod_int ht h
  exact ⟨n, rfl, hn⟩
theorem opens_bool {P : Program} {t : TypeId} (ht : P.underlying t = some .bool) : Opens P t eBool (fun _ => True) := by
  intro H enc W fuel cs x h hw
  obtain ⟨n, rfl, rfl⟩ := DataW.trod_bool ht h
  exact ⟨n, rfl, trivial⟩
theorem weights_all {H : Type} {P : Program} {u : TypeId} {n : Nat} : ∀ {l : List (DataW H)} {d : DataW H}, d ∈ l → n ∈ d.weights P u → n ∈ DataW.weightsAll P u l
  | d0 :: l, d, hd, hn => by
    simp only [DataW.weightsAll, List.mem_append]
    rcases List.mem_cons.1 hd with rfl | hd
    · exact .inl hn
    · exact .inr (weights_all hd hn)
theorem weights_each {H : Type} {P : Program} {n : Nat} : ∀ {ts : List TypeId} {l : List (DataW H)} {i : Nat} {u : TypeId} {d : DataW H}, ts[i]? = some u → l[i]? = some d → n ∈ d.weights P u → n ∈ DataW.weightsEach P ts l
  | t :: ts, d0 :: l, 0, u, d, ht, hd, hn => by
    simp at ht hd; subst ht; subst hd
    simp only [DataW.weightsEach, List.mem_append]; exact .inl hn
  | t :: ts, d0 :: l, i + 1, u, d, ht, hd, hn => by
    simp at ht hd
    simp only [DataW.weightsEach, List.mem_append]; exact .inr (weights_each ht hd hn)
  | [], _, _, _, _, ht, _, _ => by simp at ht
  | _ :: _, [], _, _, _, _, hd, _ => by simp at hd

theorem opens_slice {α : Type} {P : Program} {t u : TypeId} {e : Enc α} {good : α → Prop} (ht : P.underlying t = some (.slice u)) (hc : P.cellsOf u = e.n) (hn : 0 < e.n) (h : Opens P u e good) :
    Opens P t (eSl e) (fun xs => xs.length * P.bytesOf u ≤ reachBytes ∧ ∀ x ∈ xs, good x) := by
  intro H enc W fuel cs x hx hw
  rcases DataW.trod_slice ht hx with ⟨rfl, rfl⟩ | ⟨a, len, cap, elems, rest, n, _, rfl, rfl, _, hl, hm, hlen, hel, hsp, _⟩
  · exact ⟨[], ⟨_, rfl, none, 0, rfl, Nat.le_refl _, Nat.zero_le _, .inl ⟨.inl rfl, rfl⟩⟩, by simp, fun x hx => by cases hx⟩
  obtain ⟨hrl, hr⟩ := hsp rfl
  have hwt : ∀ y ∈ elems, ∀ k ∈ y.1.weights P u, k ≤ reachBytes := fun y hy k hk => hw k (by
    simp only [DataW.weights, ht, List.mem_cons, List.mem_append]
    exact .inr (.inl (weights_all (List.mem_map_of_mem hy) hk)))
  have hbytes : len * P.bytesOf u ≤ reachBytes := by
    have := hw ((elems.length + rest.length) * P.bytesOf u) (by simp [DataW.weights, ht])
    rw [hlen] at this
    exact Nat.le_trans (Nat.mul_le_mul_right _ (Nat.le_add_right _ _)) this
  rw [hc] at hel hr
  by_cases hcap : cap = 0
  · refine ⟨[], ⟨_, rfl, some a, cap, ?_, Nat.zero_le _, hm, .inl ⟨.inr hcap, rfl⟩⟩, by simp, fun x hx => by cases hx⟩
    rw [show len = 0 by omega]; rfl
  · -- the first cell is there
    have hfirst : ∃ u0, W.cell? a = some u0 := by
      have key : ∃ c0 y0, W.cells? 0 (a.add (0 * e.n)) e.n = some c0 ∧ some y0 = (some y0 : Option (DataW H × List MemPlace)) := by
        by_cases h0 : len = 0
        · have := hr 0 (by omega)
          rw [h0, List.getElem?_eq_getElem (by omega), Option.bind_eq_some_iff] at this
          obtain ⟨c0, hc0, _⟩ := this
          exact ⟨c0, rest[0], by simpa using hc0, rfl⟩
        · have := hel 0 (by omega)
          rw [List.getElem?_eq_getElem (by omega), Option.bind_eq_some_iff] at this
          obtain ⟨c0, hc0, _⟩ := this
          exact ⟨c0, elems[0], hc0, rfl⟩
      obtain ⟨c0, _, hc0, _⟩ := key
      obtain ⟨_, hl0, hg⟩ := World.cells?_some hc0
      have := hg 0 hn
      rw [List.getElem?_eq_getElem (by omega)] at this
      exact ⟨_, by simpa [Addr.add] using this⟩
    obtain ⟨u0, hu0⟩ := hfirst
    have hspot : a.spot = none := by
      unfold World.cell? at hu0
      split at hu0
      · split at hu0
        · cases hu0
        · rename_i hs; simpa using hs
      · cases hu0
    have hblk : a.block < W.heap.size := by
      unfold World.cell? at hu0
      split at hu0
      · rename_i hh
        rcases Nat.lt_or_ge a.block W.heap.size with h | h
        · exact h
        · rw [Array.getElem?_eq_none h] at hh; cases hh
      · cases hu0
    obtain ⟨b, off, sp⟩ := a
    simp only at hspot hblk
    subst hspot
    have hadd : ∀ j : Nat, (⟨b, off, none⟩ : Addr).add j = ⟨b, off + j, none⟩ := fun j => by
      unfold Addr.add; split
      · rename_i h; rw [h, Nat.add_zero]
      · rfl
    have main : ∀ k, k ≤ len → ∃ cs xs, xs.length = k ∧ Rows e W (readAll W) cs xs ∧ (∀ j v, cs[j]? = some v → W.cell? ⟨b, off + j, none⟩ = some v) ∧ ∀ x ∈ xs, good x := by
      intro k
      induction k with
      | zero => exact fun _ => ⟨[], [], rfl, rfl, fun j v hj => by simp at hj, fun x hx => by cases hx⟩
      | succ k ih =>
        intro hk
        obtain ⟨cs, xs, h1, h2, h3, h4⟩ := ih (by omega)
        have := hel k (by omega)
        rw [List.getElem?_eq_getElem (by omega), Option.bind_eq_some_iff] at this
        obtain ⟨c0, hc0, hy0⟩ := this
        obtain ⟨z, hz, hg⟩ := h H enc W n c0 _ hy0 (hwt _ (List.getElem_mem _))
        obtain ⟨_, hl0, hcell⟩ := World.cells?_some hc0
        refine ⟨cs ++ c0, xs ++ [z], by simp [h1], h2.append ⟨c0, [], by simp, hz, rfl⟩, fun j v hj => ?_, fun x hx => ?_⟩
        · have hcl : cs.length = k * e.n := by rw [h2.length, h1]
          rcases Nat.lt_or_ge j cs.length with hj1 | hj1
          · rw [List.getElem?_append_left hj1] at hj; exact h3 j v hj
          · rw [List.getElem?_append_right hj1] at hj
            have hj2 : j - cs.length < e.n := by
              rcases Nat.lt_or_ge (j - cs.length) c0.length with h | h
              · omega
              · rw [List.getElem?_eq_none h] at hj; cases hj
            have := hcell (j - cs.length) hj2
            rw [hadd, hj] at this
            rw [← this, show (⟨b, off + k * e.n, none⟩ : Addr).add (j - cs.length) = ⟨b, off + j, none⟩ from ?_]
            unfold Addr.add
            split
            · rename_i h; congr 1; omega
            · show (⟨b, off + k * e.n + (j - cs.length), none⟩ : Addr) = _
              congr 1; omega
        · rcases List.mem_append.1 hx with hx | hx
          · exact h4 x hx
          · rw [List.mem_singleton.1 hx]; exact hg
    obtain ⟨cs, xs, h1, h2, h3, h4⟩ := main len (Nat.le_refl _)
    refine ⟨xs, ⟨_, rfl, some ⟨b, off, none⟩, cap, by rw [h1], by omega, hm, .inr ⟨b, off, cs, rfl, readAll_lt hblk, h2, h3⟩⟩, by rw [h1]; exact hbytes, h4⟩

theorem opens_good {α : Type} {P : Program} {t : TypeId} {e : Enc α} {good good' : α → Prop} (h : Opens P t e good) (hg : ∀ x, good x → good' x) : Opens P t e good' := fun H enc W fuel cs x hx hw => by
  obtain ⟨z, h1, h2⟩ := h H enc W fuel cs x hx hw
  exact ⟨z, h1, hg z h2⟩

/-- The fields of a struct from number i on, whose cells begin at off. -/
def OpensFrom {α : Type} (P : Program) (fs : Array Field) (i off : Nat) (e : Enc α) (good : α → Prop) : Prop :=
  ∀ (H : Type) (enc : TypeId × Value → H) (W : World) (n : Nat) (cs : List Value) (xs : List (DataW H × List MemPlace)), cs.length = off + e.n → xs.length = fs.size →
    (∀ (j : Nat) (f : Field), i ≤ j → fs[j]? = some f → DataW.trod enc P W 0 (fun _ => true) true n f.type ((cs.drop f.offset).take (P.cellsOf f.type)) = xs[j]?) →
    (∀ (j : Nat) (f : Field) (y : DataW H × List MemPlace), i ≤ j → fs[j]? = some f → xs[j]? = some y → ∀ k ∈ y.1.weights P f.type, k ≤ reachBytes) →
    ∃ z, e.rd W (readAll W) (cs.drop off) z ∧ good z
theorem opens_last {α : Type} {P : Program} {fs : Array Field} {i off : Nat} {f : Field} {e : Enc α} {good : α → Prop} (hf : fs[i]? = some f) (ho : f.offset = off) (hc : P.cellsOf f.type = e.n) (h : Opens P f.type e good) : OpensFrom P fs i off e good := by
  intro H enc W n cs xs hl hx hr hw
  have hi : i < fs.size := by
    rcases Nat.lt_or_ge i fs.size with h | h
    · exact h
    · rw [Array.getElem?_eq_none h] at hf; cases hf
  have h1 := hr i f (Nat.le_refl _) hf
  have hxi : xs[i]? = some (xs[i]'(by omega)) := List.getElem?_eq_getElem (by omega)
  rw [hxi, ho, hc, List.take_of_length_le (by simp; omega)] at h1
  exact h H enc W n _ _ h1 (hw i f _ (Nat.le_refl _) hf hxi)
theorem opens_cons {α β : Type} {P : Program} {fs : Array Field} {i off : Nat} {f : Field} {e : Enc α} {e' : Enc β} {good : α → Prop} {good' : β → Prop} (hf : fs[i]? = some f) (ho : f.offset = off) (hc : P.cellsOf f.type = e.n) (h : Opens P f.type e good)
    (hs : OpensFrom P fs (i + 1) (off + e.n) e' good') : OpensFrom P fs i off (ePair e e') (fun x => good x.1 ∧ good' x.2) := by
  intro H enc W n cs xs hl hx hr hw
  have hl' : cs.length = off + (e.n + e'.n) := hl
  have hi : i < fs.size := by
    rcases Nat.lt_or_ge i fs.size with h | h
    · exact h
    · rw [Array.getElem?_eq_none h] at hf; cases hf
  have h1 := hr i f (Nat.le_refl _) hf
  have hxi : xs[i]? = some (xs[i]'(by omega)) := List.getElem?_eq_getElem (by omega)
  rw [hxi, ho, hc] at h1
  obtain ⟨z1, a1, b1⟩ := h H enc W n _ _ h1 (hw i f _ (Nat.le_refl _) hf hxi)
  obtain ⟨z2, a2, b2⟩ := hs H enc W n cs xs (by omega) hx (fun j f hj => hr j f (by omega)) (fun j f y hj => hw j f y (by omega))
  refine ⟨(z1, z2), ⟨_, _, ?_, a1, a2⟩, b1, b2⟩
  rw [← List.drop_drop, List.take_append_drop]
theorem opens_struct {α : Type} {P : Program} {t : TypeId} {fs : Array Field} {e : Enc α} {good : α → Prop} (ht : P.underlying t = some (.struct fs)) (hc : P.cellsOf t = e.n) (h : OpensFrom P fs 0 0 e good) : Opens P t e good := by
  intro H enc W fuel cs x hx hw
  obtain ⟨xs, n, _, rfl, hl, hlen, hr⟩ := DataW.trod_struct ht hx
  obtain ⟨z, h1, h2⟩ := h H enc W n cs xs (by omega) hlen (fun j f _ hj => hr j f hj) fun j f y _ hj hy k hk => hw k (by
    simp only [DataW.weights, ht]
    exact weights_each (i := j) (u := f.type) (d := y.1) (by rw [List.getElem?_map, Array.getElem?_toList, hj]; rfl) (by rw [List.getElem?_map, hy]; rfl) hk)
  exact ⟨z, by simpa using h1, h2⟩

/-! ### the arguments of a call -/
theorem open_arg {α : Type} {P : Program} {t : TypeId} {e : Enc α} {good : α → Prop} {H : Type} {enc : TypeId × Value → H} {W : World} {v : Value} {d : DataW H} {ps : List MemPlace} (ho : Opens P t e good)
    (h : DataW.Trod enc P W 0 (fun _ => true) true t v d ps) (hw : ∀ n ∈ d.weights P t, n ≤ reachBytes) : ∃ z, e.rd W (readAll W) v.cells.toList z ∧ good z := by
  obtain ⟨fuel, hf⟩ := h
  exact ho H enc W fuel _ _ hf hw
theorem arg_slice {α : Type} {P : Program} {t u : TypeId} {e : Enc α} {W : World} {base : Nat} {v : Value} {xs : List α} {O : Perm} (ht : P.underlying t = some (.slice u)) (hv : Value.okWide P W .any base t v)
    (h : (eSl e).rd W O v.cells.toList xs) : (Sl e v xs).h W O := by
  obtain ⟨a, l, c, rfl⟩ := WideShapes.okWide_slice ht hv
  obtain ⟨u, h1, h2⟩ := h
  have : (#[.slice a l c] : Array Value).toList = [u] := h1
  simp at this
  subst this
  exact h2
theorem arg_string {P : Program} {t : TypeId} {W : World} {base : Nat} {v : Value} {s : ByteArray} {O : Perm} (ht : P.underlying t = some .string) (hv : Value.okWide P W .any base t v) (h : eStr.rd W O v.cells.toList s) : v = .string s := by
  obtain ⟨s', rfl⟩ := WideShapes.okWide_string ht hv
  have : (#[.string s'] : Array Value).toList = [.string s] := h
  simpa using this
theorem arg_int {P : Program} {t : TypeId} {K : IntKind} {W : World} {base : Nat} {v : Value} {n : Int} {O : Perm} (ht : P.underlying t = some (.int K)) (hv : Value.okWide P W .any base t v) (h : (eInt K).rd W O v.cells.toList n) : v = .int K n := by
  have hv' := hv
  unfold Value.okWide at hv'
  rw [ht] at hv'
  simp only at hv'
  unfold Cell.okWide Cell.ok at hv'
  rw [ht] at hv'
  cases v <;> simp at hv'
  case int K' n' =>
    have : (#[.int K' n'] : Array Value).toList = [.int K n] := h
    simpa using this
theorem arg_bool {P : Program} {t : TypeId} {W : World} {base : Nat} {v : Value} {n : Bool} {O : Perm} (ht : P.underlying t = some .bool) (hv : Value.okWide P W .any base t v) (h : eBool.rd W O v.cells.toList n) : v = .bool n := by
  have hv' := hv
  unfold Value.okWide at hv'
  rw [ht] at hv'
  simp only at hv'
  unfold Cell.okWide Cell.ok at hv'
  rw [ht] at hv'
  cases v <;> simp at hv'
  case bool n' =>
    have : (#[.bool n'] : Array Value).toList = [.bool n] := h
    simpa using this
theorem arg_struct {α : Type} {P : Program} {t : TypeId} {fs : Array Field} {e : Enc α} {W : World} {base : Nat} {v : Value} {x : α} {O : Perm} (ht : P.underlying t = some (.struct fs)) (hv : Value.okWide P W .any base t v) (h : e.rd W O v.cells.toList x) :
    ∃ cs : List Value, v = .agg cs.toArray ∧ (Rd e cs x).h W O := by
  obtain ⟨cs, rfl, _⟩ := WideShapes.okWide_struct ht hv
  exact ⟨cs.toList, by simp, h⟩

theorem trodAll_below {H : Type} {enc : TypeId × Value → H} {P : Program} (hl : laidOutB P = true) {W W' : World} (hb : Below W.heap.size W W') : ∀ {ts : List TypeId} {vs : List Value} {ds : List (DataW H)} {ps : List MemPlace},
    (ts.all fun t => P.readableRec t && decide (t < P.types.size)) = true → DataW.TrodAll enc P W 0 (fun _ => true) true ts vs ds ps → DataW.TrodAll enc P W' 0 (fun b => decide (b < W.heap.size)) true ts vs ds ps
  | [], [], [], _, _, h => h
  | t :: ts, v :: vs, d :: ds, ps, ha, h => by
    obtain ⟨p, q, h1, h2, rfl⟩ := h
    simp only [List.all_cons, Bool.and_eq_true, decide_eq_true_iff] at ha
    refine ⟨p, q, Below.trod hl ha.1.1 ha.1.2 h1 hb ?_, trodAll_below hl hb (by simpa using ha.2) h2, rfl⟩
    obtain ⟨m, hm⟩ := h1
    exact DataW.trod_lt m _ _ _ hm

/-- THE ROW of a law that returns true and leaves its arguments as they are. -/
theorem lift_true {H : Type} {enc : TypeId × Value → H} {C : Checked} {os : Os} {f : FuncId} {fn : Func} {s : ChangeSpec} {X : World → Array Value → Prop} {t : TypeId}
    (hX : ∀ (w w' : World) (args : Array Value), w.heap = w'.heap → X w args → X w' args)
    (own : ownKnob C.prog.godebug = none) (started : os.Started) (noInit : C.prog.inits.idxOf? f = none) (hfn : C.prog.funcs[f]? = some fn)
    (hvars : s.vars = []) (hs : ∀ ds : List (DataW H), ds.length = fn.params.size → s.fn H ds = { results := [.lit (.bool true)], args := ds })
    (hres : fn.resultTypes = #[t]) (ht : C.prog.underlying t = some .bool) (hl : laidOutB C.prog = true) (hpar : (fn.params.toList.all fun t => C.prog.readableRec t && decide (t < C.prog.types.size)) = true)
    (witness : ∃ (w : World) (tape : Tape) (i : Input), w.os = os ∧ (w.forCall tape i).Shaped C.prog ∧ i.vars = [] ∧ Input.okWide C.prog (w.forCall tape i) .any w.heap.size f i ∧
      ((s.pre enc C.prog fn [] false (w.forCall tape i).memory i.args ∧ X (w.forCall tape i).memory i.args) ∧ sizedMet enc C.prog fn (OpenSpec.ofChange s) false (w.forCall tape i).memory i.args) ∧ ({} : Assume).holds C.prog (lone (Frame.enter C.prog f i.args .normal) [] (w.forCall tape i)))
    (walk : ∀ (W : World) (base : Nat) (args : Array Value) (ds : List (DataW H)) (ps : List MemPlace), W.ShapedOpen C.prog → X W args → (∀ (j : Nat) t v, fn.params[j]? = some t → args[j]? = some v → Value.okWide C.prog W .any base t v) →
      DataW.TrodAll enc C.prog W 0 (fun _ => true) true fn.params.toList args.toList ds ps → (∀ (j : Nat) t d, fn.params.toList[j]? = some t → ds[j]? = some d → ∀ n ∈ d.weights C.prog t, n ≤ reachBytes) →
      Calls C.prog f args W fun e W' => e = .returned (.bool true) ∧ Below W.heap.size W W') :
    ReturnsInHanded {} C os f .any (fun w args => (s.pre enc C.prog fn [] false w args ∧ X w args) ∧ sizedMet enc C.prog fn (OpenSpec.ofChange s) false w args) (s.post enc C.prog fn false true false false) := by
  refine returnsInHanded_of_calls own started noInit witness ?_
  intro w tape i _ hsh _ hok hpre hholds
  obtain ⟨_, _, _, fn', hfn', _, _, _, _, hval⟩ := hok
  have e : fn' = fn := Option.some.inj (hfn'.symm.trans hfn)
  subst e
  obtain ⟨⟨⟨ds, gs, before, hw, hc⟩, hx⟩, hz⟩ := hpre
  have hwt := hz.weights hw
  have hw' := DataW.Whole.of_heap (w' := w.forCall tape i) (by rfl) hw
  have hw2 := hw'
  obtain ⟨p, q, hA, hV, rfl, hfz, hnd⟩ := hw2
  rw [hvars] at hV
  obtain ⟨rfl, rfl⟩ := ChangeShapes.trodVars_none hV
  have hlen : ∀ {ts : List TypeId} {vs : List Value} {ds : List (DataW H)} {ps : List MemPlace}, DataW.TrodAll enc C.prog (w.forCall tape i) 0 (fun _ => true) true ts vs ds ps → ds.length = ts.length := by
    intro ts
    induction ts with
    | nil => intro vs ds ps h; cases vs <;> cases ds <;> simp_all [DataW.TrodAll]
    | cons t ts ih =>
      intro vs ds ps h
      cases vs with
      | nil => cases ds <;> simp_all [DataW.TrodAll]
      | cons v vs => cases ds with
        | nil => simp_all [DataW.TrodAll]
        | cons d ds =>
          obtain ⟨_, _, _, h, _⟩ := h
          simp [ih h]
  have hdl : ds.length = fn'.params.size := by rw [hlen hA]; simp
  have hsd := hs ds hdl
  refine (walk (w.forCall tape i) w.heap.size i.args ds p hsh (hX _ _ _ (by rfl) hx) hval hA fun j t d hj hd n hn => ?_).mono fun e W' ⟨he, bel⟩ => ?_
  · have := List.all_eq_true.1 hwt n (weights_each (i := j) (u := t) (d := d) (by rw [List.getElem?_append_left (List.getElem?_eq_some_iff.1 hj).1]; exact hj) (by rw [List.getElem?_append_left (List.getElem?_eq_some_iff.1 hd).1]; exact hd) hn)
    simpa using this
  · subst he
    refine ChangeSpec.post_blind ?_
    refine ⟨ds, [], p ++ [], [], p, [], hw', ?_, ?_, ?_, bel.frame _, fun h => by cases h⟩
    · rw [List.append_nil, hsd, hres]
      exact ChangeShapes.trodAll_mk1 (shut_bool ht _)
    · rw [List.append_nil, hsd]
      exact trodAll_below hl bel hpar hA
    · rw [List.append_nil, hsd, hvars]
      rfl
/-- A package-level variable of an integer kind holds some number of it. -/
theorem var_int {P : Program} {w : World} {g : Nat} {t : TypeId} {zero : Array Value} {k : IntKind} (h : w.ShapedOpen P) (hg : g < P.globals.size)
    (h0 : ((begin P (fun _ _ => 0) default).world.heap[g]?).bind Obj.row? = some (zero, t)) (hz : zero.size = 1)
    (hb : P.buildable t = true) (hc : P.cellTypes P.depth t = some [t]) (hu : P.underlying t = some (.int k)) : ∃ m, (BlkR g t [.int k m]).h w (readAll w) := by
  obtain ⟨m, hm⟩ := Go.Proofs.cell_of_shapedOpen_int h hg h0 hz hb hc hu
  obtain ⟨cs, hh, hs, _⟩ := h.1 g zero t hg h0
  have h1 : g < w.heap.size := by
    rcases Nat.lt_or_ge g w.heap.size with h | h
    · exact h
    · rw [Array.getElem?_eq_none h] at hh; cases hh
  have h2 : cs = #[.int k m] := by
    have e1 : cs[0]? = some (.int k m) := by simpa [World.cell?, hh] using hm
    apply Array.ext
    · rw [hs, hz]; rfl
    · intro i hi _
      have : i = 0 := by omega
      subst this
      rw [Array.getElem?_eq_getElem hi] at e1
      simpa using Option.some.inj e1
  exact ⟨m, readAll_lt h1, (0, 0), by rw [hh, h2]⟩
end Go.SL
/-
  DERIVED: THE SHELF's CONTRACTS AT THIS DUMP, IN PLAIN WORDS (tools/lay-plain.mjs out of 'TryzShelf.lean', which tools/lay-shelf.mjs wrote): THE SAME DECLARATIONS UNDER THE SAME NAMES: 'import', 'namespace', 'open', 'def', 'theorem' AND NOTHING ELSE: no command of the shelf's: FOR A HAND-IN. Each laying: the table of numbers ('.._ren') and one theorem, a field a fact of the dump's own or the kernel's comparison; each contract: ONE APPLICATION.
-/
namespace Go.Proofs
open Go.Shelf
def Tryz.lays160_ren : Go.Shelf.Ren := ⟨fun | 160 => 110 | 232 => 128 | 231 => 127 | 227 => 129 | 234 => 131 | 233 => 130 | 236 => 133 | 235 => 132 | 228 => 144 | 271 => 147 | 151 => 146 | 197 => 145 | 120 => 158 | 152 => 157 | 260 => 156 | 137 => 165 | 119 => 166 | 224 => 161 | 225 => 160 | 217 => 159 | 266 => 167 | n => n, fun | 9 => 9 | 4 => 4 | 3 => 3 | 5 => 5 | 117 => 165 | 116 => 164 | 0 => 0 | 124 => 168 | 21 => 21 | 105 => 184 | 46 => 179 | 119 => 201 | 139 => 204 | 138 => 203 | n => n, fun | 3 => 4 | 4 => 5 | n => n⟩
theorem Tryz.lays160 : Go.Proofs.Lays.n160 Tryz.prog Tryz.lays160_ren := {
  mixed := by kernel_rfl
  f119 := Tryz.func166.trans (congrArg some (by kernel_rfl))
  f120 := Tryz.func158.trans (congrArg some (by kernel_rfl))
  f137 := Tryz.func165.trans (congrArg some (by kernel_rfl))
  f151 := Tryz.func146.trans (congrArg some (by kernel_rfl))
  f152 := Tryz.func157.trans (congrArg some (by kernel_rfl))
  f160 := Tryz.func110.trans (congrArg some (by kernel_rfl))
  f197 := Tryz.func145.trans (congrArg some (by kernel_rfl))
  f217 := Tryz.func159.trans (congrArg some (by kernel_rfl))
  f224 := Tryz.func161.trans (congrArg some (by kernel_rfl))
  f225 := Tryz.func160.trans (congrArg some (by kernel_rfl))
  f227 := Tryz.func129.trans (congrArg some (by kernel_rfl))
  f228 := Tryz.func144.trans (congrArg some (by kernel_rfl))
  f231 := Tryz.func127.trans (congrArg some (by kernel_rfl))
  f232 := Tryz.func128.trans (congrArg some (by kernel_rfl))
  f233 := Tryz.func130.trans (congrArg some (by kernel_rfl))
  f234 := Tryz.func131.trans (congrArg some (by kernel_rfl))
  f235 := Tryz.func132.trans (congrArg some (by kernel_rfl))
  f236 := Tryz.func133.trans (congrArg some (by kernel_rfl))
  f260 := Tryz.func156.trans (congrArg some (by kernel_rfl))
  f266 := Tryz.func167.trans (congrArg some (by kernel_rfl))
  f271 := Tryz.func147.trans (congrArg some (by kernel_rfl))
  t0 := Tryz.underlying0
  a0 := Tryz.isAgg0
  z0 := Tryz.sizeOf0
  v0 := Tryz.zeroValue0
  t3 := Tryz.underlying3
  a3 := Tryz.isAgg3
  z3 := Tryz.sizeOf3
  v3 := Tryz.zeroValue3
  t4 := Tryz.underlying4
  a4 := Tryz.isAgg4
  z4 := Tryz.sizeOf4
  v4 := Tryz.zeroValue4
  t5 := Tryz.underlying5
  a5 := Tryz.isAgg5
  z5 := Tryz.sizeOf5
  v5 := Tryz.zeroValue5
  t9 := Tryz.underlying9
  a9 := Tryz.isAgg9
  z9 := Tryz.sizeOf9
  v9 := Tryz.zeroValue9
  t21 := Tryz.underlying21
  a21 := Tryz.isAgg21
  z21 := Tryz.sizeOf21
  v21 := Tryz.zeroValue21
  t46 := Tryz.underlying179
  a46 := Tryz.isAgg179
  z46 := Tryz.sizeOf179
  v46 := Tryz.zeroValue179
  t105 := Tryz.underlying184
  a105 := Tryz.isAgg184
  z105 := Tryz.sizeOf184
  v105 := Tryz.zeroValue184
  t116 := Tryz.underlying164
  a116 := Tryz.isAgg164
  z116 := Tryz.sizeOf164
  t117 := Tryz.underlying165
  a117 := Tryz.isAgg165
  z117 := Tryz.sizeOf165
  v117 := Tryz.zeroValue165
  t119 := Tryz.underlying201
  a119 := Tryz.isAgg201
  z119 := Tryz.sizeOf201
  t124 := Tryz.underlying168
  a124 := Tryz.isAgg168
  z124 := Tryz.sizeOf168
  v124 := Tryz.zeroValue168
  t138 := Tryz.underlying203
  a138 := Tryz.isAgg203
  z138 := Tryz.sizeOf203
  v138 := Tryz.zeroValue203
  t139 := Tryz.underlying204
  a139 := Tryz.isAgg204
  z139 := Tryz.sizeOf204
  v139 := Tryz.zeroValue204
  g3 := by kernel_rfl
  g4 := by kernel_rfl }
def Tryz.lays172_ren : Go.Shelf.Ren := ⟨fun | 172 => 86 | 244 => 107 | 245 => 108 | 247 => 121 | 279 => 122 | 280 => 123 | 281 => 124 | 282 => 125 | 287 => 141 | 316 => 142 | 171 => 87 | 205 => 143 | 321 => 154 | 322 => 155 | 243 => 109 | 246 => 126 | 283 => 137 | 284 => 138 | 285 => 139 | 286 => 140 | 129 => 150 | 317 => 149 | 318 => 151 | 319 => 152 | 320 => 153 | 337 => 163 | 338 => 164 | n => n, fun | 9 => 9 | 3 => 3 | 75 => 129 | 76 => 130 | 4 => 4 | 5 => 5 | 167 => 155 | 37 => 25 | 0 => 0 | 85 => 156 | 2 => 2 | 168 => 158 | 53 => 153 | 175 => 177 | 46 => 179 | 210 => 181 | 127 => 194 | 145 => 197 | 143 => 195 | 21 => 21 | 171 => 172 | 173 => 175 | 212 => 189 | 51 => 190 | 20 => 20 | 213 => 191 | 232 => 208 | 233 => 209 | 80 => 99 | n => n, fun | 15 => 1 | 16 => 2 | 17 => 3 | 18 => 6 | 19 => 7 | n => n⟩
theorem Tryz.lays172 : Go.Proofs.Lays.n172 Tryz.prog Tryz.lays172_ren := {
  mixed := by kernel_rfl
  f129 := Tryz.func150.trans (congrArg some (by kernel_rfl))
  f171 := Tryz.func87.trans (congrArg some (by kernel_rfl))
  f172 := Tryz.func86.trans (congrArg some (by kernel_rfl))
  f205 := Tryz.func143.trans (congrArg some (by kernel_rfl))
  f243 := Tryz.func109.trans (congrArg some (by kernel_rfl))
  f244 := Tryz.func107.trans (congrArg some (by kernel_rfl))
  f245 := Tryz.func108.trans (congrArg some (by kernel_rfl))
  f246 := Tryz.func126.trans (congrArg some (by kernel_rfl))
  f247 := Tryz.func121.trans (congrArg some (by kernel_rfl))
  f279 := Tryz.func122.trans (congrArg some (by kernel_rfl))
  f280 := Tryz.func123.trans (congrArg some (by kernel_rfl))
  f281 := Tryz.func124.trans (congrArg some (by kernel_rfl))
  f282 := Tryz.func125.trans (congrArg some (by kernel_rfl))
  f283 := Tryz.func137.trans (congrArg some (by kernel_rfl))
  f284 := Tryz.func138.trans (congrArg some (by kernel_rfl))
  f285 := Tryz.func139.trans (congrArg some (by kernel_rfl))
  f286 := Tryz.func140.trans (congrArg some (by kernel_rfl))
  f287 := Tryz.func141.trans (congrArg some (by kernel_rfl))
  f316 := Tryz.func142.trans (congrArg some (by kernel_rfl))
  f317 := Tryz.func149.trans (congrArg some (by kernel_rfl))
  f318 := Tryz.func151.trans (congrArg some (by kernel_rfl))
  f319 := Tryz.func152.trans (congrArg some (by kernel_rfl))
  f320 := Tryz.func153.trans (congrArg some (by kernel_rfl))
  f321 := Tryz.func154.trans (congrArg some (by kernel_rfl))
  f322 := Tryz.func155.trans (congrArg some (by kernel_rfl))
  f337 := Tryz.func163.trans (congrArg some (by kernel_rfl))
  f338 := Tryz.func164.trans (congrArg some (by kernel_rfl))
  t0 := Tryz.underlying0
  a0 := Tryz.isAgg0
  z0 := Tryz.sizeOf0
  v0 := Tryz.zeroValue0
  t2 := Tryz.underlying2
  a2 := Tryz.isAgg2
  z2 := Tryz.sizeOf2
  v2 := Tryz.zeroValue2
  t3 := Tryz.underlying3
  a3 := Tryz.isAgg3
  z3 := Tryz.sizeOf3
  v3 := Tryz.zeroValue3
  t4 := Tryz.underlying4
  a4 := Tryz.isAgg4
  z4 := Tryz.sizeOf4
  v4 := Tryz.zeroValue4
  t5 := Tryz.underlying5
  a5 := Tryz.isAgg5
  z5 := Tryz.sizeOf5
  v5 := Tryz.zeroValue5
  t9 := Tryz.underlying9
  a9 := Tryz.isAgg9
  z9 := Tryz.sizeOf9
  v9 := Tryz.zeroValue9
  t20 := Tryz.underlying20
  a20 := Tryz.isAgg20
  z20 := Tryz.sizeOf20
  v20 := Tryz.zeroValue20
  t21 := Tryz.underlying21
  a21 := Tryz.isAgg21
  z21 := Tryz.sizeOf21
  v21 := Tryz.zeroValue21
  t37 := Tryz.underlying25
  a37 := Tryz.isAgg25
  z37 := Tryz.sizeOf25
  v37 := Tryz.zeroValue25
  t46 := Tryz.underlying179
  a46 := Tryz.isAgg179
  z46 := Tryz.sizeOf179
  v46 := Tryz.zeroValue179
  t51 := Tryz.underlying190
  a51 := Tryz.isAgg190
  z51 := Tryz.sizeOf190
  v51 := Tryz.zeroValue190
  t53 := Tryz.underlying153
  a53 := Tryz.isAgg153
  z53 := Tryz.sizeOf153
  v53 := Tryz.zeroValue153
  t75 := Tryz.underlying129
  a75 := Tryz.isAgg129
  z75 := Tryz.sizeOf129
  v75 := Tryz.zeroValue129
  t76 := Tryz.underlying130
  a76 := Tryz.isAgg130
  z76 := Tryz.sizeOf130
  v76 := Tryz.zeroValue130
  t85 := Tryz.underlying156
  a85 := Tryz.isAgg156
  z85 := Tryz.sizeOf156
  v85 := Tryz.zeroValue156
  t127 := Tryz.underlying194
  a127 := Tryz.isAgg194
  z127 := Tryz.sizeOf194
  v127 := Tryz.zeroValue194
  t143 := Tryz.underlying195
  a143 := Tryz.isAgg195
  z143 := Tryz.sizeOf195
  v143 := Tryz.zeroValue195
  t145 := Tryz.underlying197
  a145 := Tryz.isAgg197
  z145 := Tryz.sizeOf197
  v145 := Tryz.zeroValue197
  t167 := Tryz.underlying155
  a167 := Tryz.isAgg155
  z167 := Tryz.sizeOf155
  v167 := Tryz.zeroValue155
  t168 := Tryz.underlying158
  a168 := Tryz.isAgg158
  z168 := Tryz.sizeOf158
  v168 := Tryz.zeroValue158
  t171 := Tryz.underlying172
  a171 := Tryz.isAgg172
  z171 := Tryz.sizeOf172
  v171 := Tryz.zeroValue172
  t173 := Tryz.underlying175
  a173 := Tryz.isAgg175
  z173 := Tryz.sizeOf175
  v173 := Tryz.zeroValue175
  t175 := Tryz.underlying177
  a175 := Tryz.isAgg177
  z175 := Tryz.sizeOf177
  v175 := Tryz.zeroValue177
  t210 := Tryz.underlying181
  a210 := Tryz.isAgg181
  z210 := Tryz.sizeOf181
  v210 := Tryz.zeroValue181
  t212 := Tryz.underlying189
  a212 := Tryz.isAgg189
  z212 := Tryz.sizeOf189
  v212 := Tryz.zeroValue189
  t213 := Tryz.underlying191
  a213 := Tryz.isAgg191
  z213 := Tryz.sizeOf191
  t232 := Tryz.underlying208
  a232 := Tryz.isAgg208
  z232 := Tryz.sizeOf208
  v232 := Tryz.zeroValue208
  t233 := Tryz.underlying209
  a233 := Tryz.isAgg209
  z233 := Tryz.sizeOf209
  v233 := Tryz.zeroValue209
  g15 := by kernel_rfl
  g16 := by kernel_rfl
  g17 := by kernel_rfl
  g18 := by kernel_rfl
  g19 := by kernel_rfl }
open Go.RowKit in
theorem Tryz.strconv_Atoi (s : ByteArray) (n : Int) (hl : s.size ≤ 18) (h : Lib.atoi s.data.toList = some n) (w : World) :
    Calls Tryz.prog 86 #[.string s] w fun e w' => e = .returned (.tuple #[.int .i64 n, .nilIface]) ∧ ∃ t, w' = Lib.bytesWorld w 5 t := Any.strconv_Atoi Tryz.lays172 s n hl h w
def Tryz.lays283_ren : Go.Shelf.Ren := ⟨fun | 283 => 137 | n => n, fun | 3 => 3 | 9 => 9 | 4 => 4 | n => n, fun | n => n⟩
theorem Tryz.lays283 : Go.Proofs.Lays.n283 Tryz.prog Tryz.lays283_ren := {
  mixed := by kernel_rfl
  f283 := Tryz.func137.trans (congrArg some (by kernel_rfl))
  t3 := Tryz.underlying3
  a3 := Tryz.isAgg3
  z3 := Tryz.sizeOf3
  v3 := Tryz.zeroValue3
  t4 := Tryz.underlying4
  a4 := Tryz.isAgg4
  z4 := Tryz.sizeOf4
  v4 := Tryz.zeroValue4
  t9 := Tryz.underlying9
  a9 := Tryz.isAgg9
  z9 := Tryz.sizeOf9
  v9 := Tryz.zeroValue9 }
open Go.Lib in
theorem Tryz.internal_strconv_small (i : Nat) (h : i < 100) (w : World) :
    Calls Tryz.prog 137 #[.int .i64 i] w fun e w' => e = .returned (.string ⟨(Lib.decDigits i).toArray⟩) ∧ w' = w := Any.internal_strconv_small Tryz.lays283 i h w
def Tryz.laysM284_ren : Go.Shelf.Ren := ⟨fun | 284 => 138 | 129 => 150 | 317 => 149 | 318 => 151 | n => n, fun | 53 => 153 | 3 => 3 | 212 => 189 | 0 => 0 | 4 => 4 | 46 => 179 | 5 => 5 | 9 => 9 | n => n, fun | 17 => 3 | n => n⟩
theorem Tryz.laysM284 : Go.Proofs.LaysM.n284 Tryz.prog Tryz.laysM284_ren := {
  mixed := by kernel_rfl
  f129 := Tryz.func150.trans (congrArg some (by kernel_rfl))
  f284 := Tryz.func138.trans (congrArg some (by kernel_rfl))
  f317 := Tryz.func149.trans (congrArg some (by kernel_rfl))
  f318 := Tryz.func151.trans (congrArg some (by kernel_rfl))
  t0 := Tryz.underlying0
  a0 := Tryz.isAgg0
  z0 := Tryz.sizeOf0
  v0 := Tryz.zeroValue0
  t3 := Tryz.underlying3
  a3 := Tryz.isAgg3
  z3 := Tryz.sizeOf3
  v3 := Tryz.zeroValue3
  t4 := Tryz.underlying4
  a4 := Tryz.isAgg4
  z4 := Tryz.sizeOf4
  v4 := Tryz.zeroValue4
  t5 := Tryz.underlying5
  a5 := Tryz.isAgg5
  z5 := Tryz.sizeOf5
  v5 := Tryz.zeroValue5
  t9 := Tryz.underlying9
  a9 := Tryz.isAgg9
  z9 := Tryz.sizeOf9
  v9 := Tryz.zeroValue9
  t46 := Tryz.underlying179
  a46 := Tryz.isAgg179
  z46 := Tryz.sizeOf179
  v46 := Tryz.zeroValue179
  t53 := Tryz.underlying153
  a53 := Tryz.isAgg153
  z53 := Tryz.sizeOf153
  v53 := Tryz.zeroValue153
  t212 := Tryz.underlying189
  a212 := Tryz.isAgg189
  z212 := Tryz.sizeOf189
  v212 := Tryz.zeroValue189
  g17 := by kernel_rfl
  i0 := by kernel_rfl
  i3 := by kernel_rfl
  i4 := by kernel_rfl
  i5 := by kernel_rfl
  i9 := by kernel_rfl
  i46 := by kernel_rfl
  i53 := by kernel_rfl
  i212 := by kernel_rfl
  m17 := by kernel_rfl }
open Go.Lib in
theorem Tryz.internal_strconv_numDigits (u : Nat) (h1 : 1 ≤ u) (h2 : u < 18446744073709551616) (w : World) (htab : Lib.TabIs Tryz.prog w "internal/strconv.uint64pow10" .u64 Lib.pow10Tab) :
    Calls Tryz.prog 138 #[.int .u64 u] w fun e w' => e = .returned (.int .i64 (Lib.nDigits u)) ∧ w' = w := Any.internal_strconv_numDigits Tryz.laysM284 u h1 h2 w htab
def Tryz.lays285_ren : Go.Shelf.Ren := ⟨fun | 285 => 139 | n => n, fun | 37 => 25 | 53 => 153 | 3 => 3 | 4 => 4 | 51 => 190 | 9 => 9 | 5 => 5 | 0 => 0 | n => n, fun | n => n⟩
theorem Tryz.lays285 : Go.Proofs.Lays.n285 Tryz.prog Tryz.lays285_ren := {
  mixed := by kernel_rfl
  f285 := Tryz.func139.trans (congrArg some (by kernel_rfl))
  t0 := Tryz.underlying0
  a0 := Tryz.isAgg0
  z0 := Tryz.sizeOf0
  v0 := Tryz.zeroValue0
  t3 := Tryz.underlying3
  a3 := Tryz.isAgg3
  z3 := Tryz.sizeOf3
  v3 := Tryz.zeroValue3
  t4 := Tryz.underlying4
  a4 := Tryz.isAgg4
  z4 := Tryz.sizeOf4
  v4 := Tryz.zeroValue4
  t5 := Tryz.underlying5
  a5 := Tryz.isAgg5
  z5 := Tryz.sizeOf5
  v5 := Tryz.zeroValue5
  t9 := Tryz.underlying9
  a9 := Tryz.isAgg9
  z9 := Tryz.sizeOf9
  v9 := Tryz.zeroValue9
  t37 := Tryz.underlying25
  a37 := Tryz.isAgg25
  z37 := Tryz.sizeOf25
  v37 := Tryz.zeroValue25
  t51 := Tryz.underlying190
  a51 := Tryz.isAgg190
  z51 := Tryz.sizeOf190
  v51 := Tryz.zeroValue190
  t53 := Tryz.underlying153
  a53 := Tryz.isAgg153
  z53 := Tryz.sizeOf153
  v53 := Tryz.zeroValue153 }
open Go.RowKit Go.Sort Go.Lib in
theorem Tryz.internal_strconv_formatBase10 (blk off cap : Nat) (u : Nat) (d : Array UInt8) (w : World) (hH : Holds (fun (b : UInt8) => Value.int .u8 (b.toNat : Int)) w blk off d) (hu : u < 10 ^ d.size) (hu64 : u < 18446744073709551616) (hsz : d.size < 4611686018427387904) :
    Calls Tryz.prog 139 #[.slice (some ⟨blk, off, none⟩) d.size cap, .int .u64 u] w fun e w' =>
      e = .returned (.tuple #[]) ∧ ∃ (n v' : Nat) (dk : Array UInt8), w' = (putRow (fun (b : UInt8) => Value.int .u8 (b.toNat : Int)) w blk off dk).drewN n ∧ FmtInv d.size u 0 v' dk := Any.internal_strconv_formatBase10 Tryz.lays285 blk off cap u d w hH hu hu64 hsz
def Tryz.laysM171_ren : Go.Shelf.Ren := ⟨fun | 171 => 87 | 243 => 109 | 246 => 126 | 283 => 137 | 284 => 138 | 285 => 139 | 286 => 140 | 129 => 150 | 317 => 149 | 318 => 151 | 319 => 152 | 320 => 153 | 337 => 163 | 338 => 164 | n => n, fun | 3 => 3 | 9 => 9 | 2 => 2 | 4 => 4 | 171 => 172 | 0 => 0 | 53 => 153 | 37 => 25 | 5 => 5 | 173 => 175 | 212 => 189 | 51 => 190 | 20 => 20 | 213 => 191 | 46 => 179 | 232 => 208 | 233 => 209 | n => n, fun | 17 => 3 | 18 => 6 | 19 => 7 | n => n⟩
theorem Tryz.laysM171 : Go.Proofs.LaysM.n171 Tryz.prog Tryz.laysM171_ren := {
  mixed := by kernel_rfl
  f129 := Tryz.func150.trans (congrArg some (by kernel_rfl))
  f171 := Tryz.func87.trans (congrArg some (by kernel_rfl))
  f243 := Tryz.func109.trans (congrArg some (by kernel_rfl))
  f246 := Tryz.func126.trans (congrArg some (by kernel_rfl))
  f283 := Tryz.func137.trans (congrArg some (by kernel_rfl))
  f284 := Tryz.func138.trans (congrArg some (by kernel_rfl))
  f285 := Tryz.func139.trans (congrArg some (by kernel_rfl))
  f286 := Tryz.func140.trans (congrArg some (by kernel_rfl))
  f317 := Tryz.func149.trans (congrArg some (by kernel_rfl))
  f318 := Tryz.func151.trans (congrArg some (by kernel_rfl))
  f319 := Tryz.func152.trans (congrArg some (by kernel_rfl))
  f320 := Tryz.func153.trans (congrArg some (by kernel_rfl))
  f337 := Tryz.func163.trans (congrArg some (by kernel_rfl))
  f338 := Tryz.func164.trans (congrArg some (by kernel_rfl))
  t0 := Tryz.underlying0
  a0 := Tryz.isAgg0
  z0 := Tryz.sizeOf0
  v0 := Tryz.zeroValue0
  t2 := Tryz.underlying2
  a2 := Tryz.isAgg2
  z2 := Tryz.sizeOf2
  v2 := Tryz.zeroValue2
  t3 := Tryz.underlying3
  a3 := Tryz.isAgg3
  z3 := Tryz.sizeOf3
  v3 := Tryz.zeroValue3
  t4 := Tryz.underlying4
  a4 := Tryz.isAgg4
  z4 := Tryz.sizeOf4
  v4 := Tryz.zeroValue4
  t5 := Tryz.underlying5
  a5 := Tryz.isAgg5
  z5 := Tryz.sizeOf5
  v5 := Tryz.zeroValue5
  t9 := Tryz.underlying9
  a9 := Tryz.isAgg9
  z9 := Tryz.sizeOf9
  v9 := Tryz.zeroValue9
  t20 := Tryz.underlying20
  a20 := Tryz.isAgg20
  z20 := Tryz.sizeOf20
  v20 := Tryz.zeroValue20
  t37 := Tryz.underlying25
  a37 := Tryz.isAgg25
  z37 := Tryz.sizeOf25
  v37 := Tryz.zeroValue25
  t46 := Tryz.underlying179
  a46 := Tryz.isAgg179
  z46 := Tryz.sizeOf179
  v46 := Tryz.zeroValue179
  t51 := Tryz.underlying190
  a51 := Tryz.isAgg190
  z51 := Tryz.sizeOf190
  v51 := Tryz.zeroValue190
  t53 := Tryz.underlying153
  a53 := Tryz.isAgg153
  z53 := Tryz.sizeOf153
  v53 := Tryz.zeroValue153
  t171 := Tryz.underlying172
  a171 := Tryz.isAgg172
  z171 := Tryz.sizeOf172
  v171 := Tryz.zeroValue172
  t173 := Tryz.underlying175
  a173 := Tryz.isAgg175
  z173 := Tryz.sizeOf175
  v173 := Tryz.zeroValue175
  t212 := Tryz.underlying189
  a212 := Tryz.isAgg189
  z212 := Tryz.sizeOf189
  v212 := Tryz.zeroValue189
  t213 := Tryz.underlying191
  a213 := Tryz.isAgg191
  z213 := Tryz.sizeOf191
  t232 := Tryz.underlying208
  a232 := Tryz.isAgg208
  z232 := Tryz.sizeOf208
  v232 := Tryz.zeroValue208
  t233 := Tryz.underlying209
  a233 := Tryz.isAgg209
  z233 := Tryz.sizeOf209
  v233 := Tryz.zeroValue209
  g17 := by kernel_rfl
  g18 := by kernel_rfl
  g19 := by kernel_rfl
  i0 := by kernel_rfl
  i2 := by kernel_rfl
  i3 := by kernel_rfl
  i4 := by kernel_rfl
  i5 := by kernel_rfl
  i9 := by kernel_rfl
  i20 := by kernel_rfl
  i37 := by kernel_rfl
  i46 := by kernel_rfl
  i51 := by kernel_rfl
  i53 := by kernel_rfl
  i171 := by kernel_rfl
  i173 := by kernel_rfl
  i212 := by kernel_rfl
  i232 := by kernel_rfl
  i233 := by kernel_rfl
  m17 := by kernel_rfl
  m18 := by kernel_rfl
  m19 := by kernel_rfl }
open Go.RowKit Go.Sort Go.Lib in
theorem Tryz.strconv_Itoa (n : Int) (h0 : -9223372036854775808 ≤ n) (h1 : n ≤ 9223372036854775807) (w : World) (htab : Lib.TabIs Tryz.prog w "internal/strconv.uint64pow10" .u64 Lib.pow10Tab) :
    Calls Tryz.prog 87 #[.int .i64 n] w fun e w' => e = .returned (.string ⟨(Lib.itoa n).toArray⟩) ∧ ∃ k os, w' = grow (w.drewN k) os := Any.strconv_Itoa Tryz.laysM171 n h0 h1 w htab
def Tryz.laysC172_ren : Go.Shelf.Ren := ⟨fun | 172 => 86 | 244 => 107 | 245 => 108 | 247 => 121 | 279 => 122 | 280 => 123 | 281 => 124 | 282 => 125 | 287 => 141 | 316 => 142 | 171 => 87 | 205 => 143 | 321 => 154 | 322 => 155 | 243 => 109 | 246 => 126 | 283 => 137 | 284 => 138 | 285 => 139 | 286 => 140 | 129 => 150 | 317 => 149 | 318 => 151 | 319 => 152 | 320 => 153 | 337 => 163 | 338 => 164 | n => n, fun | 9 => 9 | 3 => 3 | 75 => 129 | 76 => 130 | 4 => 4 | 5 => 5 | 167 => 155 | 37 => 25 | 0 => 0 | 85 => 156 | 2 => 2 | 168 => 158 | 53 => 153 | 175 => 177 | 46 => 179 | 210 => 181 | 127 => 194 | 145 => 197 | 143 => 195 | 21 => 21 | 171 => 172 | 173 => 175 | 212 => 189 | 51 => 190 | 20 => 20 | 213 => 191 | 232 => 208 | 233 => 209 | 80 => 99 | n => n, fun | 15 => 1 | 16 => 2 | 17 => 3 | 18 => 6 | 19 => 7 | n => n⟩
theorem Tryz.laysC172 : Go.Proofs.LaysC.n172 Tryz.prog Tryz.laysC172_ren := {
  mixed := by kernel_rfl
  f129 := Tryz.func150.trans (congrArg some (by kernel_rfl))
  f171 := Tryz.func87.trans (congrArg some (by kernel_rfl))
  f172 := Tryz.func86.trans (congrArg some (by kernel_rfl))
  f205 := Tryz.func143.trans (congrArg some (by kernel_rfl))
  f243 := Tryz.func109.trans (congrArg some (by kernel_rfl))
  f244 := Tryz.func107.trans (congrArg some (by kernel_rfl))
  f245 := Tryz.func108.trans (congrArg some (by kernel_rfl))
  f246 := Tryz.func126.trans (congrArg some (by kernel_rfl))
  f247 := Tryz.func121.trans (congrArg some (by kernel_rfl))
  f279 := Tryz.func122.trans (congrArg some (by kernel_rfl))
  f280 := Tryz.func123.trans (congrArg some (by kernel_rfl))
  f281 := Tryz.func124.trans (congrArg some (by kernel_rfl))
  f282 := Tryz.func125.trans (congrArg some (by kernel_rfl))
  f283 := Tryz.func137.trans (congrArg some (by kernel_rfl))
  f284 := Tryz.func138.trans (congrArg some (by kernel_rfl))
  f285 := Tryz.func139.trans (congrArg some (by kernel_rfl))
  f286 := Tryz.func140.trans (congrArg some (by kernel_rfl))
  f287 := Tryz.func141.trans (congrArg some (by kernel_rfl))
  f316 := Tryz.func142.trans (congrArg some (by kernel_rfl))
  f317 := Tryz.func149.trans (congrArg some (by kernel_rfl))
  f318 := Tryz.func151.trans (congrArg some (by kernel_rfl))
  f319 := Tryz.func152.trans (congrArg some (by kernel_rfl))
  f320 := Tryz.func153.trans (congrArg some (by kernel_rfl))
  f321 := Tryz.func154.trans (congrArg some (by kernel_rfl))
  f322 := Tryz.func155.trans (congrArg some (by kernel_rfl))
  f337 := Tryz.func163.trans (congrArg some (by kernel_rfl))
  f338 := Tryz.func164.trans (congrArg some (by kernel_rfl))
  t0 := Tryz.underlying0
  a0 := Tryz.isAgg0
  z0 := Tryz.sizeOf0
  v0 := Tryz.zeroValue0
  t2 := Tryz.underlying2
  a2 := Tryz.isAgg2
  z2 := Tryz.sizeOf2
  v2 := Tryz.zeroValue2
  t3 := Tryz.underlying3
  a3 := Tryz.isAgg3
  z3 := Tryz.sizeOf3
  v3 := Tryz.zeroValue3
  t4 := Tryz.underlying4
  a4 := Tryz.isAgg4
  z4 := Tryz.sizeOf4
  v4 := Tryz.zeroValue4
  t5 := Tryz.underlying5
  a5 := Tryz.isAgg5
  z5 := Tryz.sizeOf5
  v5 := Tryz.zeroValue5
  t9 := Tryz.underlying9
  a9 := Tryz.isAgg9
  z9 := Tryz.sizeOf9
  v9 := Tryz.zeroValue9
  t20 := Tryz.underlying20
  a20 := Tryz.isAgg20
  z20 := Tryz.sizeOf20
  v20 := Tryz.zeroValue20
  t21 := Tryz.underlying21
  a21 := Tryz.isAgg21
  z21 := Tryz.sizeOf21
  v21 := Tryz.zeroValue21
  t37 := Tryz.underlying25
  a37 := Tryz.isAgg25
  z37 := Tryz.sizeOf25
  v37 := Tryz.zeroValue25
  t46 := Tryz.underlying179
  a46 := Tryz.isAgg179
  z46 := Tryz.sizeOf179
  v46 := Tryz.zeroValue179
  t51 := Tryz.underlying190
  a51 := Tryz.isAgg190
  z51 := Tryz.sizeOf190
  v51 := Tryz.zeroValue190
  t53 := Tryz.underlying153
  a53 := Tryz.isAgg153
  z53 := Tryz.sizeOf153
  v53 := Tryz.zeroValue153
  t75 := Tryz.underlying129
  a75 := Tryz.isAgg129
  z75 := Tryz.sizeOf129
  v75 := Tryz.zeroValue129
  t76 := Tryz.underlying130
  a76 := Tryz.isAgg130
  z76 := Tryz.sizeOf130
  v76 := Tryz.zeroValue130
  t85 := Tryz.underlying156
  a85 := Tryz.isAgg156
  z85 := Tryz.sizeOf156
  v85 := Tryz.zeroValue156
  t127 := Tryz.underlying194
  a127 := Tryz.isAgg194
  z127 := Tryz.sizeOf194
  v127 := Tryz.zeroValue194
  t143 := Tryz.underlying195
  a143 := Tryz.isAgg195
  z143 := Tryz.sizeOf195
  v143 := Tryz.zeroValue195
  t145 := Tryz.underlying197
  a145 := Tryz.isAgg197
  z145 := Tryz.sizeOf197
  v145 := Tryz.zeroValue197
  t167 := Tryz.underlying155
  a167 := Tryz.isAgg155
  z167 := Tryz.sizeOf155
  v167 := Tryz.zeroValue155
  t168 := Tryz.underlying158
  a168 := Tryz.isAgg158
  z168 := Tryz.sizeOf158
  v168 := Tryz.zeroValue158
  t171 := Tryz.underlying172
  a171 := Tryz.isAgg172
  z171 := Tryz.sizeOf172
  v171 := Tryz.zeroValue172
  t173 := Tryz.underlying175
  a173 := Tryz.isAgg175
  z173 := Tryz.sizeOf175
  v173 := Tryz.zeroValue175
  t175 := Tryz.underlying177
  a175 := Tryz.isAgg177
  z175 := Tryz.sizeOf177
  v175 := Tryz.zeroValue177
  t210 := Tryz.underlying181
  a210 := Tryz.isAgg181
  z210 := Tryz.sizeOf181
  v210 := Tryz.zeroValue181
  t212 := Tryz.underlying189
  a212 := Tryz.isAgg189
  z212 := Tryz.sizeOf189
  v212 := Tryz.zeroValue189
  t213 := Tryz.underlying191
  a213 := Tryz.isAgg191
  z213 := Tryz.sizeOf191
  t232 := Tryz.underlying208
  a232 := Tryz.isAgg208
  z232 := Tryz.sizeOf208
  v232 := Tryz.zeroValue208
  t233 := Tryz.underlying209
  a233 := Tryz.isAgg209
  z233 := Tryz.sizeOf209
  v233 := Tryz.zeroValue209
  g15 := by kernel_rfl
  g16 := by kernel_rfl
  g17 := by kernel_rfl
  g18 := by kernel_rfl
  g19 := by kernel_rfl
  t80 := Tryz.underlying99
  a80 := Tryz.isAgg99
  z80 := Tryz.sizeOf99
  v80 := Tryz.zeroValue99
  i0 := by kernel_rfl
  i2 := by kernel_rfl
  i3 := by kernel_rfl
  i4 := by kernel_rfl
  i5 := by kernel_rfl
  i9 := by kernel_rfl
  i20 := by kernel_rfl
  i21 := by kernel_rfl
  i37 := by kernel_rfl
  i46 := by kernel_rfl
  i51 := by kernel_rfl
  i53 := by kernel_rfl
  i75 := by kernel_rfl
  i76 := by kernel_rfl
  i80 := by kernel_rfl
  i85 := by kernel_rfl
  i127 := by kernel_rfl
  i143 := by kernel_rfl
  i145 := by kernel_rfl
  i167 := by kernel_rfl
  i168 := by kernel_rfl
  i171 := by kernel_rfl
  i173 := by kernel_rfl
  i175 := by kernel_rfl
  i210 := by kernel_rfl
  i212 := by kernel_rfl
  i232 := by kernel_rfl
  i233 := by kernel_rfl
  m15 := by kernel_rfl
  m16 := by kernel_rfl
  m17 := by kernel_rfl
  m18 := by kernel_rfl
  m19 := by kernel_rfl
  c0 := by kernel_rfl
  c2 := by kernel_rfl
  c3 := by kernel_rfl
  c4 := by kernel_rfl
  c5 := by kernel_rfl
  c9 := by kernel_rfl
  c20 := by kernel_rfl
  c21 := by kernel_rfl
  c37 := by kernel_rfl
  c46 := by kernel_rfl
  c51 := by kernel_rfl
  c53 := by kernel_rfl
  c75 := by kernel_rfl
  c76 := by kernel_rfl
  c80 := by kernel_rfl
  c85 := by kernel_rfl
  c127 := by kernel_rfl
  c143 := by kernel_rfl
  c145 := by kernel_rfl
  c167 := by kernel_rfl
  c168 := by kernel_rfl
  c171 := by kernel_rfl
  c173 := by kernel_rfl
  c175 := by kernel_rfl
  c210 := by kernel_rfl
  c212 := by kernel_rfl
  c213 := by kernel_rfl
  c232 := by kernel_rfl
  c233 := by kernel_rfl }
open Go.RowKit in
theorem Tryz.strconv_Atoi_syntax (s : ByteArray) (hlim : s.size ≤ 281474976710656) (h : Lib.atoiAll s.data.toList = Lib.NumEnd.ofOption none) (ev : Value) (w : World) (hv : w.cell? ⟨1, 0, none⟩ = some ev) (hev : ev = .nilIface ∨ ∃ te pe, ev = .iface te pe) :
    Calls Tryz.prog 86 #[.string s] w fun e w' => ∃ N, e = .returned (.tuple #[.int .i64 (0), .iface 158 (.pointer (some ⟨N, 0, none⟩))]) ∧ w.heap.size ≤ N ∧ w'.heap[N]? = some (.cells #[.string ⟨#[65, 116, 111, 105]⟩, .string s, ev] 181 (0, 0)) ∧ Below w.heap.size w w' := Any.strconv_Atoi_syntax Tryz.laysC172 s hlim h ev w hv hev
def Tryz.lays144_ren : Go.Shelf.Ren := ⟨fun | 144 => 116 | 143 => 135 | 219 => 148 | 217 => 159 | 225 => 160 | 224 => 161 | 267 => 162 | 266 => 167 | 314 => 168 | n => n, fun | 9 => 9 | 4 => 4 | 3 => 3 | 5 => 5 | 46 => 179 | 146 => 206 | 51 => 190 | n => n, fun | 1 => 0 | n => n⟩
theorem Tryz.lays144 : Go.Proofs.Lays.n144 Tryz.prog Tryz.lays144_ren := {
  mixed := by kernel_rfl
  f143 := Tryz.func135.trans (congrArg some (by kernel_rfl))
  f144 := Tryz.func116.trans (congrArg some (by kernel_rfl))
  f217 := Tryz.func159.trans (congrArg some (by kernel_rfl))
  f219 := Tryz.func148.trans (congrArg some (by kernel_rfl))
  f224 := Tryz.func161.trans (congrArg some (by kernel_rfl))
  f225 := Tryz.func160.trans (congrArg some (by kernel_rfl))
  f266 := Tryz.func167.trans (congrArg some (by kernel_rfl))
  f267 := Tryz.func162.trans (congrArg some (by kernel_rfl))
  f314 := Tryz.func168.trans (congrArg some (by kernel_rfl))
  t3 := Tryz.underlying3
  a3 := Tryz.isAgg3
  z3 := Tryz.sizeOf3
  v3 := Tryz.zeroValue3
  t4 := Tryz.underlying4
  a4 := Tryz.isAgg4
  z4 := Tryz.sizeOf4
  v4 := Tryz.zeroValue4
  t5 := Tryz.underlying5
  a5 := Tryz.isAgg5
  z5 := Tryz.sizeOf5
  v5 := Tryz.zeroValue5
  t9 := Tryz.underlying9
  a9 := Tryz.isAgg9
  z9 := Tryz.sizeOf9
  v9 := Tryz.zeroValue9
  t46 := Tryz.underlying179
  a46 := Tryz.isAgg179
  z46 := Tryz.sizeOf179
  v46 := Tryz.zeroValue179
  t51 := Tryz.underlying190
  a51 := Tryz.isAgg190
  z51 := Tryz.sizeOf190
  v51 := Tryz.zeroValue190
  t146 := Tryz.underlying206
  a146 := Tryz.isAgg206
  z146 := Tryz.sizeOf206
  v146 := Tryz.zeroValue206
  g1 := by kernel_rfl }
open Go.RowKit Go.Lib in
theorem Tryz.strings_Contains_one (s : ByteArray) (c : UInt8) (w : World) :
    Calls Tryz.prog 116 #[.string s, .string ⟨#[c]⟩] w fun e w' => e = .returned (.bool (decide (0 ≤ Lib.indexByte s.data.toList c))) ∧ w' = w := Any.strings_Contains_one Tryz.lays144 s c w
def Tryz.lays187_ren : Go.Shelf.Ren := ⟨fun | 187 => 85 | 255 => 106 | n => n, fun | 37 => 25 | 5 => 5 | 3 => 3 | n => n, fun | n => n⟩
theorem Tryz.lays187 : Go.Proofs.Lays.n187 Tryz.prog Tryz.lays187_ren := {
  mixed := by kernel_rfl
  f187 := Tryz.func85.trans (congrArg some (by kernel_rfl))
  f255 := Tryz.func106.trans (congrArg some (by kernel_rfl))
  t3 := Tryz.underlying3
  a3 := Tryz.isAgg3
  z3 := Tryz.sizeOf3
  v3 := Tryz.zeroValue3
  t5 := Tryz.underlying5
  a5 := Tryz.isAgg5
  z5 := Tryz.sizeOf5
  v5 := Tryz.zeroValue5
  t37 := Tryz.underlying25
  a37 := Tryz.isAgg25
  z37 := Tryz.sizeOf25
  v37 := Tryz.zeroValue25 }
theorem Tryz.strings_Trim_set (s cutset : ByteArray) (w : World) (hs : s.size ≤ 9223372036854775807) (hcs : cutset.size < 4294967281) (hascii : ∀ (j : Nat) b, cutset.data.toList[j]? = some b → b.toNat < 128) :
    Calls Tryz.prog 110 #[.string s, .string cutset] w fun e w' => e = .returned (.string ⟨(Lib.trimS s.data.toList cutset.data.toList).toArray⟩) ∧ Go.RowKit.Below w.heap.size w w' := Any.strings_Trim_laid Tryz.lays160 (by kernel_rfl) s cutset w hs hcs hascii
end Go.Proofs
/- Regions that draw their order and write: guards. -/
namespace Go.SL
open Go
section
variable {X : Cx} {ops : Array Oper} {kk : List Item} {env : Env} {L L1 S : List A} {fuel : Nat} {listed : Array Bool}
theorem a_know {s : Nat} {v v' : Value} (ht : env.look s = some v) (e : v = v') (k : Any X ops S fuel listed kk ((s, v') :: env) L) : Any X ops S fuel listed kk env L := by
  intro a w O ha hst hrel
  subst e
  exact k a w O ⟨ha.size, ha.defers, fun u v hu => by
    rcases Env.look_cons hu with ⟨rfl, rfl⟩ | ⟨_, hu⟩
    · exact ha.look _ _ ht
    · exact ha.look _ _ hu⟩ hst hrel
theorem a_take_on (i : Nat) {j s : Nat} {want : Bool} {v : Value} {d : Nat} {op : Op} {T : TypeId} {pos : String} {af : Array Edge} (hi : ops[i]? = some ⟨some d, op, T, pos, af, some (j, want)⟩)
    (hj : (ops[j]?).bind (·.dst) = some s) (ht : env.look s = some (.bool want)) (hs : Region.noSelect ops = true)
    (hf : Region.free .any ops listed i = true) (hr : (Region.ready .any ops listed).contains i = true) (hv : Val X env S op T v) (hS : Ent L S) (hd : d < X.fn.ntmps)
    (k : Any X ops S fuel (listed.setIfInBounds i true) kk ((d, v) :: env) L) : Any X ops S (fuel + 1) listed kk env L := by
  intro a w O ha hst hrel
  have hy1 : yielded ops a.tmps j = some want := by simp [yielded, hj, ha.look s _ ht]
  exact wpAnyH_take hi hs hf hr (fun _ _ _ h => by cases h.1) (.inl ⟨by simp [Region.wanted, hy1], fun w ⟨O, hs'⟩ => hv _ _ _ _ a w O ha hs'⟩) ⟨O, hS w O hst⟩ (k _ w O (ha.put hd v) hst hrel)
theorem a_take_off (i : Nat) {j s : Nat} {t want : Bool} {d : Nat} {op : Op} {T : TypeId} {pos : String} {af : Array Edge} (hi : ops[i]? = some ⟨some d, op, T, pos, af, some (j, want)⟩)
    (hj : (ops[j]?).bind (·.dst) = some s) (ht : env.look s = some (.bool t)) (hne : t = !want) (hs : Region.noSelect ops = true)
    (hf : Region.free .any ops listed i = true) (hr : (Region.ready .any ops listed).contains i = true) (hS : Ent L S) (hd : d < X.fn.ntmps)
    (k : Any X ops S fuel (listed.setIfInBounds i true) kk ((d, undef) :: env) L) : Any X ops S (fuel + 1) listed kk env L := by
  intro a w O ha hst hrel
  have hy1 : yielded ops a.tmps j = some t := by simp [yielded, hj, ha.look s _ ht]
  exact wpAnyH_take hi hs hf hr (fun _ _ _ h => by cases h.1) (.inr ⟨by simp only [Region.wanted, hy1]; subst hne; cases want <;> rfl, rfl⟩) ⟨O, hS w O hst⟩ (k _ w O (ha.put hd undef) hst hrel)
theorem a_one_on (i : Nat) {j s : Nat} {want : Bool} {d : Option Nat} {op : Op} {T : TypeId} {pos : String} {af : Array Edge} (hi : ops[i]? = some ⟨d, op, T, pos, af, some (j, want)⟩)
    (hj : (ops[j]?).bind (·.dst) = some s) (ht : env.look s = some (.bool want)) (hr : Region.ready .any ops listed = [i])
    (h : StepK X kk ⟨d, op, T, pos, af, none⟩ env L fun a w => (∃ O, Stars S w O) ∧ wpAnyH X.P .any ops (Qn X kk) (fun w => ∃ O, Stars S w O) fuel (listed.setIfInBounds i true) a w) : Any X ops S (fuel + 1) listed kk env L := by
  intro a w O ha hst hrel
  have hy1 : yielded ops a.tmps j = some want := by simp [yielded, hj, ha.look s _ ht]
  refine wpAnyH_all hr (by simp) fun q hq => ?_
  obtain rfl : q = i := by simpa using hq
  simp only [wpOp, hi, Region.wanted, hy1, beq_self_eq_true, if_true]
  exact .inl (h a w O ha hst hrel)
end
/-! ### calls that take some and read some -/
theorem mix_frame {w w' : World} {O O1 O2 O' : Perm} {l L1 : List A} (s : Split O O1 O2) (hdom : ∀ b, O b ≠ 0 → b < w.heap.size) (h2 : Stars L1 w O2) (hr : Rel w (fun b => max (O1 b) (min (O2 b) 1)) w' O') (hl : Stars l w' O') (hsep : Seps l) :
    ∃ P, Stars (l ++ L1) w' P ∧ Rel w O w' P := by
  have hl' := hsep.stars hl
  have hd2 : ∀ b, O2 b ≠ 0 → b < w.heap.size := fun b hb => hdom b (by have := s.r b; omega)
  have hz : ∀ b, b < w.heap.size → 2 ≤ O' b → 2 ≤ O1 b ∧ O2 b = 0 ∧ O' b ≤ O1 b := fun b hb h => by
    have h1 : O' b ≤ max (O1 b) (min (O2 b) 1) := hr.perm b hb
    have h3 : 2 ≤ O1 b := by omega
    have h4 := s.lr b h3
    exact ⟨h3, h4, by omega⟩
  have hlow : ∀ b, 1 ≤ O2 b → O1 b < 2 := fun b hb => by
    rcases Nat.lt_or_ge (O1 b) 2 with h | h
    · exact h
    · have := s.lr b h; omega
  refine ⟨fun b => max (if 2 ≤ O' b then O' b else 0) (O2 b), Stars.app ⟨fun b => Nat.le_max_left _ _, fun b => Nat.le_max_right _ _, fun b hb => ?_, fun b hb => ?_⟩ hl' (h2.loc fun b hb => hr.old b (hd2 b (by omega)) ?_), ⟨hr.os, hr.tape, hr.output, hr.size, fun b hb ho => hr.old b hb ?_, fun b hb => ?_, fun b hb => ?_⟩⟩
  · split at hb
    · rename_i h
      rcases Nat.eq_zero_or_pos (O2 b) with h0 | h0
      · exact h0
      · exact (hz b (hd2 b (by omega)) h).2.1
    · omega
  · show (if _ then _ else _) = 0
    rw [if_neg fun h => by
      have := (hz b (hd2 b (by omega)) h).2.1
      omega]
  · have := hlow b (by omega); show max _ _ < 2; omega
  · have := s.l b; show max _ _ < 2; omega
  · show max _ _ ≤ _
    have h5 := s.r b
    split
    · rename_i h
      have := hz b hb h; have := s.l b; omega
    · omega
  · have hb' : max (if 2 ≤ O' b then O' b else 0) (O2 b) ≠ 0 := hb
    by_cases h : 2 ≤ O' b
    · exact hr.dom b (by omega)
    · rw [if_neg h] at hb'
      have := hd2 b (by omega); have := hr.size; omega
section
variable {K : Act → World → Prop} {X : Cx} {kk : List Item} {env : Env} {L L1 : List A} {d : Nat} {T : TypeId} {pos : String} {af : Array Edge}
theorem s_callf_mix {γ : Type} {ret : γ → Value} {pu : γ → Prop} {L' : γ → List A} {g : FuncId} {xs : List Operand} {args : List Value} {ts : Array TypeId} {La : List A} (n : Nat)
    (hc : Callable X.P g) (spec : Con X.P g args La ret pu L') (hx : evalAll env xs = some args) (hd : d < X.fn.ntmps) (hpk : Picks (La.take n) L L1) (hp : Reads L1 (La.drop n)) (hsep : ∀ g, Seps (L' g))
    (k : ∀ g, pu g → Kont X ((d, ret g) :: env) (L' g ++ L1) K) :
    StepK X kk ⟨some d, .call ⟨.value (.func g), xs.toArray, ts⟩, T, pos, af, none⟩ env L K := by
  intro a w O ha hs hr
  have hrun : (execOp a.eval ⟨some d, .call ⟨.value (.func g), xs.toArray, ts⟩, T, pos, af, none⟩).run X.P w = .ok (.enter g args.toArray) w := by
    have h1 := ha.all hx
    have hargs : (#[] : Array Value) ++ (xs.map a.eval).toArray ++ (#[] : Array Value) = args.toArray := by rw [h1]; simp
    have hf : a.eval (.func g) = .func (.func g) #[] #[] := ha.eval (show env.eval (.func g) = some (.func (.func g) #[] #[]) from rfl)
    simp only [execOp, resolve, hf, Deferred.ofValue, pure_bind, invoke, List.map_toArray]
    rw [hargs]
    exact hc _ _
  simp only [Oper.wp, hrun, Oper.upon]
  obtain ⟨O1, O2, s, h1, h2⟩ := hpk.split w O hs
  have hdo : ∀ b, O b ≠ 0 → b < w.heap.size := hr.dom
  have hall : Stars La w fun b => max (O1 b) (min (O2 b) 1) := by
    have := Stars.app (O := fun b => max (O1 b) (min (O2 b) 1)) ⟨fun b => Nat.le_max_left _ _, fun b => Nat.le_max_right _ _, fun b hb => by have := s.lr b hb; show min _ _ = 0; omega, fun b hb => by
      have hb' : 2 ≤ min (O2 b) 1 := hb
      omega⟩ h1 (hp.stars h2)
    rwa [List.take_append_drop] at this
  refine (spec w _ hall (fun b hb => hdo b (by
    have hb' : max (O1 b) (min (O2 b) 1) ≠ 0 := hb
    have := s.l b; have := s.r b; omega))).mono ?_
  rintro e w' ⟨g, O', rfl, hpu, hL, hrel⟩
  obtain ⟨P, hP, hR⟩ := mix_frame s hdo h2 hrel hL (hsep g)
  exact k g hpu _ w' P (ha.put hd _) hP (hr.trans hR)
end
end Go.SL
/- Copies of maps: interfaces that hold a map, the model's own maps.clone. -/
namespace Go.SL
open Go
section
variable {κ : Type} [DecidableEq κ] {ke : KeyEnc κ}
variable {K : Act → World → Prop} {X : Cx} {kk : List Item} {env : Env} {L L1 : List A} {d : Nat} {T : TypeId} {pos : String} {af : Array Edge} {x : Operand}
theorem v_makeIface_map {t kt et : TypeId} {v : Value} (hu : X.P.underlying t = some (.map kt et)) (hx : env.eval x = some v) : Val X env L (.makeInterface t x) T (.iface t v) :=
  fun _ _ _ _ a w O ha _ => by
    simp [execOp, ha.eval hx, Instr.makeInterface, run_underlying hu]
theorem v_typeAssert_map {t xT kt et : TypeId} {v : Value} (hu : X.P.underlying t = some (.map kt et)) (hx : env.eval x = some (.iface t v)) : Val X env L (.typeAssert x xT t false) T v :=
  fun _ _ _ _ a w O ha _ => by
    simp [execOp, ha.eval hx, Instr.typeAssert, run_underlying hu]
theorem s_maps_clone {g : FuncId} {fn : Func} {b : Nat} {t : TypeId} {m : List (κ × Value)} {xs : List Operand} {ts : Array TypeId} (hf : X.P.funcs[g]? = some fn) (hname : (fn.name == "runtime.NumGoroutine") = false) (hb : fn.body.isNone = true) (hn : Extern.findNext fn = none)
    (he : Extern.find fn = some Extern.MapsClone.clone) (hx : evalAll env xs = some [.iface t (.map (some b))]) (hd : d < X.fn.ntmps) (hp : Has L (MapA ke b m))
    (k : ∀ c, Kont X ((d, .iface t (.map (some c))) :: env) (MapA ke c m :: L) K) : StepK X kk ⟨some d, .call ⟨.value (.func g), xs.toArray, ts⟩, T, pos, af, none⟩ env L K := by
  refine s_main (γ := Nat) (V := fun c => .iface t (.map (some c))) (pu := fun _ => True) (L' := fun c => MapA ke c m :: L) ?_ hd (fun c _ => k c)
  intro a w O ha hst hdom
  obtain ⟨h1, es, clock, h2, h3, h4, h5, h6⟩ := hp w O hst
  refine ⟨w.heap.size, w.alloc (.map es clock), fresh w O, ?_, trivial, stars_alloc _ hdom hst ⟨by simp, es, clock, heap_alloc w _, h3, h4, h5, h6⟩, rel_alloc _ hdom⟩
  have hargs : (#[] : Array Value) ++ (xs.map a.eval).toArray ++ (#[] : Array Value) = #[.iface t (.map (some b))] := by rw [ha.all hx]; rfl
  have hf' : a.eval (.func g) = .func (.func g) #[] #[] := ha.eval (show env.eval (.func g) = some (.func (.func g) #[] #[]) from rfl)
  have hobj : (getObj b).run X.P w = .ok (.map es clock) w := Go.MapKept.run_getObj_map h2
  have hcl : (Extern.MapsClone.clone #[.iface t (.map (some b))]).run X.P w = .ok (.iface t (.map (some w.heap.size))) (w.alloc (.map es clock)) := by
    have e : Extern.MapsClone.clone #[.iface t (.map (some b))] = (getObj b >>= fun o => match o with
      | .map entries clock => (newObj (.map entries clock) >>= fun n => pure (.iface t (.map (some n))))
      | _ => stuck "maps.clone: a map expected") := rfl
    rw [e]
    simp [hobj, Result.andThen, go_sem]
  simp only [execOp, resolve, hf', Deferred.ofValue, pure_bind, invoke, List.map_toArray]
  rw [hargs, run_callFunc_extern hf hname hb hn he, hcl]
  rfl
theorem v_buildA {t e : TypeId} {len : Nat} {ps : List (Nat × Operand)} {vs : List (Nat × Value)} {css : List (Nat × List Value)} {cells : List Value} {z ze : Value} {n nb ne nbe : Nat} (hu : X.P.underlying t = some (.array len e)) (hz : TI X.P t z n nb) (he : TI X.P e ze ne nbe)
    (hp : evalP env ps = some vs) (hc : PartsC L vs css) (hb : fillC (fun i => some (i * ne, ne)) z.cells.toList css = some cells) : Val X env L (.build t ps.toArray) T (.agg cells.toArray) := by
  refine v_build hp hc ?_
  obtain ⟨i, hi, hz0, _⟩ := hz
  obtain ⟨ie, hie, _, hse, _⟩ := he
  unfold builtC
  rw [hi, hu]
  simp only [hz0, hie, hse]
  exact hb
theorem v_index_agg {xT e e2 : TypeId} {len len2 : Nat} {K : IntKind} {i : Int} {y : Operand} {cs : List Value} {z : Value} {n nb : Nat} (hu : X.P.underlying xT = some (.array len e)) (he : X.P.underlying e = some (.array len2 e2)) (hz : TI X.P e z n nb)
    (hx : env.eval x = some (.agg cs.toArray)) (hy : env.eval y = some (.int K i)) (hb : 0 ≤ i ∧ i < len) : Val X env L (.index xT x y) T (.agg ((cs.drop (i.toNat * n)).take n).toArray) :=
  fun _ _ _ _ a w O ha _ => by
    obtain ⟨ti, hi, _, hsz, _⟩ := hz
    have hia : (isAgg e).run X.P w = .ok true w := by simp [isAgg, run_underlying he]
    have hex : cs.toArray.extract (i.toNat * n) (i.toNat * n + n) = ((cs.drop (i.toNat * n)).take n).toArray := by
      simp [List.extract_eq_take_drop, List.drop_take]
    simp [execOp, ha.eval hx, ha.eval hy, Instr.index, asIntOf, run_underlying hu, hb.1, hb.2, part, hia, sizeOf, typeInfo, hi, hsz, hex]
theorem v_index_bool {xT e : TypeId} {len : Nat} {K : IntKind} {i : Int} {y : Operand} {cs : List Value} {z : Value} {nb : Nat} (hu : X.P.underlying xT = some (.array len e)) (he : X.P.underlying e = some .bool) (hz : TI X.P e z 1 nb)
    (hx : env.eval x = some (.agg cs.toArray)) (hy : env.eval y = some (.int K i)) (hb : 0 ≤ i ∧ i < len) {v : Value} (hv : cs[i.toNat]? = some v) : Val X env L (.index xT x y) T v :=
  fun _ _ _ _ a w O ha _ => by
    obtain ⟨ti, hi, _, hsz, _⟩ := hz
    have hia : (isAgg e).run X.P w = .ok false w := by simp [isAgg, run_underlying he]
    simp [execOp, ha.eval hx, ha.eval hy, Instr.index, asIntOf, run_underlying hu, hb.1, hb.2, part, hia, sizeOf, typeInfo, hi, hsz, hv]
theorem run_loadAggA {P : Program} {t e : TypeId} {len : Nat} {a : Addr} {w : World} {cs : List Value} {i : TypeInfo} (hu : P.underlying t = some (.array len e)) (hi : P.info? t = some i) (hn : i.size = cs.length) (hc : CellsAt w a cs) :
    (loadVar t a).run P w = .ok (.agg cs.toArray) w := by
  have hia : (isAgg t).run P w = .ok true w := by simp [isAgg, run_underlying hu]
  simp only [loadVar, Sem.run_bind, hia, Result.andThen_ok]
  have := run_loadCells_list (P := P) w a cs hc
  simp [sizeOf, typeInfo, hi, hn, this]
end
theorem c_ret_cellA {X : Cx} {k : List Item} {env : Env} {L : List A} {t b : Nat} {ty bt e : TypeId} {len : Nat} {cs : List Value} {z : Value} {nb : Nat} (hf : X.P.funcs[X.f]? = some X.fn) (h : X.fn.results = #[.cell t ty]) (hu : X.P.underlying ty = some (.array len e)) (ht : TI X.P ty z cs.length nb)
    (hv : env.look t = some (.pointer (some ⟨b, 0, none⟩))) (hb : Has L (BlkR b bt cs)) (fin : ∀ w O, Stars L w O → X.R (.agg cs.toArray) w O) (hrd : X.rd = none := by rfl) (hdf : X.defs = [] := by rfl) : Cfg X (.code .ret :: k) env L :=
  c_ret_any (fun a w O ha hs _ => by
    obtain ⟨_, fz, hh⟩ := hb w O hs
    obtain ⟨ti, hi, _, hsz, _⟩ := ht
    exact ⟨_, results_cell h (ha.look t _ hv) (run_loadAggA hu hi hsz fun j u hj => by rw [add_off, blk_cell hh]; simpa using hj), fin w O hs⟩) hf hrd hdf fun _ _ _ _ _ hb => steps_ret hb
theorem results_ct {fn : Func} {t s : Nat} {ty : TypeId} {tmps : Array Value} {P : Program} {w : World} {v u : Value} {p : Addr} (h : fn.results = #[.cell t ty, .tmp s]) (hv : tmps[t]? = some (.pointer (some p))) (hl : (loadVar ty p).run P w = .ok v w) (hu : tmps[s]? = some u) : (results fn tmps).run P w = .ok (.tuple #[v, u]) w := by
  have h1 : tmps[t]?.getD undef = .pointer (some p) := by rw [hv]; rfl
  have h2 : tmps[s]?.getD undef = u := by rw [hu]; rfl
  simp [results, h, asAddr, hl, h1, h2]
theorem results_ctt {fn : Func} {t s r : Nat} {ty : TypeId} {tmps : Array Value} {P : Program} {w : World} {v u x : Value} {p : Addr} (h : fn.results = #[.cell t ty, .tmp s, .tmp r]) (hv : tmps[t]? = some (.pointer (some p))) (hl : (loadVar ty p).run P w = .ok v w) (hu : tmps[s]? = some u) (hx : tmps[r]? = some x) : (results fn tmps).run P w = .ok (.tuple #[v, u, x]) w := by
  have h1 : tmps[t]?.getD undef = .pointer (some p) := by rw [hv]; rfl
  have h2 : tmps[s]?.getD undef = u := by rw [hu]; rfl
  have h3 : tmps[r]?.getD undef = x := by rw [hx]; rfl
  simp [results, h, asAddr, hl, h1, h2, h3]
theorem c_ret_ct {X : Cx} {k : List Item} {env : Env} {L : List A} {t s b : Nat} {ty bt : TypeId} {cs : List Value} {z u : Value} {nb : Nat} (hf : X.P.funcs[X.f]? = some X.fn) (h : X.fn.results = #[.cell t ty, .tmp s]) (hu : ∃ fs, X.P.underlying ty = some (.struct fs)) (ht : TI X.P ty z cs.length nb)
    (hv : env.look t = some (.pointer (some ⟨b, 0, none⟩))) (hs' : env.look s = some u) (hb : Has L (BlkR b bt cs)) (fin : ∀ w O, Stars L w O → X.R (.tuple #[.agg cs.toArray, u]) w O) (hrd : X.rd = none := by rfl) (hdf : X.defs = [] := by rfl) : Cfg X (.code .ret :: k) env L :=
  c_ret_any (fun a w O ha hs _ => by
    obtain ⟨_, fz, hh⟩ := hb w O hs
    obtain ⟨ti, hi, _, hsz, _⟩ := ht
    exact ⟨_, results_ct h (ha.look t _ hv) (run_loadAgg hu hi hsz fun j u hj => by rw [add_off, blk_cell hh]; simpa using hj) (ha.look s _ hs'), fin w O hs⟩) hf hrd hdf fun _ _ _ _ _ hb => steps_ret hb
theorem c_ret_ctt {X : Cx} {k : List Item} {env : Env} {L : List A} {t s r b : Nat} {ty bt : TypeId} {cs : List Value} {z u x : Value} {nb : Nat} (hf : X.P.funcs[X.f]? = some X.fn) (h : X.fn.results = #[.cell t ty, .tmp s, .tmp r]) (hu : ∃ fs, X.P.underlying ty = some (.struct fs)) (ht : TI X.P ty z cs.length nb)
    (hv : env.look t = some (.pointer (some ⟨b, 0, none⟩))) (hs' : env.look s = some u) (hr' : env.look r = some x) (hb : Has L (BlkR b bt cs)) (fin : ∀ w O, Stars L w O → X.R (.tuple #[.agg cs.toArray, u, x]) w O) (hrd : X.rd = none := by rfl) (hdf : X.defs = [] := by rfl) : Cfg X (.code .ret :: k) env L :=
  c_ret_any (fun a w O ha hs _ => by
    obtain ⟨_, fz, hh⟩ := hb w O hs
    obtain ⟨ti, hi, _, hsz, _⟩ := ht
    exact ⟨_, results_ctt h (ha.look t _ hv) (run_loadAgg hu hi hsz fun j u hj => by rw [add_off, blk_cell hh]; simpa using hj) (ha.look s _ hs') (ha.look r _ hr'), fin w O hs⟩) hf hrd hdf fun _ _ _ _ _ hb => steps_ret hb
end Go.SL
/- Rows opened as blocks and closed again; copy, cap, append of a count of zeros, slices.overlaps of the model. -/
namespace Go.SL
open Go

/-- Values of an encoding that a function writes. -/
def EncF {α : Type} (e : Enc α) (f : α → List Value) : Prop := ∀ w O cs x, e.rd w O cs x ↔ cs = f x
theorem EncF.int (k : IntKind) : EncF (eInt k) (fun n => [.int k n]) := fun _ _ _ _ => Iff.rfl
theorem EncF.str : EncF eStr (fun s => [.string s]) := fun _ _ _ _ => Iff.rfl
theorem EncF.bool : EncF eBool (fun s => [.bool s]) := fun _ _ _ _ => Iff.rfl
theorem EncF.pair {α β : Type} {e : Enc α} {e' : Enc β} {f : α → List Value} {f' : β → List Value} (h : EncF e f) (h' : EncF e' f') : EncF (ePair e e') (fun p => f p.1 ++ f' p.2) := fun w O cs x => by
  constructor
  · rintro ⟨c1, c2, rfl, h1, h2⟩
    rw [(h w O c1 x.1).1 h1, (h' w O c2 x.2).1 h2]
  · intro hc
    exact ⟨f x.1, f' x.2, hc, (h w O _ x.1).2 rfl, (h' w O _ x.2).2 rfl⟩
theorem rows_f {α : Type} {e : Enc α} {f : α → List Value} (he : EncF e f) {w : World} {O : Perm} : ∀ {xs : List α} {cs : List Value}, Rows e w O cs xs ↔ cs = xs.flatMap f
  | [], cs => Iff.rfl
  | x :: xs, cs => by
    constructor
    · rintro ⟨c1, c2, rfl, h1, h2⟩
      rw [List.flatMap_cons, (he w O c1 x).1 h1, (rows_f he).1 h2]
    · intro h
      exact ⟨f x, xs.flatMap f, h, (he w O _ x).2 rfl, (rows_f he).2 rfl⟩
theorem encF_len {α : Type} {e : Enc α} {f : α → List Value} (he : EncF e f) (x : α) : (f x).length = e.n := e.len ((he ⟨#[], default, 0, default, default⟩ (fun _ => 0) _ x).2 rfl)
theorem flat_len {α : Type} {f : α → List Value} {n : Nat} (h : ∀ x, (f x).length = n) : ∀ xs : List α, (xs.flatMap f).length = xs.length * n
  | [] => by simp
  | x :: xs => by rw [List.flatMap_cons, List.length_append, h, flat_len h xs, List.length_cons, Nat.succ_mul, Nat.add_comm]
theorem flat_take {α : Type} {f : α → List Value} {n : Nat} (h : ∀ x, (f x).length = n) : ∀ (xs : List α) (k : Nat), (xs.flatMap f).take (k * n) = (xs.take k).flatMap f
  | [], k => by simp
  | x :: xs, 0 => by simp
  | x :: xs, k + 1 => by
    rw [List.flatMap_cons, List.take_succ_cons, List.flatMap_cons, Nat.succ_mul, Nat.add_comm (k * n) n, ← h x, List.take_length_add_append, h x, flat_take h xs k]
theorem flat_drop {α : Type} {f : α → List Value} {n : Nat} (h : ∀ x, (f x).length = n) : ∀ (xs : List α) (k : Nat), (xs.flatMap f).drop (k * n) = (xs.drop k).flatMap f
  | [], k => by simp
  | x :: xs, 0 => by simp
  | x :: xs, k + 1 => by
    rw [List.flatMap_cons, List.drop_succ_cons, Nat.succ_mul, Nat.add_comm (k * n) n, ← h x, List.drop_length_add_append, h x, flat_drop h xs k]

section
variable {α : Type} {e : Enc α} {f : α → List Value} {T : TypeId} {xs : List α} {X : Cx} {k : List Item} {env : Env} {L : List A}
/-- A row that is there, as its block. -/
theorem own_open {g n cap : Nat} {w : World} {O : Perm} (he : EncF e f) (h : (Own e T (.slice (some ⟨g, 0, none⟩) n cap) xs).h w O) :
    n = xs.length ∧ xs.length ≤ cap ∧ cap ≤ maxLen ∧ ∃ cur : List Value, (Blk g T cur).h w O ∧ cur.length = cap * e.n ∧ cur.take (xs.length * e.n) = xs.flatMap f := by
  obtain ⟨O1, O2, cs, s, h1, h2, h3⟩ := h
  rcases h1.2 with ⟨h0, _⟩ | ⟨g', cap', cur, hv, _, hg, hle, hmx, hcs, htk⟩
  · cases h0
  · cases hv
    have hr := (rows_f he).1 h3
    refine ⟨rfl, hle, hmx, cur.toList, ⟨?_, by simpa using hg⟩, by simpa using hcs, by rw [htk, hr]⟩
    have := h2 g (by simp [Value.ownBlock])
    have := s.l g
    omega
theorem own_close {g cap : Nat} {cur : List Value} {w : World} {O : Perm} (he : EncF e f) (h : (Blk g T cur).h w O) (h1 : xs.length ≤ cap) (h2 : cap ≤ maxLen) (h3 : cur.length = cap * e.n) (h4 : cur.take (xs.length * e.n) = xs.flatMap f) :
    (Own e T (.slice (some ⟨g, 0, none⟩) xs.length cap) xs).h w O := by
  refine ⟨O, fun _ => 0, xs.flatMap f, ⟨fun _ => Nat.le_refl _, fun _ => Nat.zero_le _, fun _ _ => rfl, fun _ h => absurd h (by simp)⟩, ⟨?_, .inr ⟨g, cap, cur.toArray, rfl, Nat.zero_le _, h.2, h1, h2, by simpa using h3, by simpa using h4⟩⟩, fun b hb => ?_, (rows_f he).2 rfl⟩
  · exact flat_len (encF_len he) xs
  · simp only [Value.ownBlock, Option.some.injEq] at hb
    subst hb; exact h.1
theorem c_own_open {g n cap : Nat} (he : EncF e f) (h : ∀ cur : List Value, n = xs.length → xs.length ≤ cap → cap ≤ maxLen → cur.length = cap * e.n → cur.take (xs.length * e.n) = xs.flatMap f → Cfg X k env (Blk g T cur :: L)) :
    Cfg X k env (Own e T (.slice (some ⟨g, 0, none⟩) n cap) xs :: L) := fun a w O ha hs hr => by
  obtain ⟨O1, O2, s, h1, h2⟩ := hs
  obtain ⟨e1, e2, e3, cur, e4, e5, e6⟩ := own_open he h1
  exact h cur e1 e2 e3 e5 e6 a w O ha ⟨O1, O2, s, e4, h2⟩ hr
theorem ent_own_close {g cap : Nat} {cur : List Value} (he : EncF e f) (h1 : xs.length ≤ cap) (h2 : cap ≤ maxLen) (h3 : cur.length = cap * e.n) (h4 : cur.take (xs.length * e.n) = xs.flatMap f) :
    Ent (Blk g T cur :: L) (Own e T (.slice (some ⟨g, 0, none⟩) xs.length cap) xs :: L) := Ent.head fun _ _ h => own_close he h h1 h2 h3 h4
end

/-- Cells that are there. -/
def Cells (L : List A) (a : Addr) (cs : List Value) : Prop := ∀ w O, Stars L w O → ∀ j v, cs[j]? = some v → w.cell? (a.add j) = some v
theorem addr_add (b off j : Nat) : (⟨b, off, none⟩ : Addr).add j = ⟨b, off + j, none⟩ := by unfold Addr.add; split <;> simp_all
theorem Cells.blk {L : List A} {g off : Nat} {T : TypeId} {cur cs : List Value} (h : Has L (BlkR g T cur)) (hc : ∀ j v, cs[j]? = some v → cur[off + j]? = some v) : Cells L ⟨g, off, none⟩ cs := fun w O hs j v hj => by
  rw [addr_add]
  exact has_cell h (hc j v hj) hs
theorem Cells.of {L : List A} {a : Addr} {cs : List Value} {b : A} (h : Has L b) (hb : ∀ w O, b.h w O → ∀ j v, cs[j]? = some v → w.cell? (a.add j) = some v) : Cells L a cs := fun w O hs => hb w O (h w O hs)

section
variable {K : Act → World → Prop} {X : Cx} {kk : List Item} {env : Env} {L L1 : List A} {d : Nat} {T : TypeId} {pos : String} {af : Array Edge} {x y : Operand}
theorem v_cap {t E : TypeId} {a0 : Option Addr} {n c : Nat} (hu : X.P.underlying t = some (.slice E)) (hx : env.eval x = some (.slice a0 n c)) : Val X env L (.call ⟨.builtin .cap, #[x], #[t]⟩) T (.int .i64 c) :=
  fun _ _ _ _ a w O ha hl => by
    simp [execOp, resolve, invoke, builtin, Builtin.cap_, ha.eval hx, run_underlying hu, goInt]
theorem run_copy_cells {P : Program} (w : World) (dT sT ty elem : TypeId) (size : Nat) (g o dLen dCap : Nat) (a : Addr) (sLen sCap : Nat) (cur : Array Value) (t : TypeId) (cs : List Value)
    (hu : P.underlying dT = some (.slice elem)) (hs : (P.info? elem).map (·.size) = some size)
    (hg : w.heap[g]? = some (.cells cur t (0, 0))) (hn : cs.length = Nat.min sLen dLen * size)
    (hsrc : ∀ j v, cs[j]? = some v → w.cell? (a.add j) = some v) (hfit : o + cs.length ≤ cur.size) (h1 : ∀ v ∈ cs, v.oneCell' = true) :
    (Builtin.copy_ #[dT, sT] ty #[.slice (some ⟨g, o, none⟩) dLen dCap, .slice (some a) sLen sCap]).run P w =
      .ok (goInt (Nat.min sLen dLen)) (w.setRow g (cur.toList.take o ++ cs ++ cur.toList.drop (o + cs.length)).toArray) := by
  have hl := run_loadCells_list (P := P) w a cs hsrc
  have hst := run_storeCells_at P g o t cs 0 cur w hg (by simpa using hfit) h1
  cases hq : P.info? elem with
  | none => simp [hq] at hs
  | some i =>
    have hi : i.size = size := by simpa [hq] using hs
    simp [Builtin.copy_, run_underlying hu, Builtin.lenOf, Builtin.firstCells, sizeOf, typeInfo, hq, hi, ← hn, hl, hst]
theorem s_copy {dT sT E bt : TypeId} {z : Value} {sz nb g off dLen dCap : Nat} {a0 : Addr} {sLen sCap : Nat} (m : Nat) (cs : List Value) {cur cur' : List Value} (hu : X.P.underlying dT = some (.slice E)) (hE : TI X.P E z sz nb)
    (hx : env.eval x = some (.slice (some ⟨g, off, none⟩) dLen dCap)) (hy : env.eval y = some (.slice (some a0) sLen sCap)) (hm : m = min sLen dLen) (hsrc : Cells L a0 cs) (hlen : cs.length = m * sz) (h1 : ∀ v ∈ cs, v.oneCell' = true) (hd : d < X.fn.ntmps)
    (hp : Pick (Blk g bt cur) L L1) (hfit : off + cs.length ≤ cur.length) (hset : cur.take off ++ cs ++ cur.drop (off + cs.length) = cur') (k : Kont X ((d, goInt m) :: env) (Blk g bt cur' :: L1) K) :
    StepK X kk ⟨some d, .call ⟨.builtin .copy, #[x, y], #[dT, sT]⟩, T, pos, af, none⟩ env L K := by
  have hm' : m = Nat.min sLen dLen := hm
  refine s_main (γ := Unit) (V := fun _ => goInt m) (pu := fun _ => True) (L' := fun _ => Blk g bt cur' :: L1) ?_ hd (fun _ _ => k)
  intro a w O ha hst hdom
  have hsrc' := hsrc w O hst
  obtain ⟨O1, O2, s, ⟨hb2, hh⟩, hs2⟩ := hp w O hst
  obtain ⟨ti, hi, _, hsz, _⟩ := hE
  have hdom1 : ∀ b, O1 b ≠ 0 → b < w.heap.size := fun b hb => hdom b (by have := s.l b; omega)
  have hrun := run_copy_cells (P := X.P) w dT sT T E sz g off dLen dCap a0 sLen sCap cur.toArray bt cs hu (by rw [hi]; simp [hsz]) hh (by rw [← hm']; exact hlen) hsrc' (by simpa using hfit) h1
  have harr : (cur.toArray.toList.take off ++ cs ++ cur.toArray.toList.drop (off + cs.length)).toArray = cur'.toArray := by rw [← hset]
  rw [harr] at hrun
  obtain ⟨P, hP, hrel⟩ := step_at hdom s hs2 (setRow_rel (arr := cur'.toArray) hb2 hdom1) (L' := [Blk g bt cur']) ⟨O1, fun _ => 0, ⟨fun _ => Nat.le_refl _, fun _ => Nat.zero_le _, fun _ _ => rfl, fun _ h => by omega⟩, ⟨hb2, setRow_heap w g _ _ bt _ hh⟩, trivial⟩
  refine ⟨(), _, P, ?_, trivial, hP, hrel⟩
  simp [execOp, resolve, invoke, builtin, ha.eval hx, ha.eval hy, hrun, hm']
/-- What is appended are zeros, as many as a number says; there is no room. -/
theorem s_append_zeros {t tn E : TypeId} {z : Value} {sz nb m cap c : Nat} {a0 : Addr} (olds : List Value) (hu : X.P.underlying t = some (.slice E)) (hn : X.P.underlying tn = some (.int .i64)) (hE : TI X.P E z sz nb) (hzs : z.cells.size = sz) (hsz : 0 < sz)
    (hx : env.eval x = some (.slice (some a0) m cap)) (hy : env.eval y = some (.int .i64 (c : Nat))) (hsrc : Cells L a0 olds) (hlo : olds.length = m * sz) (h0 : 0 < c) (hg : cap < m + c) (hb : (m + c) * nb ≤ 140737488355328) (hb2 : m + c ≤ maxLen) (hd : d < X.fn.ntmps)
    (k : ∀ (g cap' : Nat) (cur : List Value), m + c ≤ cap' → cap' ≤ maxLen → cur.length = cap' * sz → cur.take (m * sz) = olds → Kont X ((d, .slice (some ⟨g, 0, none⟩) (m + c) cap') :: env) (Blk g E cur :: L) K) :
    StepK X kk ⟨some d, .call ⟨.builtin .append, #[x, y], #[t, tn]⟩, T, pos, af, none⟩ env L K := by
  refine s_main (γ := Nat × Nat × List Value) (V := fun r => .slice (some ⟨r.1, 0, none⟩) (m + c) r.2.1) (pu := fun r => m + c ≤ r.2.1 ∧ r.2.1 ≤ maxLen ∧ r.2.2.length = r.2.1 * sz ∧ r.2.2.take (m * sz) = olds) (L' := fun r => Blk r.1 E r.2.2 :: L) ?_ hd (fun r h => k r.1 r.2.1 r.2.2 h.1 h.2.1 h.2.2.1 h.2.2.2)
  intro a w O ha hst hdom
  have hsrc' := hsrc w O hst
  obtain ⟨ti, hi, hz0, hsz', hbt⟩ := hE
  subst hsz'
  subst hbt
  have hfc : (Builtin.firstCells ti.size m (.slice (some a0) m cap)).run X.P w.drew = .ok olds.toArray w.drew :=
    run_firstCells_some (P := X.P) w.drew ti.size m a0 m cap olds hlo (fun j u hj => (show w.drew.cell? (a0.add j) = w.cell? (a0.add j) from rfl).trans (hsrc' j u hj))
  have hml : m + c ≤ 9223372036854775807 := by simp only [maxLen] at hb2; omega
  have hcb : c * ti.bytes ≤ (m + c) * ti.bytes := Nat.mul_le_mul_right _ (by omega)
  have hrun := Lib.run_append_grow_zeros (P := X.P) w t tn T E ti z .i64 .i64 hu hn hi hz0 (some a0) m cap olds hfc c h0 hsz hg (by omega) (by omega) (growslice_fits hg hb)
  have hge := grownCap_ge w (m + c) cap E
  have hcm : grownCap w (m + c) cap E ≤ maxLen := grownCap_le_maxLen w (m + c) cap E hb2
  generalize hcap : grownCap w (m + c) cap E = cap' at hrun hge hcm
  have hdom' : ∀ b, O b ≠ 0 → b < w.drew.heap.size := hdom
  refine ⟨(w.heap.size, cap', olds ++ (Builtin.zeroCells z.cells c).toList ++ (Builtin.zeroCells z.cells (cap' - (m + c))).toList), w.drew.alloc (.cells (olds.toArray ++ Builtin.zeroCells z.cells c ++ Builtin.zeroCells z.cells (cap' - (m + c))) E), fresh w O, ?_, ⟨hge, hcm, ?_, ?_⟩, ?_, ?_⟩
  rotate_left
  · simp only [List.length_append, Array.length_toList, size_zeroCells, hzs, hlo, ← Nat.add_mul]
    congr 1
    omega
  · simp only [List.append_assoc]
    rw [← hlo]
    exact List.take_left
  · exact stars_alloc (w := w.drew) (.cells (olds.toArray ++ Builtin.zeroCells z.cells c ++ Builtin.zeroCells z.cells (cap' - (m + c))) E) hdom' (draw_stars hst) ⟨by show 2 ≤ if _ then _ else _; rw [if_pos (show w.heap.size = w.drew.heap.size from rfl)]; exact Nat.le_refl _, by
      have := heap_alloc w.drew (.cells (olds.toArray ++ Builtin.zeroCells z.cells c ++ Builtin.zeroCells z.cells (cap' - (m + c))) E)
      have e : (olds ++ (Builtin.zeroCells z.cells c).toList ++ (Builtin.zeroCells z.cells (cap' - (m + c))).toList).toArray = olds.toArray ++ Builtin.zeroCells z.cells c ++ Builtin.zeroCells z.cells (cap' - (m + c)) := by
        apply Array.ext'; simp
      show (w.drew.alloc _).heap[w.drew.heap.size]? = _
      rw [this, e]⟩
  · have := rel_alloc (w := w.drew) (O := O) (.cells (olds.toArray ++ Builtin.zeroCells z.cells c ++ Builtin.zeroCells z.cells (cap' - (m + c))) E) hdom'
    exact ⟨this.os, this.tape, this.output, this.size, this.old, this.perm, this.dom⟩
  · have hruns := hrun
    rw [← ha.eval hx, ← ha.eval hy] at hruns
    simp [execOp, resolve, invoke, builtin, hruns]
/-- The model's slices.overlaps: two rows of two blocks. -/
theorem s_overlaps {gf : FuncId} {fn : Func} {E tR : TypeId} {tS : TypeId} {z : Value} {sz nb : Nat} {ga oa la ca gb ob lb cb : Nat} {ta tb : TypeId} {ca' cb' : List Value} {xs : List Operand} {ts : Array TypeId} (hf : X.P.funcs[gf]? = some fn) (hname : (fn.name == "runtime.NumGoroutine") = false) (hb : fn.body.isNone = true) (hn : Extern.findNext fn = none)
    (he : Extern.find fn = some (Extern.SlicesOverlaps.overlaps #[tS, tS] #[tR])) (hu : X.P.underlying tS = some (.slice E)) (hE : TI X.P E z sz nb)
    (hx : evalAll env xs = some [.slice (some ⟨ga, oa, none⟩) la ca, .slice (some ⟨gb, ob, none⟩) lb cb]) (hd : d < X.fn.ntmps) (hA : Has L (Blk ga ta ca')) (hB : Has L (Blk gb tb cb')) (hne : ∀ w O, Stars L w O → ga ≠ gb) (hc0 : cb' ≠ [])
    (k : Kont X ((d, .bool false) :: env) L K) : StepK X kk ⟨some d, .call ⟨.value (.func gf), xs.toArray, ts⟩, T, pos, af, none⟩ env L K := by
  refine s_main (γ := Unit) (V := fun _ => .bool false) (pu := fun _ => True) (L' := fun _ => L) ?_ hd (fun _ _ => k)
  intro a w O ha hst hdom
  obtain ⟨_, hha⟩ := hA w O hst
  obtain ⟨_, hhb⟩ := hB w O hst
  obtain ⟨ti, hi, _, hsz, _⟩ := hE
  have hrun := Lib.run_overlaps_apart (P := X.P) w tS tR E hu sz (fun w => by simp [sizeOf, typeInfo, hi, hsz]) ⟨ga, oa, none⟩ ⟨gb, ob, none⟩ la ca lb cb (hne w O hst) ta tb ca'.length cb'.length (by simp [World.shape?, hha]) (by simp [World.shape?, hhb]) (by simpa using hc0) (by simp [World.frozen?, hha]) (by simp [World.frozen?, hha])
  refine ⟨(), w, O, ?_, trivial, hst, Rel.refl hdom⟩
  have hargs : (#[] : Array Value) ++ (xs.map a.eval).toArray ++ (#[] : Array Value) = #[.slice (some ⟨ga, oa, none⟩) la ca, .slice (some ⟨gb, ob, none⟩) lb cb] := by rw [ha.all hx]; rfl
  have hf' : a.eval (.func gf) = .func (.func gf) #[] #[] := ha.eval (show env.eval (.func gf) = some (.func (.func gf) #[] #[]) from rfl)
  simp only [execOp, resolve, hf', Deferred.ofValue, pure_bind, invoke, List.map_toArray]
  rw [hargs, run_callFunc_extern hf hname hb hn he, hrun]
  rfl
theorem blk_apart {ga gb : Nat} {ta tb : TypeId} {ca cb : List Value} {L L1 L2 : List A} (h1 : Pick (Blk ga ta ca) L L1) (h2 : Pick (Blk gb tb cb) L1 L2) {w : World} {O : Perm} (hs : Stars L w O) : ga ≠ gb := by
  obtain ⟨O1, O2, s, ⟨a1, _⟩, hs1⟩ := h1 w O hs
  obtain ⟨P1, P2, t, ⟨b1, _⟩, _⟩ := h2 w O2 hs1
  intro e
  subst e
  have := s.lr ga a1
  have := t.l ga
  omega
end
end Go.SL
/- Rows that may begin inside their block; a row that is looked at behind an append; a map that is gone through and updated at keys that it has. -/
namespace Go.SL
open Go

/-- v is a row of one's own, which may begin anywhere in its block. -/
def OwnO {α : Type} (e : Enc α) (T : TypeId) (v : Value) (xs : List α) : A where
  h := fun w O => (v = .slice none 0 0 ∧ xs = []) ∨ ∃ (g off cap : Nat) (cur : List Value) (f : α → List Value), EncF e f ∧ v = .slice (some ⟨g, off, none⟩) xs.length cap ∧ 2 ≤ O g ∧ w.heap[g]? = some (.cells cur.toArray T (0, 0)) ∧ xs.length ≤ cap ∧ cap ≤ maxLen ∧ off + cap * e.n ≤ cur.length ∧ (cur.drop off).take (xs.length * e.n) = xs.flatMap f
  mono := fun h hO => h.imp id fun ⟨g, off, cap, cur, f, he, h1, h2, h3⟩ => ⟨g, off, cap, cur, f, he, h1, Nat.le_trans h2 (hO g), h3⟩
  loc := fun h hw => h.imp id fun ⟨g, off, cap, cur, f, he, h1, h2, h3, h4⟩ => ⟨g, off, cap, cur, f, he, h1, h2, (hw g (by omega)).trans h3, h4⟩
theorem cell_in' {β : Type} {l : List β} {j : Nat} {u : β} (h : l[j]? = some u) : j < l.length := by
  rcases Nat.lt_or_ge j l.length with h' | h'
  · exact h'
  · rw [List.getElem?_eq_none h'] at h; cases h
/-- Both, of the same. -/
def AndA (a b : A) : A := ⟨fun w O => a.h w O ∧ b.h w O, fun h hO => ⟨a.mono h.1 hO, b.mono h.2 hO⟩, fun h hw => ⟨a.loc h.1 hw, b.loc h.2 hw⟩⟩

section
variable {α : Type} {e : Enc α} {f : α → List Value} {T : TypeId} {v : Value} {xs : List α} {L : List A}
theorem OwnO.nil (w : World) (O : Perm) : (OwnO e T (.slice none 0 0) []).h w O := .inl ⟨rfl, rfl⟩
theorem OwnO.sl {w : World} {O : Perm} (h : (OwnO e T v xs).h w O) : (Sl e v xs).h w O := by
  rcases h with ⟨rfl, rfl⟩ | ⟨g, off, cap, cur, f, he, rfl, h2, h3, h4, h5, h6, h7⟩
  · exact Sl.nil e w O
  · refine ⟨some ⟨g, off, none⟩, cap, rfl, h4, h5, .inr ⟨g, off, xs.flatMap f, rfl, by omega, (rows_f he).2 rfl, fun j u hj => ?_⟩⟩
    rw [blk_cell h3]
    rw [← h7, List.getElem?_take] at hj
    split at hj
    · rw [List.getElem?_drop] at hj; simpa using hj
    · cases hj
theorem OwnO.of {w : World} {O : Perm} (he : EncF e f) (h : (Own e T v xs).h w O) : (OwnO e T v xs).h w O := by
  rcases Own.form h with ⟨rfl, rfl⟩ | ⟨g, cap, rfl, _⟩
  · exact .inl ⟨rfl, rfl⟩
  · obtain ⟨_, h1, h2, cur, ⟨h3, h4⟩, h5, h6⟩ := own_open he h
    exact .inr ⟨g, 0, cap, cur, f, he, rfl, h3, h4, h1, h2, by rw [h5]; omega, by rw [List.drop_zero]; exact h6⟩
theorem OwnO.sep : (OwnO e T v xs).Sep := fun w O h => h.imp id fun ⟨g, off, cap, cur, f, he, h1, h2, h3⟩ => ⟨g, off, cap, cur, f, he, h1, by show 2 ≤ (if _ then _ else _); rw [if_pos h2]; exact h2, h3⟩
theorem OwnO.form {w : World} {O : Perm} (h : (OwnO e T v xs).h w O) : ∃ a0 cap, v = .slice a0 xs.length cap ∧ xs.length ≤ cap ∧ cap ≤ maxLen := by
  rcases h with ⟨rfl, rfl⟩ | ⟨g, off, cap, cur, f, he, rfl, _, _, h1, h2, _⟩
  · exact ⟨none, 0, rfl, Nat.le_refl _, Nat.zero_le _⟩
  · exact ⟨_, cap, rfl, h1, h2⟩
theorem OwnO.tail {w : World} {O : Perm} {cap : Nat} {x : α} {a0 : Option Addr} (h : (OwnO e T (.slice a0 (x :: xs).length cap) (x :: xs)).h w O) : (OwnO e T (cutV a0 1 (x :: xs).length cap e.n) xs).h w O := by
  rcases h with ⟨_, h⟩ | ⟨g, off, cap', cur, f, he, hv, h2, h3, h4, h5, h6, h7⟩
  · cases h
  · cases hv
    have hf := encF_len he
    right
    by_cases hc : cap = 1
    · subst hc
      have hx : xs = [] := List.eq_nil_of_length_eq_zero (by have : xs.length + 1 ≤ 1 := h4; omega)
      subst hx
      exact ⟨g, off, 0, cur, f, he, by simp [Go.SL.cutV], h2, h3, Nat.le_refl _, Nat.zero_le _, by omega, by simp⟩
    · refine ⟨g, off + e.n, cap - 1, cur, f, he, ?_, h2, h3, by have : xs.length + 1 ≤ cap := h4; omega, by omega, ?_, ?_⟩
      · simp only [Go.SL.cutV, if_neg hc, Option.map_some]
        rw [addr_add]; simp
      · obtain ⟨c, rfl⟩ : ∃ c, cap = c + 1 := ⟨cap - 1, by have : xs.length + 1 ≤ cap := h4; omega⟩
        rw [Nat.add_sub_cancel]
        rw [Nat.succ_mul] at h6; omega
      · have e1 := congrArg (List.drop e.n) h7
        rw [List.flatMap_cons, ← hf x, List.drop_left, List.drop_take, List.drop_drop, hf x] at e1
        rw [← e1]
        congr 1
        simp only [List.length_cons, Nat.succ_mul]; omega
theorem Has.sl_ownO : Has (OwnO e T v xs :: L) (Sl e v xs) := Has.here.imp fun _ _ h => OwnO.sl h
theorem Pick.ownO_sl : Pick (Sl e v xs) (OwnO e T v xs :: L) L := Pick.of Pick.here fun _ _ h => OwnO.sl h
theorem Elem.ownO {i : Nat} {z : α} (hz : xs[i]? = some z) : Elem (OwnO e T v xs :: L) e v i z := by
  intro w O hs
  obtain ⟨O1, O2, s, h, hs2⟩ := hs
  rcases h with ⟨rfl, rfl⟩ | ⟨g, off, cap, cur, f, he, rfl, h2, h3, h4, h5, h6, h7⟩
  · cases hz
  · have hil := cell_in' hz
    have hfl := encF_len he
    refine ⟨f z, ⟨fun _ => 0, O, ⟨fun _ => Nat.zero_le _, fun _ => Nat.le_refl _, fun _ h => by omega, fun _ _ => rfl⟩, (he w _ _ z).2 rfl, O1, O2, s, .inr ⟨g, off, cap, cur, f, he, rfl, h2, h3, h4, h5, h6, h7⟩, hs2⟩, ⟨g, by have := s.l g; omega, rfl⟩, fun j u hj => ?_⟩
    have hjl := cell_in' hj
    rw [hfl] at hjl
    show w.cell? ⟨g, off + i * e.n + j, none⟩ = some u
    rw [blk_cell h3]
    have e1 : ((xs.drop i).flatMap f)[j]? = some u := by
      rw [List.drop_eq_getElem_cons hil, List.flatMap_cons, List.getElem?_append_left (by rw [hfl]; exact hjl)]
      rw [List.getElem?_eq_getElem hil] at hz
      rw [Option.some.inj hz]; exact hj
    rw [← flat_drop hfl, ← h7, List.getElem?_drop, List.getElem?_take] at e1
    split at e1
    · rw [List.getElem?_drop] at e1
      rw [List.getElem?_toArray, Nat.add_assoc]; exact e1
    · cases e1
theorem AndA.fst {a b : A} {w : World} {O : Perm} (h : (AndA a b).h w O) : a.h w O := h.1
theorem AndA.snd {a b : A} {w : World} {O : Perm} (h : (AndA a b).h w O) : b.h w O := h.2
end

section
variable {K : Act → World → Prop} {X : Cx} {kk : List Item} {env : Env} {L L1 L2 : List A} {d : Nat} {T : TypeId} {pos : String} {af : Array Edge} {x y : Operand}
/-- An append behind which the row is as it was, and the longer one is looked at. -/
theorem s_append_look {α : Type} {e : Enc α} {f : α → List Value} {E : TypeId} {v u : Value} {zs ys : List α} {t : TypeId} {z : Value} {nb : Nat} (he : EncF e f) (hu : X.P.underlying t = some (.slice E)) (hE : TI X.P E z e.n nb) (hzs : z.cells.size = e.n) (hn : 0 < e.n)
    (hx : env.eval x = some v) (hy : env.eval y = some u) (hd : d < X.fn.ntmps) (hp : Pick (OwnO e E v zs) L L1) (hq : Pick (Own e E u ys) L1 L2) (hys : ys ≠ []) (hb : (zs.length + ys.length) * nb ≤ 140737488355328)
    (hb2 : zs.length + ys.length ≤ maxLen)
    (k : ∀ v', Kont X ((d, v') :: env) (AndA (OwnO e E v zs) (Sl e v' (zs ++ ys)) :: L2) K) :
    StepK X kk ⟨some d, .call ⟨.builtin .append, #[x, y], #[t, t]⟩, T, pos, af, none⟩ env L K := by
  refine s_main (γ := Value) (V := fun u => u) (pu := fun _ => True) (L' := fun v' => AndA (OwnO e E v zs) (Sl e v' (zs ++ ys)) :: L2) ?_ hd (fun u _ => k u)
  intro a w O ha hst hdom
  obtain ⟨O1, O2, s, hO, hs2⟩ := hp w O hst
  obtain ⟨O3, O4, s3, hU, hs4⟩ := hq w O2 hs2
  obtain ⟨ti, hi, hz0, hsz, hbt⟩ := hE
  have hfl : ∀ x, (f x).length = e.n := encF_len he
  have hcl : (ys.flatMap f).length = ys.length * e.n := flat_len hfl ys
  have hzl : (zs.flatMap f).length = zs.length * e.n := flat_len hfl zs
  have hpos : 0 < ys.length := List.length_pos_iff.2 hys
  obtain ⟨gu, cu, rfl, -⟩ := (Own.form hU).resolve_left fun h => hys h.2
  obtain ⟨_, hu1, hu2, curu, ⟨hu3, hu4⟩, hu5, hu6⟩ := own_open he hU
  have h1 : ∀ c ∈ ys.flatMap f, c.oneCell' = true := Rows.one (e := e) (w := w) (O := O) ((rows_f he).2 rfl)
  have hnews : ∀ j c, (ys.flatMap f)[j]? = some c → w.cell? ((⟨gu, 0, none⟩ : Addr).add j) = some c := fun j c hj => by
    rw [addr_add, blk_cell hu4, Nat.zero_add]
    rw [← hu6, List.getElem?_take] at hj
    split at hj
    · simpa using hj
    · cases hj
  have hdu : O4 gu = 0 := s3.lr gu hu3
  have hml : zs.length + ys.length ≤ 9223372036854775807 := by simp only [maxLen] at hb2; omega
  have hbb : ys.length * ti.bytes ≤ 281474976710656 := by
    have := Nat.mul_le_mul_right nb (show ys.length ≤ zs.length + ys.length by omega)
    rw [hbt]; omega
  -- a new block
  have grow : ∀ (v0 : Value) (cap' : Nat), zs.length + ys.length ≤ cap' → cap' ≤ maxLen → (OwnO e E v0 zs).h w O1 →
      (Builtin.append_ #[t, t] T #[a.eval x, a.eval y]).run X.P w = .ok (.slice (some ⟨w.heap.size, 0, none⟩) (zs.length + ys.length) cap') (w.drew.alloc (.cells ((zs.flatMap f).toArray ++ (ys.flatMap f).toArray ++ Builtin.zeroCells z.cells (cap' - (zs.length + ys.length))) E)) →
      ∃ g w' O', (execOp a.eval ⟨some d, .call ⟨.builtin .append, #[x, y], #[t, t]⟩, T, pos, af, none⟩).run X.P w = .ok (.value g) w' ∧ True ∧ Stars (AndA (OwnO e E v0 zs) (Sl e g (zs ++ ys)) :: L2) w' O' ∧ Rel w O w' O' := by
    intro v0 cap' hc1 hc2 hO1 hrun
    generalize hnew : ((zs.flatMap f).toArray ++ (ys.flatMap f).toArray ++ Builtin.zeroCells z.cells (cap' - (zs.length + ys.length))) = new at hrun
    have hdom' : ∀ b, O b ≠ 0 → b < w.drew.heap.size := hdom
    have hrel := rel_alloc (w := w.drew) (O := O) (.cells new E) hdom'
    have hold : ∀ c, c < w.heap.size → (w.drew.alloc (.cells new E)).heap[c]? = w.heap[c]? := fun c hc => by
      show (w.drew.heap.push _)[c]? = _
      rw [Array.getElem?_push, if_neg (by show ¬ c = w.heap.size; omega)]; rfl
    have hnewb : (w.drew.alloc (.cells new E)).heap[w.heap.size]? = some (.cells new E (0, 0)) := heap_alloc w.drew _
    have hO0 : ∀ P : Perm, (∀ b, P b ≤ O b) → P w.heap.size = 0 := fun P hP => by
      rcases Nat.eq_zero_or_pos (P w.heap.size) with h | h
      · exact h
      · have := hP w.heap.size
        have := hdom w.heap.size (by omega); omega
    refine ⟨.slice (some ⟨w.heap.size, 0, none⟩) (zs.length + ys.length) cap', w.drew.alloc (.cells new E), fresh w O, by simp [execOp, resolve, invoke, builtin, hrun], trivial, ?_, ⟨hrel.os, hrel.tape, hrel.output, hrel.size, hrel.old, hrel.perm, hrel.dom⟩⟩
    have hO2' : ∀ b, O4 b ≤ O b := fun b => Nat.le_trans (s3.r b) (s.r b)
    refine ⟨fresh w O1, O4, ⟨fun b => ?_, fun b => ?_, fun b hb => ?_, fun b hb => ?_⟩, ⟨?_, ?_⟩, hs4.loc fun c hc => hold c (hdom c (by have := hO2' c; omega))⟩
    · simp only [fresh]; split
      · exact Nat.le_refl _
      · exact s.l b
    · simp only [fresh]; split
      · rename_i h; subst h; rw [hO0 O4 hO2']; omega
      · exact hO2' b
    · simp only [fresh] at hb
      split at hb
      · rename_i h; subst h; exact hO0 O4 hO2'
      · have := s.lr b hb; have := s3.r b; omega
    · have h5 := s3.rl b hb
      have h6 := s.rl b (by have := s3.r b; omega)
      simp only [fresh]; split
      · rename_i h; subst h; have := hO0 O4 hO2'; omega
      · exact h6
    · refine (OwnO e E v0 zs).mono ((OwnO e E v0 zs).loc hO1 fun c hc => hold c (hdom c (by have := s.l c; omega))) fun b => ?_
      simp only [fresh]; split
      · rename_i h; subst h; rw [hO0 O1 s.l]; omega
      · exact Nat.le_refl _
    · refine ⟨some ⟨w.heap.size, 0, none⟩, cap', by rw [List.length_append], by rw [List.length_append]; exact hc1, hc2, .inr ⟨w.heap.size, 0, (zs ++ ys).flatMap f, rfl, by simp [fresh], (rows_f he).2 rfl, fun j c hj => ?_⟩⟩
      rw [blk_cell hnewb, Nat.zero_add, ← hnew]
      rw [List.flatMap_append] at hj
      have hjl := cell_in hj
      rw [Array.getElem?_append_left (by simpa using hjl)]
      simpa using hj
  have hge := fun n c => grownCap_ge w n c E
  have hcm := fun n c h => grownCap_le_maxLen w n c E h
  rcases hO with ⟨rfl, rfl⟩ | ⟨g, off, cap, cur, f', he', rfl, hg2, hgh, hzc, hcapm, hfit, hcur⟩
  · have hrun := run_append_nil (P := X.P) w t T E ti z hu hi hz0 ⟨gu, 0, none⟩ ys.length cu (ys.flatMap f) (by rw [hsz]; exact hcl) hnews hpos (by simp at hml; omega) hbb
    rw [← ha.eval hx, ← ha.eval hy] at hrun
    have := grow (.slice none 0 0) (grownCap w ys.length 0 E) (by simpa using hge ys.length 0) (hcm _ _ (by simpa using hb2)) (.inl ⟨rfl, rfl⟩) (by simpa using hrun)
    exact this
  · obtain rfl : f = f' := funext fun x => ((he w O (f' x) x).1 ((he' w O (f' x) x).2 rfl)).symm
    by_cases hroom : zs.length + ys.length ≤ cap
    · have hlen : (zs.length + ys.length) * e.n ≤ cap * e.n := Nat.mul_le_mul_right _ hroom
      rw [Nat.add_mul] at hlen
      have hst := run_storeCells_at X.P g (off + zs.length * e.n) E (ys.flatMap f) 0 cur.toArray w hgh (by simp [hcl]; omega) h1
      have hfc := run_firstCells_some (P := X.P) w e.n ys.length ⟨gu, 0, none⟩ ys.length cu (ys.flatMap f) hcl hnews
      generalize hnew : (cur.toArray.toList.take (off + zs.length * e.n + 0) ++ ys.flatMap f ++ cur.toArray.toList.drop (off + zs.length * e.n + 0 + (ys.flatMap f).length)) = new at hst
      have hadd : (⟨g, off, none⟩ : Addr).add (zs.length * e.n) = ⟨g, off + zs.length * e.n, none⟩ := addr_add _ _ _
      have hrun : (Builtin.append_ #[t, t] T #[a.eval x, a.eval y]).run X.P w = .ok (.slice (some ⟨g, off, none⟩) (zs.length + ys.length) cap) (w.setRow g new.toArray) := by
        rw [ha.eval hx, ha.eval hy]
        simp [Builtin.append_, run_underlying hu, sizeOf, typeInfo, hi, hsz, Builtin.lenOf, hroom, hfc, hadd, hst]
      have hnewl : new.length = cur.length := by
        rw [← hnew]; simp only [List.length_append, List.length_take, List.length_drop, hcl]; omega
      have hnewt : (new.drop off).take ((zs.length + ys.length) * e.n) = zs.flatMap f ++ ys.flatMap f := by
        have e0 : cur.drop off = (cur.drop off).take (zs.length * e.n) ++ (cur.drop off).drop (zs.length * e.n) := (List.take_append_drop _ _).symm
        have e1 : cur.take (off + zs.length * e.n) = cur.take off ++ zs.flatMap f := by rw [List.take_add, hcur]
        rw [← hnew]
        simp only [Nat.add_zero]
        rw [e1, List.append_assoc, List.append_assoc, List.drop_left' (by simp; omega), Nat.add_mul, ← List.append_assoc]
        exact List.take_left' (by simp only [List.length_append, hzl, hcl])
      have hgw : (w.setRow g new.toArray).heap[g]? = some (.cells new.toArray E (0, 0)) := setRow_heap w g _ _ E _ hgh
      have hOg : 2 ≤ O g := Nat.le_trans hg2 (s.l g)
      refine ⟨.slice (some ⟨g, off, none⟩) (zs.length + ys.length) cap, w.setRow g new.toArray, O, by simp [execOp, resolve, invoke, builtin, hrun], trivial, ⟨O1, O4, ⟨s.l, fun b => Nat.le_trans (s3.r b) (s.r b), fun b hb => ?_, fun b hb => ?_⟩, ⟨?_, ?_⟩, hs4.loc fun c hc => ?_⟩, setRow_rel hOg hdom⟩
      · have := s.lr b hb; have := s3.r b; omega
      · exact s.rl b (Nat.le_trans hb (s3.r b))
      · refine Or.inr ⟨g, off, cap, new, f, he, rfl, hg2, hgw, hzc, hcapm, by omega, ?_⟩
        have e3 := congrArg (List.take (zs.length * e.n)) hnewt
        rw [List.take_take, Nat.min_eq_left (Nat.mul_le_mul_right _ (by omega)), List.take_left' hzl] at e3
        exact e3
      · refine ⟨some ⟨g, off, none⟩, cap, by rw [List.length_append], by rw [List.length_append]; exact hroom, hcapm, .inr ⟨g, off, (zs ++ ys).flatMap f, rfl, by omega, (rows_f he).2 rfl, fun j c hj => ?_⟩⟩
        rw [blk_cell hgw]
        rw [List.flatMap_append, ← hnewt, List.getElem?_take] at hj
        split at hj
        · rw [List.getElem?_drop] at hj; simpa using hj
        · cases hj
      · have : c ≠ g := by intro e; subst e; have := s.lr c hg2; have := s3.r c; omega
        rw [setRow_other w g c _ this]
    · have holds : ∀ j c, (zs.flatMap f)[j]? = some c → w.cell? ((⟨g, off, none⟩ : Addr).add j) = some c := fun j c hj => by
        rw [addr_add, blk_cell hgh]
        rw [← hcur, List.getElem?_take] at hj
        split at hj
        · rw [List.getElem?_drop] at hj; simpa using hj
        · cases hj
      have hrun := run_append_grow (P := X.P) w t T E ti z hu hi hz0 ⟨g, off, none⟩ zs.length cap (zs.flatMap f) (by rw [hsz]; exact hzl) holds ⟨gu, 0, none⟩ ys.length cu (ys.flatMap f) (by rw [hsz]; exact hcl) hnews (by omega) (by omega) (growslice_fits (by omega) (by rw [hbt]; exact hb))
      rw [← ha.eval hx, ← ha.eval hy] at hrun
      exact grow _ (grownCap w (zs.length + ys.length) cap E) (hge _ _) (hcm _ _ hb2) (.inr ⟨g, off, cap, cur, f, he, rfl, hg2, hgh, hzc, hcapm, hfit, hcur⟩) hrun
end
section
variable {κ : Type} [DecidableEq κ] (ke : KeyEnc κ)
variable {X : Cx} {env : Env} {L L1 : List A} {T : TypeId} {x y : Operand} {K : Act → World → Prop} {kk : List Item} {pos : String} {af : Array Edge} {d : Nat}
open Classical in
/-- An update at a key that the map has, while the map is gone through. -/
theorem s_mapUpdate_it {t kt et : TypeId} {it b : Nat} {m : List (κ × Value)} {pre : List κ} {k : κ} {u : Value} {z : Operand} (hu : X.P.underlying t = some (.map kt et)) (hk : X.P.underlying kt = some ke.desc) (hsc : ∀ a, (∃ n j, ke.val a = .int j n) ∨ ∃ s, ke.val a = .string s)
    (hx : env.eval x = some (.map (some b))) (hy : env.eval y = some (ke.val k)) (hz : env.eval z = some u) (hp : Pick (MapItO ke it (some b) m pre) L L1) (hin : k ∈ m.map fun p : κ × Value => p.1) (kk' : Kont X env (MapItO ke it (some b) (upd m k u) pre :: L1) K) :
    StepK X kk ⟨none, .mapUpdate t x y z, T, pos, af, none⟩ env L K := by
  refine s_skip (γ := Unit) (pu := fun _ => True) (L' := fun _ => MapItO ke it (some b) (upd m k u) pre :: L1) ?_ (fun _ _ => kk')
  intro a w O ha hst hdom
  obtain ⟨O1, O2, s, hO, hs2⟩ := hp w O hst
  obtain ⟨hne, q1, q2, es, clock, seen, hb, hit, he, hbn, hbc, hnd, ps, hp1, hp2, hp3⟩ := mapItO_some ke hO
  obtain ⟨r, g1, g2, g3, g4⟩ := findNow_of ke (k := k) 0 he
  have hget : (getObj b).run X.P w = .ok (.map es clock) w := by simp [getObj, Sem.run, hb]
  have hfind : (Instr.findKey kt (ke.val k) es.toList).run X.P w = .ok r w := by simp [Instr.findKey, run_underlying hk, g1]
  have hchk : (Instr.checkKey false 10000 kt (ke.val k)).run X.P w = .ok () w := ke.chk X.P w 9999 false kt k hk
  have hset : ∀ o, (setObj b o).run X.P w = .ok () (w.putObj b o) := fun o => by simp [setObj, Sem.run, hb, World.putObj]
  cases r with
  | none => exact absurd hin (g4 rfl)
  | some p =>
    obtain ⟨i, v⟩ := p
    obtain ⟨n, hn, hm⟩ := g3 i v rfl
    rw [Nat.zero_add] at hn
    subst hn
    have hold : ((es[i]?).map (fun e : MapEntry => e.key)).getD (ke.val k) = ke.val k := by
      have := congrArg (fun l => l[i]?) he
      simp only [List.getElem?_map, Array.getElem?_toList] at this
      rw [Option.map_eq_some_iff] at hm
      obtain ⟨q, hq, hqk⟩ := hm
      rw [hq] at this
      cases he2 : es[i]? with
      | none => rfl
      | some e2 =>
        rw [he2] at this
        simp only [Option.map_some, Option.some.injEq, Prod.mk.injEq] at this
        simp [this.1, hqk]
    have hstay : (Instr.keyThatStays (ke.val k) (ke.val k)).run X.P w = .ok (ke.val k) w := by
      simp [Instr.keyThatStays, sameBits_self ke.val hsc k]
    have hrun : (Instr.mapUpdate t (.map (some b)) (ke.val k) u).run X.P w = .ok () (w.putObj b (.map (es.modify i fun e => { e with key := ke.val k, val := u }) clock)) := by
      simp [Instr.mapUpdate, run_underlying hu, hget, hchk, hfind, hset, hold, hstay]
    have hbs : b < w.heap.size := hdom b (by have := s.l b; omega)
    have hdom1 : ∀ c, O1 c ≠ 0 → c < w.heap.size := fun c hc => hdom c (by have := s.l c; omega)
    have hrel1 : Rel w O (w.putObj b (.map (es.modify i fun e => { e with key := ke.val k, val := u }) clock)) O := by
      refine ⟨rfl, rfl, rfl, by simp, fun c hc h => ?_, fun _ _ => Nat.le_refl _, fun c hc => by simpa using hdom c hc⟩
      have : c ≠ b := by intro e; subst e; have := s.l c; omega
      rw [World.putObj_heap_other this]
    let g : MapEntry → MapEntry := fun e => if e.key = ke.val k then { e with key := ke.val k, val := u } else e
    have hkeys : (es.toList.map fun e : MapEntry => e.key).Nodup := ents_keys ke he hnd
    have hmod : (es.toList.modify i fun e => { e with key := ke.val k, val := u }) = es.toList.map g := by
      have hik : ∀ e, es.toList[i]? = some e → e.key = ke.val k := fun e hei => by
        rw [Array.getElem?_toList] at hei
        rw [hei] at hold
        simpa using hold
      apply List.ext_getElem?
      intro j
      rw [List.getElem?_modify, List.getElem?_map]
      cases hj : es.toList[j]? with
      | none => simp
      | some e =>
        simp only [Option.map_some, Option.some.injEq]
        by_cases hij : i = j
        · subst hij
          simp only [Functor.map, Option.map_some, if_true, g, if_pos (hik e hj)]
        · simp only [Functor.map, Option.map_some, if_neg hij, g]
          rw [if_neg]
          · intro hek
            have hil : i < es.toList.length := by
              have := congrArg List.length he
              rw [Option.map_eq_some_iff] at hm
              obtain ⟨q, hq, _⟩ := hm
              have := cell_in' hq
              simp only [List.length_map] at *
              omega
            have h1 := hik _ (List.getElem?_eq_getElem hil)
            have hjl := cell_in' hj
            have h2 : es.toList[j] = e := by rw [List.getElem?_eq_getElem hjl] at hj; exact Option.some.inj hj
            have h3 := List.pairwise_iff_getElem.1 hkeys
            rcases Nat.lt_or_gt_of_ne hij with h | h
            · exact h3 i j (by simpa using hil) (by simpa using hjl) h (by simp only [List.getElem_map, h1, h2, hek])
            · exact h3 j i (by simpa using hjl) (by simpa using hil) h (by simp only [List.getElem_map, h1, h2, hek])
    refine ⟨(), _, O, by simp [execOp, ha.eval hx, ha.eval hy, ha.eval hz, hrun], trivial, ⟨O1, O2, s, mapItO_mk ke hne ⟨q1, q2, es.modify i fun e => { e with key := ke.val k, val := u }, clock, seen, World.putObj_heap_same hbs, ?_, ?_, ?_, ?_, upd_nodup hnd, ps.map g, ?_, ?_, ?_⟩, hs2.loc fun c hc => ?_⟩, hrel1⟩
    · rw [World.putObj_heap_other hne]; exact hit
    · rw [Array.toList_modify]; exact ents_found ke i he hm hnd
    · rw [Array.toList_modify, modify_born]; exact hbn
    · intro e he'
      rw [Array.toList_modify, hmod] at he'
      obtain ⟨e0, he0, rfl⟩ := List.mem_map.1 he'
      have := hbc e0 he0
      simp only [g]; split <;> exact this
    · rw [List.map_map, ← hp1]
      apply List.map_congr_left
      intro e _
      simp only [Function.comp, g]
      split
      · rename_i h; exact h.symm
      · rfl
    · rw [hp2, List.map_map]
      apply List.map_congr_left
      intro e _
      simp only [Function.comp, g]
      split <;> rfl
    · intro e hee
      obtain ⟨e0, he0, rfl⟩ := List.mem_map.1 hee
      rw [Array.toList_modify, hmod]
      exact List.mem_map.2 ⟨e0, hp3 e0 he0, rfl⟩
    · have : c ≠ b := by intro e; subst e; have := s.lr c q2; omega
      rw [World.putObj_heap_other this]
end
section
variable {X : Cx} {ops : Array Oper} {kk : List Item} {env : Env} {L L1 S : List A} {j0 fuel : Nat} {listed : Array Bool}
/-- Two operations may come up, either first. -/
theorem a_two (i j : Nat) {d d' : Option Nat} {op op' : Op} {T T' : TypeId} {pos pos' : String} {af af' : Array Edge} (hi : ops[i]? = some ⟨d, op, T, pos, af, none⟩) (hj : ops[j]? = some ⟨d', op', T', pos', af', none⟩) (hr : Region.ready .any ops listed = [i, j])
    (h : StepK X kk ⟨d, op, T, pos, af, none⟩ env L fun a w => (∃ O, Stars S w O) ∧ wpAnyH X.P .any ops (Qn X kk) (fun w => ∃ O, Stars S w O) fuel (listed.setIfInBounds i true) a w)
    (h' : StepK X kk ⟨d', op', T', pos', af', none⟩ env L fun a w => (∃ O, Stars S w O) ∧ wpAnyH X.P .any ops (Qn X kk) (fun w => ∃ O, Stars S w O) fuel (listed.setIfInBounds j true) a w) : Any X ops S (fuel + 1) listed kk env L := by
  intro a w O ha hst hrel
  refine wpAnyH_all hr (by simp) fun q hq => ?_
  have hq' : q = i ∨ q = j := by simpa using hq
  rcases hq' with rfl | rfl
  · simp only [wpOp, hi, Region.wanted, if_true]
    exact .inl (h a w O ha hst hrel)
  · simp only [wpOp, hj, Region.wanted, if_true]
    exact .inl (h' a w O ha hst hrel)
theorem k_two (i j : Nat) {d d' : Option Nat} {op op' : Op} {T T' : TypeId} {pos pos' : String} {af af' : Array Edge} (hi : ops[i]? = some ⟨d, op, T, pos, af, none⟩) (hj : ops[j]? = some ⟨d', op', T', pos', af', none⟩) (hr : Region.ready .any ops listed = [i, j])
    (h : Closed .any ops (listed.setIfInBounds i true) → StepK X kk ⟨d, op, T, pos, af, none⟩ env L fun a w => ((listed.setIfInBounds i true).getD j0 false = true ∨ ∃ O, Stars S w O) ∧ wpAnyK X.P .any ops (Qn X kk) (fun w => ∃ O, Stars S w O) j0 fuel (listed.setIfInBounds i true) a w)
    (h' : Closed .any ops (listed.setIfInBounds j true) → StepK X kk ⟨d', op', T', pos', af', none⟩ env L fun a w => ((listed.setIfInBounds j true).getD j0 false = true ∨ ∃ O, Stars S w O) ∧ wpAnyK X.P .any ops (Qn X kk) (fun w => ∃ O, Stars S w O) j0 fuel (listed.setIfInBounds j true) a w) : AnyG X ops S j0 (fuel + 1) listed kk env L := by
  intro hc a w O ha hst hrel
  refine ⟨fun h0 => absurd (hr ▸ h0) (by simp), fun q hq => ?_⟩
  have hq' : q = i ∨ q = j := by rw [hr] at hq; simpa using hq
  rcases hq' with rfl | rfl
  · simp only [wpOp, hi, Region.wanted, if_true]
    exact .inl (h (closed_set hc (by rw [hr]; simp)) a w O ha hst hrel)
  · simp only [wpOp, hj, Region.wanted, if_true]
    exact .inl (h' (closed_set hc (by rw [hr]; simp)) a w O ha hst hrel)
theorem Has.and_snd {a b : A} : Has (AndA a b :: L) b := Has.here.imp fun _ _ h => h.2
theorem Has.and_fst {a b : A} : Has (AndA a b :: L) a := Has.here.imp fun _ _ h => h.1
theorem Pick.and_fst {a b : A} : Pick a (AndA a b :: L) L := Pick.of Pick.here fun _ _ h => h.1
end
end Go.SL
/- What is taken, kept, read: found by constructors, one after the other (short words for the walks). -/
namespace Go.SL
open Go
inductive HX : List A → A → Prop
  | here {a : A} {L : List A} : HX (a :: L) a
  | apd {α : Type} {e : Enc α} {T : TypeId} {v : Value} {xs : List α} {L : List A} : HX (Apd e T v xs :: L) (Sl e v xs)
  | own {α : Type} {e : Enc α} {T : TypeId} {v : Value} {xs : List α} {L : List A} : HX (Own e T v xs :: L) (Sl e v xs)
  | ownO {α : Type} {e : Enc α} {T : TypeId} {v : Value} {xs : List α} {L : List A} : HX (OwnO e T v xs :: L) (Sl e v xs)
  | and {a b : A} {L : List A} : HX (AndA a b :: L) b
  | blk {b : Nat} {T : TypeId} {cs : List Value} {L : List A} : HX (Blk b T cs :: L) (BlkR b T cs)
  | there {a b : A} {L : List A} (h : HX L a) : HX (b :: L) a
theorem hX {L : List A} {a : A} (h : HX L a) : Has L a := by
  induction h with
  | here => exact Has.here
  | apd => exact Has.sl_apd
  | own => exact Has.sl_own
  | ownO => exact Has.sl_ownO
  | and => exact Has.and_snd
  | blk => exact Has.r_blk
  | there _ ih => exact Has.there ih
inductive PX : A → List A → List A → Prop
  | sl {α : Type} {e : Enc α} {v : Value} {xs : List α} {L : List A} : PX (Sl e v xs) (Sl e v xs :: L) (Sl e v xs :: L)
  | rd {b : Nat} {T : TypeId} {cs : List Value} {L : List A} : PX (BlkR b T cs) (BlkR b T cs :: L) (BlkR b T cs :: L)
  | fld {p : Addr} {u : Value} {L : List A} : PX (FldCell p u) (FldCell p u :: L) (FldCell p u :: L)
  | here {a : A} {L : List A} : PX a (a :: L) L
  | own {α : Type} {e : Enc α} {T : TypeId} {v : Value} {xs : List α} {L : List A} : PX (Sl e v xs) (Own e T v xs :: L) L
  | ownO {α : Type} {e : Enc α} {T : TypeId} {v : Value} {xs : List α} {L : List A} : PX (Sl e v xs) (OwnO e T v xs :: L) L
  | and {a b : A} {L : List A} : PX a (AndA a b :: L) L
  | apd {α : Type} {e : Enc α} {T : TypeId} {v : Value} {xs : List α} {L : List A} : PX (Sl e v xs) (Apd e T v xs :: L) L
  | blk {b : Nat} {T : TypeId} {cs : List Value} {L : List A} : PX (BlkR b T cs) (Blk b T cs :: L) L
  | nil {α : Type} {e : Enc α} {L : List A} : PX (Sl e (.slice none 0 0) []) L L
  | nilO {α : Type} {e : Enc α} {T : TypeId} {L : List A} : PX (Own e T (.slice none 0 0) []) L L
  | map {κ : Type} [DecidableEq κ] {ke : KeyEnc κ} {it : Nat} {o : Option Nat} {m : List (κ × Value)} {pre : List κ} {L : List A} : PX (MapO ke o m) (MapItO ke it o m pre :: L) L
  | there {a b : A} {L L' : List A} (h : PX a L L') : PX a (b :: L) (b :: L')
theorem pX {a : A} {L L' : List A} (h : PX a L L') : Pick a L L' := by
  induction h with
  | sl => exact Pick.keep (Sl.isDup _ _ _)
  | rd => exact Pick.keep (BlkR.isDup _ _ _)
  | fld => exact Pick.keep (FldCell.isDup _ _)
  | here => exact Pick.here
  | own => exact Pick.own_sl
  | ownO => exact Pick.ownO_sl
  | and => exact Pick.and_fst
  | apd => exact Pick.apd_sl
  | blk => exact Pick.r_blk
  | nil => exact Pick.sl_nil
  | nilO => exact Pick.own_nil
  | map => exact Pick.map_itO _
  | there _ ih => exact Pick.there ih
inductive PXs : List A → List A → List A → Prop
  | nil {L : List A} : PXs [] L L
  | cons {a : A} {az L L1 L2 : List A} (h : PX a L L1) (t : PXs az L1 L2) : PXs (a :: az) L L2
theorem pXs {az L L' : List A} (h : PXs az L L') : Picks az L L' := by
  induction h with
  | nil => exact .nil
  | cons h _ ih => exact .cons (pX h) ih
theorem eX {az L L' : List A} (h : PXs az L L') : Ent L az := (pXs h).ent
inductive PB : A → List A → List A → Prop
  | here {a : A} {L : List A} : PB a (a :: L) L
  | nil {α : Type} {e : Enc α} {T : TypeId} {L : List A} : PB (Own e T (.slice none 0 0) []) L L
  | there {a b : A} {L L' : List A} (h : PB a L L') : PB a (b :: L) (b :: L')
theorem pB {a : A} {L L' : List A} (h : PB a L L') : Pick a L L' := by
  induction h with
  | here => exact Pick.here
  | nil => exact Pick.own_nil
  | there _ ih => exact Pick.there ih
inductive RX (L : List A) : List A → Prop
  | nil : RX L []
  | sl {α : Type} {e : Enc α} {v : Value} {xs : List α} {az : List A} (h : HX L (Sl e v xs)) (t : RX L az) : RX L (Sl e v xs :: az)
  | blk {b : Nat} {T : TypeId} {cs : List Value} {az : List A} (h : HX L (BlkR b T cs)) (t : RX L az) : RX L (BlkR b T cs :: az)
  | rd {α : Type} {e : Enc α} {cs : List Value} {x : α} {az : List A} (h : HX L (Rd e cs x)) (t : RX L az) : RX L (Rd e cs x :: az)
  | pu {p : Prop} {az : List A} (h : HX L (Pu p)) (t : RX L az) : RX L (Pu p :: az)
  | fld {p : Addr} {u : Value} {az : List A} (h : HX L (FldCell p u)) (t : RX L az) : RX L (FldCell p u :: az)
theorem rX {L az : List A} (h : RX L az) : Reads L az := by
  induction h with
  | nil => exact .nil
  | sl h _ ih => exact .cons (Sl.isDup _ _ _) (hX h) ih
  | blk h _ ih => exact .cons (BlkR.isDup _ _ _) (hX h) ih
  | rd h _ ih => exact .cons (Rd.isDup _ _ _) (hX h) ih
  | pu h _ ih => exact .cons (Pu.isDup _) (hX h) ih
  | fld h _ ih => exact .cons (FldCell.isDup _ _) (hX h) ih
section
variable {α : Type} {e : Enc α} {T : TypeId} {v : Value} {zs : List α} {L : List A} {i : Nat}
theorem el1 (h : i < zs.length) : Elem (Sl e v zs :: L) e v i zs[i] := Elem.sl (List.getElem?_eq_getElem h)
theorem el2 (h : i < zs.length) : Elem (Own e T v zs :: L) e v i zs[i] := Elem.own (List.getElem?_eq_getElem h)
theorem el3 (h : i < zs.length) : Elem (OwnO e T v zs :: L) e v i zs[i] := Elem.ownO (List.getElem?_eq_getElem h)
end
theorem dd {a b : Nat} (h : Nat.ble a b = true) : a ≤ b := Nat.le_of_ble_eq_true h
/-- Encodings whose reading hangs on nothing else. -/
class PureC {α : Type} (e : Enc α) : Prop where
  h : e.Pure
instance {k : IntKind} : PureC (eInt k) := ⟨eInt_pure k⟩
instance : PureC eStr := ⟨eStr_pure⟩
instance : PureC eBool := ⟨eBool_pure⟩
instance : PureC eByte := ⟨eByte_pure⟩
instance : PureC eRaw := ⟨eRaw_pure⟩
instance {α β : Type} {e : Enc α} {f : Enc β} [PureC e] [PureC f] : PureC (ePair e f) := ⟨ePair_pure PureC.h PureC.h⟩
instance {α β : Type} {g : α → β} {e : Enc β} [PureC e] : PureC (eMap g e) := ⟨eMap_pure PureC.h⟩
theorem puX {α : Type} {e : Enc α} [PureC e] : e.Pure := PureC.h
/-- What stands by itself. -/
class SepC (a : A) : Prop where
  h : a.Sep
instance {b : Nat} {T : TypeId} {cs : List Value} : SepC (Blk b T cs) := ⟨Blk.sep⟩
instance {b : Nat} {o : Obj} : SepC (ObjA b o) := ⟨ObjA.sep⟩
instance {p : Prop} : SepC (Pu p) := ⟨Pu.sep p⟩
instance {κ : Type} [DecidableEq κ] {ke : KeyEnc κ} {b : Nat} {m : List (κ × Value)} : SepC (MapA ke b m) := ⟨MapA.sep⟩
instance {κ : Type} [DecidableEq κ] {ke : KeyEnc κ} {o : Option Nat} {m : List (κ × Value)} : SepC (MapO ke o m) := ⟨by cases o with | none => exact Pu.sep _ | some b => exact MapA.sep⟩
instance {α : Type} {e : Enc α} {T : TypeId} {v : Value} {xs : List α} : SepC (OwnO e T v xs) := ⟨OwnO.sep⟩
instance {α : Type} {e : Enc α} [PureC e] {T : TypeId} {v : Value} {xs : List α} : SepC (Own e T v xs) := ⟨Own.sep PureC.h⟩
class SepsC (l : List A) : Prop where
  h : Seps l
instance : SepsC [] := ⟨.nil⟩
instance {a : A} {l : List A} [SepC a] [SepsC l] : SepsC (a :: l) := ⟨.cons SepC.h SepsC.h⟩
instance {l : List A} [SepsC l] : SepC (AllA l) := ⟨AllA.sep SepsC.h⟩
instance {γ : Type} {f : γ → A} [∀ g, SepC (f g)] : SepC (ExA f) := ⟨ExA.sep fun _ => SepC.h⟩
theorem sX {l : List A} [SepsC l] : Seps l := SepsC.h
theorem results_tct {fn : Func} {t s r : Nat} {ty : TypeId} {tmps : Array Value} {P : Program} {w : World} {v u x : Value} {p : Addr} (h : fn.results = #[.tmp s, .cell t ty, .tmp r]) (hv : tmps[t]? = some (.pointer (some p))) (hl : (loadVar ty p).run P w = .ok v w) (hu : tmps[s]? = some u) (hx : tmps[r]? = some x) : (results fn tmps).run P w = .ok (.tuple #[u, v, x]) w := by
  have h1 : tmps[t]?.getD undef = .pointer (some p) := by rw [hv]; rfl
  have h2 : tmps[s]?.getD undef = u := by rw [hu]; rfl
  have h3 : tmps[r]?.getD undef = x := by rw [hx]; rfl
  simp [results, h, asAddr, hl, h1, h2, h3]
theorem c_ret_tct {X : Cx} {k : List Item} {env : Env} {L : List A} {t s r b : Nat} {ty bt : TypeId} {cs : List Value} {z u x : Value} {nb : Nat} (hf : X.P.funcs[X.f]? = some X.fn) (h : X.fn.results = #[.tmp s, .cell t ty, .tmp r]) (hu : ∃ fs, X.P.underlying ty = some (.struct fs)) (ht : TI X.P ty z cs.length nb)
    (hv : env.look t = some (.pointer (some ⟨b, 0, none⟩))) (hs' : env.look s = some u) (hr' : env.look r = some x) (hb : Has L (BlkR b bt cs)) (fin : ∀ w O, Stars L w O → X.R (.tuple #[u, .agg cs.toArray, x]) w O) (hrd : X.rd = none := by rfl) (hdf : X.defs = [] := by rfl) : Cfg X (.code .ret :: k) env L :=
  c_ret_any (fun a w O ha hs _ => by
    obtain ⟨_, fz, hh⟩ := hb w O hs
    obtain ⟨ti, hi, _, hsz, _⟩ := ht
    exact ⟨_, results_tct h (ha.look t _ hv) (run_loadAgg hu hi hsz fun j u hj => by rw [add_off, blk_cell hh]; simpa using hj) (ha.look s _ hs') (ha.look r _ hr'), fin w O hs⟩) hf hrd hdf fun _ _ _ _ _ hb => steps_ret hb
end Go.SL
/- Results in two cells; contracts of functions that make blocks of their own alone. -/
namespace Go.SL
open Go Go.RowKit
theorem results_cc {fn : Func} {t s : Nat} {ty ty2 : TypeId} {tmps : Array Value} {P : Program} {w : World} {v u : Value} {p q : Addr} (h : fn.results = #[.cell t ty, .cell s ty2]) (hv : tmps[t]? = some (.pointer (some p))) (hl : (loadVar ty p).run P w = .ok v w) (hu : tmps[s]? = some (.pointer (some q))) (hm : (loadVar ty2 q).run P w = .ok u w) : (results fn tmps).run P w = .ok (.tuple #[v, u]) w := by
  have h1 : tmps[t]?.getD undef = .pointer (some p) := by rw [hv]; rfl
  have h2 : tmps[s]?.getD undef = .pointer (some q) := by rw [hu]; rfl
  simp [results, h, asAddr, hl, hm, h1, h2]
theorem c_ret_cc {X : Cx} {k : List Item} {env : Env} {L : List A} {t s b c : Nat} {ty ty2 bt ct : TypeId} {cs ds : List Value} {z z2 : Value} {nb nb2 : Nat} (hf : X.P.funcs[X.f]? = some X.fn) (h : X.fn.results = #[.cell t ty, .cell s ty2]) (hu : ∃ fs, X.P.underlying ty = some (.struct fs)) (ht : TI X.P ty z cs.length nb) (hu2 : ∃ fs, X.P.underlying ty2 = some (.struct fs)) (ht2 : TI X.P ty2 z2 ds.length nb2)
    (hv : env.look t = some (.pointer (some ⟨b, 0, none⟩))) (hs' : env.look s = some (.pointer (some ⟨c, 0, none⟩))) (hb : Has L (BlkR b bt cs)) (hc : Has L (BlkR c ct ds)) (fin : ∀ w O, Stars L w O → X.R (.tuple #[.agg cs.toArray, .agg ds.toArray]) w O) (hrd : X.rd = none := by rfl) (hdf : X.defs = [] := by rfl) : Cfg X (.code .ret :: k) env L :=
  c_ret_any (fun a w O ha hs _ => by
    obtain ⟨_, fz, hh⟩ := hb w O hs
    obtain ⟨_, fz2, hh2⟩ := hc w O hs
    obtain ⟨ti, hi, _, hsz, _⟩ := ht
    obtain ⟨ti2, hi2, _, hsz2, _⟩ := ht2
    exact ⟨_, results_cc h (ha.look t _ hv) (run_loadAgg hu hi hsz fun j u hj => by rw [add_off, blk_cell hh]; simpa using hj) (ha.look s _ hs') (run_loadAgg hu2 hi2 hsz2 fun j u hj => by rw [add_off, blk_cell hh2]; simpa using hj), fin w O hs⟩) hf hrd hdf fun _ _ _ _ _ hb => steps_ret hb
/-- A contract of a function that makes blocks of its own, and keeps all that was there. -/
theorem con_below {P : Program} {f : FuncId} {args : List Value} {γ : Type} {ret : γ → Value} {pu : γ → Prop} {L : List A} (h : ∀ w O, Stars L w O → Calls P f args.toArray w fun e w' => (∃ g, e = .returned (ret g) ∧ pu g) ∧ Below w.heap.size w w') :
    Con P f args L (γ := γ) ret pu (fun _ => []) := fun w O hs hd => (h w O hs).mono fun e w' ⟨⟨g, he, hp⟩, hb⟩ =>
  ⟨g, O, he, hp, trivial, ⟨hb.os, hb.tape, hb.output, hb.size, fun b h _ => hb.block b h, fun _ _ => Nat.le_refl _, fun b h => Nat.lt_of_lt_of_le (hd b h) hb.size⟩⟩
theorem con_pu {γ : Type} {P : Program} {f : FuncId} {args : List Value} {L0 : List A} {ret : γ → Value} {pu p : γ → Prop} {L' : γ → List A} (h : Con P f args L0 ret pu L') (hp : ∀ g w O, Stars (L' g) w O → p g) : Con P f args L0 ret (fun g => pu g ∧ p g) L' := fun w O hs hd =>
  (h w O hs hd).mono fun _ _ ⟨g, O', h1, h2, h3, h4⟩ => ⟨g, O', h1, ⟨h2, hp g _ _ h3⟩, h3, h4⟩
theorem form_of {α : Type} {e : Enc α} {T : TypeId} {v : Value} {xs : List α} {Lr : List A} {w : World} {O : Perm} (h : Stars (Own e T v xs :: Lr) w O) : ∃ a0 cap, v = .slice a0 xs.length cap := by
  obtain ⟨O1, O2, _, h1, _⟩ := h
  obtain ⟨a0, cap, hv, _⟩ := Own.sl h1
  exact ⟨a0, cap, hv⟩
/-- An interface's value held against nil. -/
theorem v_ne_nilI {X : Cx} {env : Env} {L : List A} {T xT yT : TypeId} {x : Operand} {ms : Array (String × TypeId)} (hu : X.P.underlying xT = some (.interface ms)) (hx : env.eval x = some .nilIface) : Val X env L (.binOp .neq xT x (.const .nilIface) yT) T (.bool false) := by
  intro _ _ _ _ a w O ha _
  have h : (Op.equal xT .nilIface .nilIface).run X.P w = .ok true w := by
    rw [equal_succ hu, Op.equalIn]
    simp only [Sem.run_bind, run_underlying hu, Result.andThen_ok]; rfl
  have hc : a.eval (.const .nilIface) = .nilIface := rfl
  simp [execOp, ha.eval hx, hc, eqGuard, binOp, h]
theorem v_ne_iface {X : Cx} {env : Env} {L : List A} {T xT yT tp : TypeId} {x : Operand} {p : Value} {ms : Array (String × TypeId)} (hu : X.P.underlying xT = some (.interface ms)) (hx : env.eval x = some (.iface tp p)) : Val X env L (.binOp .neq xT x (.const .nilIface) yT) T (.bool true) := by
  intro _ _ _ _ a w O ha _
  have h : (Op.equal xT (.iface tp p) .nilIface).run X.P w = .ok false w := by
    rw [equal_succ hu, Op.equalIn]
    simp only [Sem.run_bind, run_underlying hu, Result.andThen_ok]; rfl
  have hc : a.eval (.const .nilIface) = .nilIface := rfl
  simp [execOp, ha.eval hx, hc, eqGuard, binOp, h]
theorem v_load_byte {X : Cx} {env : Env} {L : List A} {T : TypeId} {x : Operand} {v : Value} {i : Nat} {z : UInt8} {t : TypeId} (ht : Lone X.P t) (hx : env.eval x = some (.pointer (some (elemAddr v i 1)))) (he : Elem L eByte v i z) : Val X env L (.load t x) T (.int .u8 (z.toNat : Int)) :=
  v_load_val (e := eByte) (f := fun b => .int .u8 (b.toNat : Int)) ht (fun _ _ _ _ h => h) hx he
theorem v_neg_u {X : Cx} {env : Env} {L : List A} {T xT : TypeId} {x : Operand} {m : Int} (hx : env.eval x = some (.int .u64 m)) : Val X env L (.unOp .neg xT x) T (.int .u64 (IntKind.u64.wrap (-m))) :=
  fun _ _ _ _ a w O ha _ => by simp [execOp, ha.eval hx, Op.unary, Op.intArith]
section
variable {X : Cx} {env : Env} {L : List A} {T : TypeId} {x : Operand}
/-- The first cells of an array of one's own, as a slice. -/
theorem v_slice_arr {t E : TypeId} {len n bt b h : Nat} {z : Value} {o : Operand} {K : IntKind} {m : Int} (hu : X.P.underlying t = some (.array len E)) (hE : TI X.P E z n bt) (hx : env.eval x = some (.pointer (some ⟨b, 0, none⟩))) (ho : env.eval o = some (.int K m)) (h0 : m = (h : Int)) (h1 : h ≤ len) :
    Val X env L (.slice t x none (some o) none) T (.slice (some ⟨b, 0, none⟩) h len) := by
  subst h0
  intro _ _ _ _ a w O ha _
  obtain ⟨ti, hi', _, hsz, _⟩ := hE
  have hbd : (Instr.sliceBounds false len len none (some (a.eval o)) none).run X.P w = .ok (0, h, len) w := by
    rw [ha.eval ho]
    simp [Instr.sliceBounds, run_sliceBound (w := w) K (h : Int) len .sliceAlen (by omega) (by omega)]
  have hadd : (⟨b, 0, none⟩ : Addr).add 0 = ⟨b, 0, none⟩ := rfl
  have hst : (Instr.sliceAt t (.pointer (some ⟨b, 0, none⟩)) none (some (a.eval o)) none).run X.P w = .ok (.slice (some ⟨b, 0, none⟩) h len) w := by
    simp [Instr.sliceAt, Instr.sureAddr, run_underlying hu, hbd, sizeOf, typeInfo, hi', hsz, hadd]
  simp [execOp, ha.eval hx, hst]
end
/-- The first bytes of a block. -/
theorem bytes_sl {b T n c : Nat} {l : List UInt8} {cs : List Value} (hn : l.length = n) (hc : n ≤ c) (hm : c ≤ maxLen) : Ent [Blk b T ((l.map fun b => Value.int .u8 (b.toNat : Int)) ++ cs)] [Sl eByte (.slice (some ⟨b, 0, none⟩) n c) l] := fun w O hs => by
  subst hn
  obtain ⟨O1, O2, s, ⟨h2, hh⟩, _⟩ := hs
  have hb := s.l b
  refine ⟨O, fun _ => 0, ⟨fun _ => Nat.le_refl _, fun _ => Nat.zero_le _, fun _ _ => rfl, fun _ h => absurd h (by simp)⟩, ⟨some ⟨b, 0, none⟩, c, rfl, hc, hm, .inr ⟨b, 0, _, rfl, by omega, eByte_rows.2 rfl, fun j u hj => ?_⟩⟩, trivial⟩
  have hjl : j < (l.map fun b => Value.int .u8 (b.toNat : Int)).length := by
    rcases Nat.lt_or_ge j (l.map fun b => Value.int .u8 (b.toNat : Int)).length with h | h
    · exact h
    · rw [List.getElem?_eq_none h] at hj; cases hj
  simp only [World.cell?, hh, Nat.zero_add, List.getElem?_toArray]
  rw [List.getElem?_append_left hjl]; exact hj
section
variable {X : Cx} {ops : Array Oper} {kk : List Item} {env : Env} {L S : List A} {fuel : Nat} {listed : Array Bool}
/-- Three operations may come up, any first. -/
theorem a_three (i j k : Nat) {d d' e : Option Nat} {op op' oq : Op} {T T' U : TypeId} {pos pos' qos : String} {af af' ag : Array Edge} (hi : ops[i]? = some ⟨d, op, T, pos, af, none⟩) (hj : ops[j]? = some ⟨d', op', T', pos', af', none⟩) (hk : ops[k]? = some ⟨e, oq, U, qos, ag, none⟩) (hr : Region.ready .any ops listed = [i, j, k])
    (h : StepK X kk ⟨d, op, T, pos, af, none⟩ env L fun a w => (∃ O, Stars S w O) ∧ wpAnyH X.P .any ops (Qn X kk) (fun w => ∃ O, Stars S w O) fuel (listed.setIfInBounds i true) a w)
    (h' : StepK X kk ⟨d', op', T', pos', af', none⟩ env L fun a w => (∃ O, Stars S w O) ∧ wpAnyH X.P .any ops (Qn X kk) (fun w => ∃ O, Stars S w O) fuel (listed.setIfInBounds j true) a w)
    (h'' : StepK X kk ⟨e, oq, U, qos, ag, none⟩ env L fun a w => (∃ O, Stars S w O) ∧ wpAnyH X.P .any ops (Qn X kk) (fun w => ∃ O, Stars S w O) fuel (listed.setIfInBounds k true) a w) : Any X ops S (fuel + 1) listed kk env L := by
  intro a w O ha hst hrel
  refine wpAnyH_all hr (by simp) fun q hq => ?_
  have hq' : q = i ∨ q = j ∨ q = k := by simpa using hq
  rcases hq' with rfl | rfl | rfl
  · simp only [wpOp, hi, Region.wanted, if_true]
    exact .inl (h a w O ha hst hrel)
  · simp only [wpOp, hj, Region.wanted, if_true]
    exact .inl (h' a w O ha hst hrel)
  · simp only [wpOp, hk, Region.wanted, if_true]
    exact .inl (h'' a w O ha hst hrel)
end
end Go.SL
/- Chapter 09: numerals in plain words: what is written, what is read, and that these are each other's back. -/
namespace Go.Proofs.YtmgkeippepeggaaGreatDoor
open Go Go.Lib
theorem decFrom_app (d : UInt8) : ∀ (l : List UInt8) (acc : Nat), decFrom acc (l ++ [d]) = (decFrom acc l).bind fun n => (digitVal d).map fun k => n * 10 + k
  | [], acc => by
    rw [List.nil_append, decFrom, decFrom]
    cases digitVal d <;> rfl
  | b :: l, acc => by
    rw [List.cons_append, decFrom, decFrom]
    cases h : digitVal b with
    | none => rfl
    | some k => exact decFrom_app d l _
theorem ofNat_dig {k : Nat} (h : k < 10) : (UInt8.ofNat (48 + k)).toNat = 48 + k := by
  rw [UInt8.toNat_ofNat']; omega
theorem digitVal_ofNat {k : Nat} (h : k < 10) : digitVal (UInt8.ofNat (48 + k)) = some k := by
  unfold digitVal
  rw [ofNat_dig h, if_pos ⟨by omega, by omega⟩]
  congr 1; omega
theorem decDigits_ne (u : Nat) : decDigits u ≠ [] := by
  rw [decDigits]
  split <;> simp
theorem decFrom_dec (u : Nat) : decFrom 0 (decDigits u) = some u := by
  induction u using Nat.strongRecOn with
  | _ u ih =>
    rw [decDigits]
    split
    · rename_i h
      rw [show [UInt8.ofNat (48 + u)] = [] ++ [UInt8.ofNat (48 + u)] from rfl, decFrom_app, decFrom, digitVal_ofNat h]
      simp
    · rename_i h
      rw [decFrom_app, ih (u / 10) (by omega), digitVal_ofNat (by omega)]
      simp; omega
theorem decDigits_dig (u : Nat) : ∀ b ∈ decDigits u, 48 ≤ b.toNat ∧ b.toNat ≤ 57 := fun b hb => by
  obtain ⟨k, hk, rfl⟩ := List.mem_iff_getElem.1 hb
  obtain ⟨d, hd⟩ := digit_of_decFrom _ _ _ (decFrom_dec u) k _ (List.getElem?_eq_getElem hk)
  have := digitVal_eq hd
  exact ⟨this.1, this.2.1⟩
theorem decNat_dec (u : Nat) : decNat (decDigits u) = some u := by
  unfold decNat
  rw [if_neg (by simp [decDigits_ne]), decFrom_dec]
theorem atoi_itoa (n : Int) : atoi (itoa n) = some n := by
  unfold itoa
  split
  · rw [atoi, if_pos (by decide), decNat_dec]
    simp; omega
  · have h := decNat_dec n.toNat
    have hd := decDigits_dig n.toNat
    cases e : decDigits n.toNat with
    | nil => exact absurd e (decDigits_ne _)
    | cons b r =>
      have hb := hd b (by rw [e]; simp)
      rw [atoi, if_neg (by simp; intro k; rw [k] at hb; revert hb; decide), if_neg (by simp; intro k; rw [k] at hb; revert hb; decide), ← e, h]
      simp; omega
theorem itoa_inj {m n : Int} (h : itoa m = itoa n) : m = n := by
  have h1 := atoi_itoa m
  rw [h, atoi_itoa] at h1
  exact (Option.some.inj h1).symm
theorem itoa_neg {n : Int} (h : n < 0) : itoa n = 45 :: itoa (0 - n) := by
  unfold itoa
  rw [if_pos h, if_neg (by omega), show (0 - n).toNat = n.natAbs by omega]
theorem itoa_one {n : Int} (h0 : 0 ≤ n) (h : n ≤ 9) : itoa n = [UInt8.ofNat (48 + n.toNat)] := by
  unfold itoa
  rw [if_neg (by omega), decDigits, dif_pos (by omega)]
theorem itoa_more {n : Int} (h : 9 < n) : itoa n = itoa (n / 10) ++ itoa (n % 10) := by
  rw [itoa_one (n := n % 10) (by omega) (by omega)]
  unfold itoa
  rw [if_neg (by omega), if_neg (by omega), decDigits, dif_neg (by omega), show n.toNat / 10 = (n / 10).toNat by omega, show n.toNat % 10 = (n % 10).toNat by omega]
/-- A byte more of a number, as the document reads it: what is no digit is passed over. -/
def stepV (a : Int) (b : UInt8) : Int := if 48 ≤ b.toNat ∧ b.toNat ≤ 57 then 10 * a + b.toNat - 48 else a
def valR (s : List UInt8) : Int := s.foldl stepV 0
def valS (s : List UInt8) : Int := if s.head? = some 45 then 0 - valR s else valR s
/-- The number that these bytes are, if they are one. -/
def numS (s : List UInt8) : Option Int := if itoa (valS s) = s then some (valS s) else none
theorem val_dec : ∀ (l : List UInt8) (acc n : Nat), decFrom acc l = some n → l.foldl stepV (acc : Int) = (n : Int)
  | [], acc, n, h => by simp [decFrom] at h; simp [h]
  | b :: l, acc, n, h => by
    rw [decFrom] at h
    cases hd : digitVal b with
    | none => rw [hd] at h; cases h
    | some d =>
      rw [hd] at h
      obtain ⟨h1, h2, h3⟩ := digitVal_eq hd
      have := val_dec l _ n h
      rw [List.foldl_cons, stepV, if_pos ⟨h1, h2⟩, ← this]
      congr 1
      omega
theorem val_itoa (n : Int) : valS (itoa n) = n := by
  unfold valS valR itoa
  by_cases h : n < 0
  · rw [if_pos h, List.head?_cons, if_pos rfl, List.foldl_cons]
    have e : stepV 0 45 = ((0 : Nat) : Int) := by decide
    rw [e, val_dec _ 0 _ (decFrom_dec n.natAbs)]
    omega
  · rw [if_neg h]
    have hd := decDigits_dig n.toNat
    cases e : decDigits n.toNat with
    | nil => exact absurd e (decDigits_ne _)
    | cons b r =>
      have hb := hd b (by rw [e]; simp)
      rw [List.head?_cons, if_neg (by intro k; rw [Option.some.inj k] at hb; revert hb; decide), ← e]
      have h2 := val_dec _ 0 _ (decFrom_dec n.toNat)
      rw [show ((0 : Nat) : Int) = 0 from rfl] at h2
      rw [h2]; omega
theorem numS_itoa (n : Int) : numS (itoa n) = some n := by
  unfold numS
  rw [val_itoa, if_pos rfl]
theorem numS_some {s : List UInt8} {n : Int} (h : numS s = some n) : itoa n = s := by
  unfold numS at h
  split at h
  · rename_i k; rw [← Option.some.inj h]; exact k
  · cases h
/-- As the program reads it. -/
theorem numS_atoi (s : List UInt8) : numS s = (atoi s).bind fun n => if itoa n = s then some n else none := by
  cases h : numS s with
  | some n =>
    have e := numS_some h
    subst e
    rw [atoi_itoa]
    exact (if_pos rfl).symm
  | none =>
    cases ha : atoi s with
    | none => rfl
    | some n =>
      show none = if itoa n = s then some n else none
      rw [if_neg fun e => by rw [← e, numS_itoa] at h; cases h]
end Go.Proofs.YtmgkeippepeggaaGreatDoor
/- Chapter 09: what is written, and what is read, in plain words. -/
namespace Go.Proofs.YtmgkeippepeggaaGreatDoor
open Go Go.Lib
abbrev Pr9 := Int × ByteArray × ByteArray × Int × List ByteArray × List ByteArray
abbrev Pt9 := Int × ByteArray × List Int × List Pr9
abbrev far9 : Int := 1099511627776
def clamp9 (n : Int) : Int := min (max n (-far9)) far9
def numB (n : Int) : List UInt8 := itoa (clamp9 n) ++ [59]
def flagB (b : Bool) : List UInt8 := numB (if b then 1 else 0)
def textB (s : ByteArray) : List UInt8 := itoa s.size ++ [58] ++ s.data.toList ++ [44]
def manyB {α : Type} (put : α → List UInt8) (l : List α) : List UInt8 := numB l.length ++ (l.map put).flatten
def textsB (l : List ByteArray) : List UInt8 := manyB textB l
def primB (p : Pr9) : List UInt8 := numB p.1 ++ textB p.2.1 ++ textB p.2.2.1 ++ numB p.2.2.2.1 ++ textsB p.2.2.2.2.1 ++ textsB p.2.2.2.2.2
def primsB (l : List Pr9) : List UInt8 := manyB primB l
def patchB (p : Pt9) : List UInt8 := numB p.1 ++ textB p.2.1 ++ manyB numB p.2.2.1 ++ primsB p.2.2.2
/-! ### reading -/
/-- What is left, and whether it is spoiled. -/
abbrev St9 := List UInt8 × Bool
def numberR (e : UInt8) (s : List UInt8) : Option (Int × Nat) :=
  match (s.take 15).findIdx? (· == e) with
  | some k => if k = 0 then none else (numS (s.take k)).map fun n => (n, k + 1)
  | none => none
def spoil9 (s : St9) : St9 := (s.1, true)
def num9 (e : UInt8) (s : St9) : Option (Int × Nat) := if s.2 = true then none else numberR e s.1
def takeNum (s : St9) : St9 × Int :=
  match num9 59 s with
  | some (n, m) => if -far9 ≤ n ∧ n ≤ far9 then ((s.1.drop m, false), n) else (spoil9 s, 0)
  | none => (spoil9 s, 0)
def takeFlag (s : St9) : St9 × Bool :=
  match num9 59 s with
  | some (n, m) => if n = 0 ∨ n = 1 then ((s.1.drop m, false), decide (n = 1)) else (spoil9 s, false)
  | none => (spoil9 s, false)
def takeText (most : Int) (s : St9) : St9 × ByteArray :=
  match num9 58 s with
  | some (n, m) => if 0 ≤ n ∧ n ≤ most ∧ n < (s.1.length : Int) - m ∧ s.1[m + n.toNat]? = some 44 then ((s.1.drop (m + n.toNat + 1), false), ⟨((s.1.drop m).take n.toNat).toArray⟩) else (spoil9 s, ⟨#[]⟩)
  | none => (spoil9 s, ⟨#[]⟩)
def takeMany {α : Type} (take : St9 → St9 × α) : Nat → St9 → List α → St9 × List α
  | 0, s, out => (s, out)
  | k + 1, s, out => if s.2 = true then (s, out) else takeMany take k (take s).1 (out ++ [(take s).2])
def takeSome {α : Type} (take : St9 → St9 × α) (most : Int) (s : St9) : St9 × List α :=
  if (takeNum s).1.2 = true ∨ (takeNum s).2 < 0 ∨ most < (takeNum s).2 then (spoil9 s, [])
  else if (takeMany take (takeNum s).2.toNat (takeNum s).1 []).1.2 = true then (spoil9 s, []) else takeMany take (takeNum s).2.toNat (takeNum s).1 []
def takeTexts (most each : Int) (s : St9) : St9 × List ByteArray := takeSome (takeText each) most s
/-! ### what is read is what was written -/
theorem number_some {e : UInt8} {s : List UInt8} {n : Int} {m : Nat} (h : numberR e s = some (n, m)) : ∃ r, s = itoa n ++ e :: r ∧ m = (itoa n).length + 1 ∧ (itoa n).length ≤ 14 := by
  unfold numberR at h
  split at h
  · rename_i k hk
    obtain ⟨hk1, hk2, _⟩ := List.findIdx?_eq_some_iff_getElem.1 hk
    rw [List.length_take] at hk1
    have hks : k < s.length := by omega
    split at h
    · cases h
    · obtain ⟨n', hn, he⟩ := Option.map_eq_some_iff.1 h
      cases he
      have h2 := numS_some hn
      have hke : s[k] = e := by simpa using hk2
      refine ⟨s.drop (k + 1), ?_, ?_, ?_⟩
      · rw [h2, ← hke, List.getElem_cons_drop, List.take_append_drop]
      · rw [h2, List.length_take]; omega
      · rw [h2, List.length_take]; omega
  · cases h
theorem itoa_ne (n : Int) : itoa n ≠ [] := by
  unfold itoa
  split
  · simp
  · exact decDigits_ne _
theorem itoa_chars {n : Int} {b : UInt8} (h : b ∈ itoa n) : b = 45 ∨ (48 ≤ b.toNat ∧ b.toNat ≤ 57) := by
  unfold itoa at h
  split at h
  · exact (List.mem_cons.1 h).imp id fun h => decDigits_dig _ b h
  · exact .inr (decDigits_dig _ b h)
theorem number_enc {e : UInt8} {n : Int} {r : List UInt8} (he : e = 58 ∨ e = 59) (hl : (itoa n).length ≤ 14) : numberR e (itoa n ++ e :: r) = some (n, (itoa n).length + 1) := by
  have hne : ∀ b ∈ itoa n, b ≠ e := fun b hb k => by
    subst k
    rcases itoa_chars hb with h | h <;> rcases he with he | he <;> subst he <;> revert h <;> decide
  have hf : ((itoa n ++ e :: r).take 15).findIdx? (· == e) = some (itoa n).length := by
    rw [List.findIdx?_eq_some_iff_getElem]
    refine ⟨by rw [List.length_take, List.length_append, List.length_cons]; omega, ?_, fun j hj => ?_⟩
    · rw [List.getElem_take, List.getElem_append_right (Nat.le_refl _)]; simp
    · rw [List.getElem_take, List.getElem_append_left hj]
      simp [hne _ (List.getElem_mem hj)]
  unfold numberR
  rw [hf]
  dsimp only
  rw [if_neg fun k => itoa_ne n (List.length_eq_zero_iff.1 k), List.take_left, numS_itoa]
  rfl
theorem itoa_len {n : Int} (h : -far9 ≤ n ∧ n ≤ far9) : (itoa n).length ≤ 14 := by
  have hd : ∀ u : Nat, u < 10 ^ 13 → (decDigits u).length ≤ 13 := fun u hu => by
    rw [decDigits_length]
    by_cases h0 : u = 0
    · subst h0; rw [nDigits_small (by decide)]; decide
    · refine Nat.le_of_not_lt fun k => ?_
      have h1 : ∀ (k u : Nat), k + 1 ≤ nDigits u → 10 ^ k ≤ u ∨ k = 0 := fun k => by
        induction k with
        | zero => exact fun _ _ => .inr rfl
        | succ k ih =>
          intro u hu
          by_cases hs : u < 10
          · rw [nDigits_small hs] at hu; omega
          · rw [nDigits_big hs] at hu
            left
            rcases ih (u / 10) (by omega) with g | g
            · rw [Nat.pow_succ]; omega
            · subst g; simp; omega
      have := h1 13 u (by omega)
      omega
  unfold itoa
  have h1 := h.1
  have h2 := h.2
  simp only [far9] at h1 h2
  split
  · rw [List.length_cons]
    have := hd n.natAbs (by simp; omega)
    omega
  · have := hd n.toNat (by simp; omega)
    omega
theorem clamp_far (n : Int) : -far9 ≤ clamp9 n ∧ clamp9 n ≤ far9 := by
  unfold clamp9 far9; omega
theorem clamp_id {n : Int} (h : -far9 ≤ n ∧ n ≤ far9) : clamp9 n = n := by
  unfold clamp9 far9 at *; omega
theorem takeNum_enc {n : Int} (h : -far9 ≤ n ∧ n ≤ far9) (r : List UInt8) : takeNum (numB n ++ r, false) = ((r, false), n) := by
  unfold takeNum num9
  have e : numB n ++ r = itoa n ++ 59 :: r := by unfold numB; rw [clamp_id h]; simp
  rw [e]
  dsimp only
  rw [if_neg (by decide), number_enc (.inr rfl) (itoa_len h)]
  dsimp only
  rw [if_pos h, show (itoa n).length + 1 = (itoa n ++ [59]).length by simp, show itoa n ++ 59 :: r = (itoa n ++ [59]) ++ r by simp, List.drop_left]
theorem takeNum_back {s s' : St9} {n : Int} (h : takeNum s = (s', n)) (hb : s'.2 = false) : s.2 = false ∧ s.1 = numB n ++ s'.1 ∧ -far9 ≤ n ∧ n ≤ far9 := by
  unfold takeNum num9 at h
  by_cases hs : s.2 = true
  · rw [if_pos hs] at h
    cases h; cases hb
  · rw [if_neg hs] at h
    cases hn : numberR 59 s.1 with
    | none => rw [hn] at h; cases h; cases hb
    | some p =>
      obtain ⟨n', m⟩ := p
      rw [hn] at h
      dsimp only at h
      split at h
      · rename_i hf
        cases h
        obtain ⟨r, h1, h2, _⟩ := number_some hn
        refine ⟨by simpa using hs, ?_, hf⟩
        unfold numB
        rw [clamp_id hf, h1, h2, show (itoa n).length + 1 = (itoa n ++ [59]).length by simp, show itoa n ++ 59 :: r = (itoa n ++ [59]) ++ r by simp, List.drop_left]
      · cases h; cases hb
end Go.Proofs.YtmgkeippepeggaaGreatDoor
/- Chapter 09: texts and rows of things: what is read is what was written, and back. -/
namespace Go.Proofs.YtmgkeippepeggaaGreatDoor
open Go Go.Lib
theorem textB_eq (s : ByteArray) (r : List UInt8) : textB s ++ r = itoa s.size ++ 58 :: (s.data.toList ++ 44 :: r) := by
  unfold textB; simp
theorem ba_len (s : ByteArray) : s.data.toList.length = s.size := by rw [Array.length_toList]; rfl
theorem ba_eta (s : ByteArray) : (⟨s.data.toList.toArray⟩ : ByteArray) = s := by simp
theorem takeText_enc {t : ByteArray} {most : Int} (hm : (t.size : Int) ≤ most) (hf : (t.size : Int) ≤ far9) (r : List UInt8) : takeText most (textB t ++ r, false) = ((r, false), t) := by
  unfold takeText num9
  rw [textB_eq]
  dsimp only
  rw [if_neg (by decide), number_enc (.inl rfl) (itoa_len ⟨by unfold far9; omega, hf⟩)]
  dsimp only
  have hd : (itoa t.size ++ 58 :: (t.data.toList ++ 44 :: r)).drop ((itoa t.size).length + 1) = t.data.toList ++ 44 :: r := by
    rw [show (itoa t.size).length + 1 = (itoa t.size ++ [58]).length by simp, show itoa t.size ++ 58 :: (t.data.toList ++ 44 :: r) = (itoa t.size ++ [58]) ++ (t.data.toList ++ 44 :: r) by simp, List.drop_left]
  have hlen : (itoa t.size ++ 58 :: (t.data.toList ++ 44 :: r)).length = (itoa t.size).length + 1 + t.size + 1 + r.length := by
    rw [List.length_append, List.length_cons, List.length_append, List.length_cons, ba_len]; omega
  have h44 : (itoa t.size ++ 58 :: (t.data.toList ++ 44 :: r))[(itoa t.size).length + 1 + t.size]? = some 44 := by
    rw [← List.getElem?_drop, hd, List.getElem?_append_right (by rw [ba_len]; exact Nat.le_refl _), ba_len]; simp
  rw [if_pos ⟨by omega, hm, by rw [hlen]; omega, by rw [show (t.size : Int).toNat = t.size by omega]; exact h44⟩, show (t.size : Int).toNat = t.size by omega, hd]
  refine Prod.ext (Prod.ext ?_ rfl) ?_
  · dsimp only
    rw [show (itoa t.size).length + 1 + t.size + 1 = ((itoa t.size).length + 1) + (t.size + 1) by omega, ← List.drop_drop, hd, show t.data.toList ++ 44 :: r = (t.data.toList ++ [44]) ++ r by simp, show t.size + 1 = (t.data.toList ++ [44]).length by rw [List.length_append, ba_len]; rfl, List.drop_left]
  · dsimp only
    rw [show List.take t.size (t.data.toList ++ 44 :: r) = t.data.toList by rw [← ba_len t]; exact List.take_left]
theorem takeText_back {s s' : St9} {most : Int} {t : ByteArray} (h : takeText most s = (s', t)) (hb : s'.2 = false) : s.2 = false ∧ s.1 = textB t ++ s'.1 ∧ (t.size : Int) ≤ most := by
  unfold takeText num9 at h
  by_cases hs : s.2 = true
  · rw [if_pos hs] at h
    cases h; cases hb
  · rw [if_neg hs] at h
    cases hn : numberR 58 s.1 with
    | none => rw [hn] at h; cases h; cases hb
    | some p =>
      obtain ⟨n, m⟩ := p
      rw [hn] at h
      dsimp only at h
      split at h
      · rename_i hf
        obtain ⟨h0, h1, h2, h3⟩ := hf
        obtain ⟨r, e1, e2, _⟩ := number_some hn
        have hdr : s.1.drop m = r := by rw [e1, e2, show (itoa n).length + 1 = (itoa n ++ [58]).length by simp, show itoa n ++ 58 :: r = (itoa n ++ [58]) ++ r by simp, List.drop_left]
        have hrl : n.toNat < r.length := by
          have : s.1.length = (itoa n).length + 1 + r.length := by rw [e1, List.length_append, List.length_cons]; omega
          omega
        have h44 : r[n.toNat]'hrl = 44 := by
          have k : r[n.toNat]? = some 44 := by rw [← hdr, List.getElem?_drop]; exact h3
          rw [List.getElem?_eq_getElem hrl] at k
          exact Option.some.inj k
        have hd2 : s.1.drop (m + n.toNat + 1) = r.drop (n.toNat + 1) := by rw [← hdr, List.drop_drop]; congr 1
        cases h
        have hsz : (⟨((s.1.drop m).take n.toNat).toArray⟩ : ByteArray).size = n.toNat := by
          show ((s.1.drop m).take n.toNat).toArray.size = _
          rw [List.size_toArray, List.length_take, hdr]; omega
        refine ⟨by simpa using hs, ?_, by rw [hsz]; omega⟩
        rw [textB_eq, hsz, show ((n.toNat : Nat) : Int) = n by omega]
        dsimp only
        rw [hd2, hdr]
        rw [← h44, List.getElem_cons_drop, List.take_append_drop]
        exact e1
      · cases h; cases hb
theorem takeMany_bad {α : Type} (take : St9 → St9 × α) : ∀ (k : Nat) (s : St9) (out : List α), s.2 = true → takeMany take k s out = (s, out)
  | 0, _, _, _ => rfl
  | k + 1, s, out, h => by rw [takeMany, if_pos h]
theorem takeMany_enc {α : Type} {take : St9 → St9 × α} {put : α → List UInt8} {ok : α → Prop} (h : ∀ x r, ok x → take (put x ++ r, false) = ((r, false), x)) : ∀ (l : List α) (r : List UInt8) (out : List α), (∀ x ∈ l, ok x) → takeMany take l.length ((l.map put).flatten ++ r, false) out = ((r, false), out ++ l)
  | [], r, out, _ => by simp [takeMany]
  | x :: l, r, out, hl => by
    rw [List.length_cons, takeMany, if_neg (by simp), List.map_cons, List.flatten_cons, List.append_assoc, h x _ (hl x (by simp))]
    dsimp only
    rw [takeMany_enc h l r _ fun y hy => hl y (List.mem_cons_of_mem _ hy)]
    simp
theorem takeSome_enc {α : Type} {take : St9 → St9 × α} {put : α → List UInt8} {ok : α → Prop} (h : ∀ x r, ok x → take (put x ++ r, false) = ((r, false), x)) {l : List α} {most : Int} (hm : (l.length : Int) ≤ most) (hf : (l.length : Int) ≤ far9) (hl : ∀ x ∈ l, ok x) (r : List UInt8) : takeSome take most (manyB put l ++ r, false) = ((r, false), l) := by
  unfold takeSome manyB
  rw [List.append_assoc, takeNum_enc ⟨by unfold far9; omega, hf⟩]
  dsimp only
  rw [if_neg (by simp; omega), show ((l.length : Nat) : Int).toNat = l.length by omega, takeMany_enc h l r [] hl]
  simp
theorem takeMany_back {α : Type} {take : St9 → St9 × α} {put : α → List UInt8} {ok : α → Prop} (h : ∀ s s' x, take s = (s', x) → s'.2 = false → s.2 = false ∧ s.1 = put x ++ s'.1 ∧ ok x) : ∀ (k : Nat) (s s' : St9) (out out' : List α), takeMany take k s out = (s', out') → s'.2 = false → ∃ l, out' = out ++ l ∧ l.length = k ∧ s.1 = (l.map put).flatten ++ s'.1 ∧ ∀ x ∈ l, ok x
  | 0, s, s', out, out', e, _ => by
    cases e
    exact ⟨[], by simp, rfl, by simp, fun _ h => by cases h⟩
  | k + 1, s, s', out, out', e, hb => by
    rw [takeMany] at e
    by_cases hs : s.2 = true
    · rw [if_pos hs] at e
      cases e
      rw [hs] at hb; cases hb
    · rw [if_neg hs] at e
      obtain ⟨l, h1, h2, h3, h4⟩ := takeMany_back h k _ _ _ _ e hb
      have hb1 : (take s).1.2 = false := by
        cases q : (take s).1.2 with
        | false => rfl
        | true =>
          rw [takeMany_bad take k _ _ q] at e
          cases e
          rw [q] at hb; cases hb
      obtain ⟨_, g2, g3⟩ := h s (take s).1 (take s).2 rfl hb1
      refine ⟨(take s).2 :: l, by rw [h1]; simp, by rw [List.length_cons, h2], ?_, fun x hx => (List.mem_cons.1 hx).elim (fun q => q ▸ g3) (h4 x)⟩
      rw [g2, h3, List.map_cons, List.flatten_cons, List.append_assoc]
theorem takeSome_back {α : Type} {take : St9 → St9 × α} {put : α → List UInt8} {ok : α → Prop} (h : ∀ s s' x, take s = (s', x) → s'.2 = false → s.2 = false ∧ s.1 = put x ++ s'.1 ∧ ok x) {s s' : St9} {most : Int} {l : List α} (e : takeSome take most s = (s', l)) (hb : s'.2 = false) : s.2 = false ∧ s.1 = manyB put l ++ s'.1 ∧ (l.length : Int) ≤ most ∧ ∀ x ∈ l, ok x := by
  unfold takeSome at e
  split at e
  · cases e; cases hb
  · rename_i h1
    split at e
    · cases e; cases hb
    · have hnb : (takeNum s).1.2 = false := by
        cases q : (takeNum s).1.2 with
        | false => rfl
        | true => exact absurd (.inl q) h1
      obtain ⟨a1, a2, _⟩ := takeNum_back (s := s) (s' := (takeNum s).1) (n := (takeNum s).2) rfl hnb
      obtain ⟨l', b1, b2, b3, b4⟩ := takeMany_back h _ _ _ _ _ e hb
      rw [List.nil_append] at b1
      subst b1
      have hn0 : ¬ (takeNum s).2 < 0 := fun q => h1 (.inr (.inl q))
      have hnm : ¬ most < (takeNum s).2 := fun q => h1 (.inr (.inr q))
      refine ⟨a1, ?_, by omega, b4⟩
      unfold manyB
      rw [a2, b3, b2, show (((takeNum s).2.toNat : Nat) : Int) = (takeNum s).2 by omega, List.append_assoc]
end Go.Proofs.YtmgkeippepeggaaGreatDoor
/- Chapter 09: changes and patches: what is read is what was written, and back. -/
namespace Go.Proofs.YtmgkeippepeggaaGreatDoor
open Go Go.Lib
theorem textB_pos (t : ByteArray) : 0 < (textB t).length := by unfold textB; simp only [List.length_append, List.length_cons]; omega
/-! ### a limit that is no limit -/
theorem takeNum_less {s s' : St9} {n : Int} (h : takeNum s = (s', n)) (hb : s'.2 = false) : s'.1.length < s.1.length := by
  obtain ⟨_, e, _⟩ := takeNum_back h hb
  rw [e, List.length_append]
  have : 0 < (numB n).length := by unfold numB; simp
  omega
theorem takeText_less {s s' : St9} {m : Int} {t : ByteArray} (h : takeText m s = (s', t)) (hb : s'.2 = false) : s'.1.length < s.1.length := by
  obtain ⟨_, e, _⟩ := takeText_back h hb
  rw [e, List.length_append]
  have := textB_pos t
  omega
theorem takeMany_short {α : Type} {take : St9 → St9 × α} (h : ∀ s s' x, take s = (s', x) → s'.2 = false → s'.1.length < s.1.length) : ∀ (k : Nat) (s : St9) (out : List α), (takeMany take k s out).1.2 = false → k + (takeMany take k s out).1.1.length ≤ s.1.length
  | 0, s, out, _ => by rw [takeMany, Nat.zero_add]; exact Nat.le_refl _
  | k + 1, s, out, hb => by
    rw [takeMany] at hb ⊢
    by_cases hs : s.2 = true
    · rw [if_pos hs] at hb
      rw [hs] at hb; cases hb
    · rw [if_neg hs] at hb ⊢
      have h1 := takeMany_short h k _ _ hb
      have hb1 : (take s).1.2 = false := by
        cases q : (take s).1.2 with
        | false => rfl
        | true => rw [takeMany_bad take k _ _ q, q] at hb; cases hb
      have h2 := h s (take s).1 (take s).2 rfl hb1
      omega
theorem takeSome_most {α : Type} {take : St9 → St9 × α} (h : ∀ s s' x, take s = (s', x) → s'.2 = false → s'.1.length < s.1.length) {m1 m2 : Int} {s : St9} (h1 : (s.1.length : Int) ≤ m1) (h2 : (s.1.length : Int) ≤ m2) : takeSome take m1 s = takeSome take m2 s := by
  have hx : ∀ m : Int, (s.1.length : Int) ≤ m → takeSome take m s = if (takeNum s).1.2 = true ∨ (takeNum s).2 < 0 ∨ (takeMany take (takeNum s).2.toNat (takeNum s).1 []).1.2 = true then (spoil9 s, []) else takeMany take (takeNum s).2.toNat (takeNum s).1 [] := fun m hm => by
    unfold takeSome
    by_cases a : (takeNum s).1.2 = true
    · rw [if_pos (.inl a), if_pos (.inl a)]
    · have ab : (takeNum s).1.2 = false := by simpa using a
      have al := takeNum_less (s := s) (s' := (takeNum s).1) (n := (takeNum s).2) rfl ab
      by_cases b : (takeNum s).2 < 0
      · rw [if_pos (.inr (.inl b)), if_pos (.inr (.inl b))]
      · by_cases c : (takeMany take (takeNum s).2.toNat (takeNum s).1 []).1.2 = true
        · rw [if_pos (c := _ ∨ _ ∨ (takeMany take (takeNum s).2.toNat (takeNum s).1 []).1.2 = true) (.inr (.inr c))]
          split
          · rfl
          · first | rfl | rw [if_pos c]
        · have cb : (takeMany take (takeNum s).2.toNat (takeNum s).1 []).1.2 = false := by simpa using c
          have := takeMany_short h _ _ _ cb
          rw [if_neg (by rintro (q | q | q); exact a q; exact b q; omega), if_neg c, if_neg (by rintro (q | q | q); exact a q; exact b q; exact c q)]
  rw [hx m1 h1, hx m2 h2]
theorem takeSome_less {α : Type} {take : St9 → St9 × α} (h : ∀ s s' x, take s = (s', x) → s'.2 = false → s'.1.length < s.1.length) {m : Int} {s s' : St9} {l : List α} (e : takeSome take m s = (s', l)) (hb : s'.2 = false) : s'.1.length < s.1.length := by
  unfold takeSome at e
  split at e
  · cases e; cases hb
  · rename_i h1
    split at e
    · cases e; cases hb
    · have ab : (takeNum s).1.2 = false := by
        cases q : (takeNum s).1.2 with
        | false => rfl
        | true => exact absurd (.inl q) h1
      have al := takeNum_less (s := s) (s' := (takeNum s).1) (n := (takeNum s).2) rfl ab
      have := takeMany_short h (takeNum s).2.toNat (takeNum s).1 [] (by rw [e]; exact hb)
      rw [e] at this
      dsimp only at this
      omega
/-! ### what may be -/
def charP (b : UInt8) : Bool := (97 ≤ b.toNat && b.toNat ≤ 122) || (48 ≤ b.toNat && b.toNat ≤ 57) || b.toNat = 46 || b.toNat = 45 || b.toNat = 95 || b.toNat = 47
def namedP (s : ByteArray) : Bool := decide (1 ≤ s.size) && decide (s.size ≤ 24) && s.data.toList.all charP
def lineP (s : ByteArray) : Bool := decide (s.size ≤ 60) && s.data.toList.all fun b => decide (b ≠ 10)
def bareP (p : Pr9) : Bool := decide (p.2.2.2.1 = 0) && decide (p.2.2.2.2.1.length = 0) && decide (p.2.2.2.2.2.length = 0)
def rightP (p : Pr9) : Bool := namedP p.2.1 &&
  if p.1 = 0 then decide (p.2.2.1.size = 0) && decide (0 ≤ p.2.2.2.1) && decide (p.2.2.2.1 ≤ 1048576) && p.2.2.2.2.1.all lineP && p.2.2.2.2.2.all lineP && decide (p.2.2.2.2.1 ≠ p.2.2.2.2.2)
  else if p.1 = 3 then bareP p && namedP p.2.2.1 && decide (p.2.2.1 ≠ p.2.1)
  else bareP p && decide (p.2.2.1.size = 0) && (decide (p.1 = 1) || decide (p.1 = 2))
def depsP (id : Int) : Int → List Int → Bool
  | _, [] => true
  | last, n :: l => decide (last < n) && decide (n ≤ 1000000000) && decide (n ≠ id) && depsP id n l
def rightT (p : Pt9) : Bool := decide (1 ≤ p.1) && decide (p.1 ≤ 1000000000) && lineP p.2.1 && decide (p.2.2.1.length ≤ 8) && depsP p.1 0 p.2.2.1 && decide (1 ≤ p.2.2.2.length) && decide (p.2.2.2.length ≤ 24) && p.2.2.2.all rightP
def pr0 : Pr9 := (0, ⟨#[]⟩, ⟨#[]⟩, 0, [], [])
def pt0 : Pt9 := (0, ⟨#[]⟩, [], [])
/-! ### changes -/
/-- A change, as it is; of its lines no more than 'many' of what is left. -/
def rawPrim (s : St9) : St9 × Pr9 :=
  let a := takeNum s
  let b := takeText 24 a.1
  let c := takeText 24 b.1
  let d := takeNum c.1
  let e := takeTexts d.1.1.length 60 d.1
  let f := takeTexts e.1.1.length 60 e.1
  (f.1, (a.2, b.2, c.2, d.2, e.2, f.2))
def takePrim (s : St9) : St9 × Pr9 := if (rawPrim s).1.2 = true ∨ rightP (rawPrim s).2 = false then (spoil9 s, pr0) else rawPrim s
def takePrims (most : Int) (s : St9) : St9 × List Pr9 := takeSome takePrim most s
def rawPatch (s : St9) : St9 × Pt9 :=
  let a := takeNum s
  let b := takeText 60 a.1
  let c := takeSome takeNum 8 b.1
  let d := takePrims 24 c.1
  (d.1, (a.2, b.2, c.2, d.2))
def takePatch (s : St9) : St9 × Pt9 := if (rawPatch s).1.2 = true ∨ rightT (rawPatch s).2 = false then (spoil9 s, pt0) else rawPatch s
theorem flat_len {l : List ByteArray} : l.length ≤ ((l.map textB).flatten).length := by
  induction l with
  | nil => simp
  | cons x l ih =>
    rw [List.map_cons, List.flatten_cons, List.length_append, List.length_cons]
    have := textB_pos x
    omega
theorem texts_len {l : List ByteArray} {r : List UInt8} : l.length ≤ (textsB l ++ r).length := by
  unfold textsB manyB
  rw [List.length_append, List.length_append]
  have := flat_len (l := l)
  omega
/-- Sizes at which a change can be written and read. -/
def FitP (p : Pr9) : Prop := (p.2.2.2.2.1.length : Int) ≤ far9 ∧ (p.2.2.2.2.2.length : Int) ≤ far9
theorem rightP_parts {p : Pr9} (h : rightP p = true) : (-far9 ≤ p.1 ∧ p.1 ≤ far9) ∧ p.2.1.size ≤ 24 ∧ p.2.2.1.size ≤ 24 ∧ (-far9 ≤ p.2.2.2.1 ∧ p.2.2.2.1 ≤ far9) ∧ (∀ x ∈ p.2.2.2.2.1, x.size ≤ 60) ∧ ∀ x ∈ p.2.2.2.2.2, x.size ≤ 60 := by
  obtain ⟨k, n, t, a, o, w⟩ := p
  unfold rightP at h
  simp only [Bool.and_eq_true, namedP, decide_eq_true_eq] at h
  obtain ⟨⟨⟨_, h24⟩, _⟩, h⟩ := h
  have hl : ∀ x : ByteArray, lineP x = true → x.size ≤ 60 := fun x hx => by
    unfold lineP at hx
    simp only [Bool.and_eq_true, decide_eq_true_eq] at hx
    exact hx.1
  unfold far9
  dsimp only at h h24 ⊢
  split at h
  · simp only [Bool.and_eq_true, decide_eq_true_eq, List.all_eq_true] at h
    obtain ⟨⟨⟨⟨⟨h1, h2⟩, h3⟩, h4⟩, h5⟩, _⟩ := h
    exact ⟨by omega, h24, by omega, by omega, fun x hx => hl x (h4 x hx), fun x hx => hl x (h5 x hx)⟩
  · split at h
    · simp only [bareP, Bool.and_eq_true, decide_eq_true_eq] at h
      obtain ⟨⟨⟨⟨h1, h2⟩, h3⟩, ⟨⟨_, h4⟩, _⟩⟩, _⟩ := h
      rw [List.length_eq_zero_iff.1 h2, List.length_eq_zero_iff.1 h3]
      exact ⟨by omega, h24, h4, by omega, (fun _ k => by cases k), fun _ k => by cases k⟩
    · simp only [bareP, Bool.and_eq_true, Bool.or_eq_true, decide_eq_true_eq] at h
      obtain ⟨⟨⟨⟨h1, h2⟩, h3⟩, h4⟩, h5⟩ := h
      rw [List.length_eq_zero_iff.1 h2, List.length_eq_zero_iff.1 h3]
      exact ⟨by omega, h24, by omega, by omega, (fun _ k => by cases k), fun _ k => by cases k⟩
theorem takePrim_enc {p : Pr9} (hr : rightP p = true) (hf : FitP p) (r : List UInt8) : takePrim (primB p ++ r, false) = ((r, false), p) := by
  obtain ⟨h1, h2, h3, h4, h5, h6⟩ := rightP_parts hr
  obtain ⟨k, n, t, a, o, w⟩ := p
  have hraw : rawPrim (primB (k, n, t, a, o, w) ++ r, false) = ((r, false), (k, n, t, a, o, w)) := by
    unfold rawPrim primB
    dsimp only at h1 h2 h3 h4 h5 h6 ⊢
    simp only [List.append_assoc]
    rw [takeNum_enc h1]
    dsimp only
    rw [takeText_enc (by omega) (by unfold far9; omega)]
    dsimp only
    rw [takeText_enc (by omega) (by unfold far9; omega)]
    dsimp only
    rw [takeNum_enc h4]
    dsimp only
    have ht : ∀ (x : ByteArray) (r : List UInt8), x.size ≤ 60 → takeText 60 (textB x ++ r, false) = ((r, false), x) := fun x r hx => takeText_enc (by omega) (by unfold far9; omega) r
    have e1 : takeTexts (textsB o ++ (textsB w ++ r)).length 60 (textsB o ++ (textsB w ++ r), false) = ((textsB w ++ r, false), o) := takeSome_enc (l := o) ht (by have := texts_len (l := o) (r := textsB w ++ r); omega) hf.1 h5 _
    rw [e1]
    dsimp only
    have e2 : takeTexts (textsB w ++ r).length 60 (textsB w ++ r, false) = ((r, false), w) := takeSome_enc (l := w) ht (by have := texts_len (l := w) (r := r); omega) hf.2 h6 _
    rw [e2]
  unfold takePrim
  rw [hraw]
  dsimp only
  rw [if_neg (by rw [hr]; simp)]
theorem takePrim_back {s s' : St9} {p : Pr9} (h : takePrim s = (s', p)) (hb : s'.2 = false) : s.2 = false ∧ s.1 = primB p ++ s'.1 ∧ rightP p = true := by
  unfold takePrim at h
  split at h
  · cases h; cases hb
  · rename_i hc
    have hr : rightP (rawPrim s).2 = true := by
      cases q : rightP (rawPrim s).2 with
      | true => rfl
      | false => exact absurd (.inr q) hc
    rw [h] at hr
    have hf : s' = (rawPrim s).1 := by rw [h]
    refine (fun (k : s.2 = false ∧ s.1 = primB p ++ s'.1) => ⟨k.1, k.2, hr⟩) ?_
    unfold rawPrim at h
    dsimp only at h
    generalize ha : takeNum s = a at h
    obtain ⟨a1, a2⟩ := a
    generalize hbt : takeText 24 a1 = b at h
    obtain ⟨b1, b2⟩ := b
    generalize hct : takeText 24 b1 = c at h
    obtain ⟨c1, c2⟩ := c
    generalize hd : takeNum c1 = d at h
    obtain ⟨d1, d2⟩ := d
    dsimp only at h
    generalize he : takeTexts d1.1.length 60 d1 = e at h
    obtain ⟨e1, e2⟩ := e
    dsimp only at h
    generalize hf : takeTexts e1.1.length 60 e1 = f at h
    obtain ⟨f1, f2⟩ := f
    dsimp only at h
    cases h
    have ht : ∀ (s s' : St9) (x : ByteArray), takeText 60 s = (s', x) → s'.2 = false → s.2 = false ∧ s.1 = textB x ++ s'.1 ∧ True := fun s s' x q qb => by
      obtain ⟨q1, q2, _⟩ := takeText_back q qb
      exact ⟨q1, q2, trivial⟩
    obtain ⟨f3, f4, _⟩ := takeSome_back ht hf hb
    obtain ⟨e3, e4, _⟩ := takeSome_back ht he f3
    obtain ⟨d3, d4, _⟩ := takeNum_back hd e3
    obtain ⟨c3, c4, _⟩ := takeText_back hct d3
    obtain ⟨b3, b4, _⟩ := takeText_back hbt c3
    obtain ⟨a3, a4, _⟩ := takeNum_back ha b3
    refine ⟨a3, ?_⟩
    unfold primB textsB
    dsimp only
    rw [a4, b4, c4, d4, e4, f4]
    simp only [List.append_assoc]
theorem takePrim_less {s s' : St9} {p : Pr9} (h : takePrim s = (s', p)) (hb : s'.2 = false) : s'.1.length < s.1.length := by
  obtain ⟨_, e, _⟩ := takePrim_back h hb
  rw [e, List.length_append]
  have : 0 < (primB p).length := by unfold primB numB; simp only [List.length_append, List.length_cons]; omega
  omega
/-! ### patches -/
def FitT (p : Pt9) : Prop := ∀ x ∈ p.2.2.2, FitP x
theorem depsP_far {id : Int} : ∀ {last : Int} {l : List Int}, 0 ≤ last → depsP id last l = true → ∀ x ∈ l, -far9 ≤ x ∧ x ≤ far9
  | _, [], _, _ => fun _ h => by cases h
  | last, n :: l, h0, h => by
    unfold depsP at h
    simp only [Bool.and_eq_true, decide_eq_true_eq] at h
    obtain ⟨⟨⟨h1, h2⟩, _⟩, h3⟩ := h
    intro x hx
    rcases List.mem_cons.1 hx with rfl | hx
    · unfold far9; omega
    · exact depsP_far (by omega) h3 x hx
theorem takePatch_enc {p : Pt9} (hr : rightT p = true) (hf : FitT p) (r : List UInt8) : takePatch (patchB p ++ r, false) = ((r, false), p) := by
  have hr' := hr
  unfold rightT at hr'
  simp only [Bool.and_eq_true, decide_eq_true_eq, List.all_eq_true] at hr'
  obtain ⟨⟨⟨⟨⟨⟨⟨h1, h2⟩, h3⟩, h4⟩, h5⟩, h6⟩, h7⟩, h8⟩ := hr'
  have h3' : p.2.1.size ≤ 60 := by
    unfold lineP at h3
    simp only [Bool.and_eq_true, decide_eq_true_eq] at h3
    exact h3.1
  have hd := depsP_far (by decide) h5
  obtain ⟨i, n, d, l⟩ := p
  have hraw : rawPatch (patchB (i, n, d, l) ++ r, false) = ((r, false), (i, n, d, l)) := by
    unfold rawPatch patchB
    dsimp only at h1 h2 h3' h4 h6 h7 h8 hd ⊢
    simp only [List.append_assoc]
    rw [takeNum_enc (by unfold far9; omega)]
    dsimp only
    rw [takeText_enc (by omega) (by unfold far9; omega)]
    dsimp only
    have e1 : takeSome takeNum 8 (manyB numB d ++ (primsB l ++ r), false) = ((primsB l ++ r, false), d) := takeSome_enc (ok := fun n => -far9 ≤ n ∧ n ≤ far9) (fun x r hx => takeNum_enc hx r) (by omega) (by unfold far9; omega) hd _
    rw [e1]
    dsimp only
    have e2 : takePrims 24 (primsB l ++ r, false) = ((r, false), l) := takeSome_enc (ok := fun p => rightP p = true ∧ FitP p) (fun x r hx => takePrim_enc hx.1 hx.2 r) (by omega) (by unfold far9; omega) (fun x hx => ⟨h8 x hx, hf x hx⟩) _
    rw [e2]
  unfold takePatch
  rw [hraw]
  dsimp only
  rw [if_neg (by rw [hr]; simp)]
theorem takePatch_back {s s' : St9} {p : Pt9} (h : takePatch s = (s', p)) (hb : s'.2 = false) : s.2 = false ∧ s.1 = patchB p ++ s'.1 ∧ rightT p = true := by
  unfold takePatch at h
  split at h
  · cases h; cases hb
  · rename_i hc
    have hr : rightT (rawPatch s).2 = true := by
      cases q : rightT (rawPatch s).2 with
      | true => rfl
      | false => exact absurd (.inr q) hc
    rw [h] at hr
    refine (fun (k : s.2 = false ∧ s.1 = patchB p ++ s'.1) => ⟨k.1, k.2, hr⟩) ?_
    unfold rawPatch at h
    dsimp only at h
    generalize ha : takeNum s = a at h
    obtain ⟨a1, a2⟩ := a
    generalize hbt : takeText 60 a1 = b at h
    obtain ⟨b1, b2⟩ := b
    dsimp only at h
    generalize hct : takeSome takeNum 8 b1 = c at h
    obtain ⟨c1, c2⟩ := c
    dsimp only at h
    generalize hd : takePrims 24 c1 = d at h
    obtain ⟨d1, d2⟩ := d
    dsimp only at h
    cases h
    obtain ⟨d3, d4, _⟩ := takeSome_back (put := primB) (ok := fun p => rightP p = true) (fun s s' x q qb => takePrim_back q qb) hd hb
    obtain ⟨c3, c4, _⟩ := takeSome_back (put := numB) (ok := fun _ => True) (fun s s' x q qb => by obtain ⟨q1, q2, _⟩ := takeNum_back q qb; exact ⟨q1, q2, trivial⟩) hct d3
    obtain ⟨b3, b4, _⟩ := takeText_back hbt c3
    obtain ⟨a3, a4, _⟩ := takeNum_back ha b3
    refine ⟨a3, ?_⟩
    unfold patchB primsB
    dsimp only
    rw [a4, b4, c4, d4]
    simp only [List.append_assoc]
end Go.Proofs.YtmgkeippepeggaaGreatDoor
/- Chapter 09: what is left is an end of what was there; a number, as the document looks for it. -/
namespace Go.Proofs.YtmgkeippepeggaaGreatDoor
open Go Go.Lib
/-- What is left behind a reading is an end of what was left ahead of it. -/
def GoesP {α : Type} (take : St9 → St9 × α) : Prop := ∀ s, ∃ j, j ≤ s.1.length ∧ (take s).1.1 = s.1.drop j
theorem goes_num : GoesP takeNum := fun s => by
  unfold takeNum
  cases hn : num9 59 s with
  | none => exact ⟨0, Nat.zero_le _, rfl⟩
  | some p =>
    obtain ⟨n, m⟩ := p
    dsimp only
    split
    · unfold num9 at hn
      split at hn
      · cases hn
      · obtain ⟨r, h1, h2, _⟩ := number_some hn
        exact ⟨m, by rw [h1, h2, List.length_append, List.length_cons]; omega, rfl⟩
    · exact ⟨0, Nat.zero_le _, rfl⟩
theorem goes_flag : GoesP takeFlag := fun s => by
  unfold takeFlag
  cases hn : num9 59 s with
  | none => exact ⟨0, Nat.zero_le _, rfl⟩
  | some p =>
    obtain ⟨n, m⟩ := p
    dsimp only
    split
    · unfold num9 at hn
      split at hn
      · cases hn
      · obtain ⟨r, h1, h2, _⟩ := number_some hn
        exact ⟨m, by rw [h1, h2, List.length_append, List.length_cons]; omega, rfl⟩
    · exact ⟨0, Nat.zero_le _, rfl⟩
theorem goes_text (most : Int) : GoesP (takeText most) := fun s => by
  unfold takeText
  cases hn : num9 58 s with
  | none => exact ⟨0, Nat.zero_le _, rfl⟩
  | some p =>
    obtain ⟨n, m⟩ := p
    dsimp only
    split
    · rename_i h
      exact ⟨m + n.toNat + 1, by omega, rfl⟩
    · exact ⟨0, Nat.zero_le _, rfl⟩
theorem drop_drop {l l' : List UInt8} {j k : Nat} (hj : j ≤ l.length) (e : l' = l.drop j) (hk : k ≤ l'.length) : j + k ≤ l.length ∧ l'.drop k = l.drop (j + k) := by
  subst e
  rw [List.length_drop] at hk
  exact ⟨by omega, by rw [List.drop_drop]⟩
theorem goes_many {α : Type} {take : St9 → St9 × α} (h : GoesP take) : ∀ (k : Nat) (s : St9) (out : List α), ∃ j, j ≤ s.1.length ∧ (takeMany take k s out).1.1 = s.1.drop j
  | 0, s, _ => ⟨0, Nat.zero_le _, rfl⟩
  | k + 1, s, out => by
    rw [takeMany]
    split
    · exact ⟨0, Nat.zero_le _, rfl⟩
    · obtain ⟨j, h1, h2⟩ := h s
      obtain ⟨i, h3, h4⟩ := goes_many h k (take s).1 (out ++ [(take s).2])
      obtain ⟨h5, h6⟩ := drop_drop h1 h2 h3
      exact ⟨j + i, h5, h4.trans h6⟩
theorem goes_some {α : Type} {take : St9 → St9 × α} (h : GoesP take) (most : Int) : GoesP (takeSome take most) := fun s => by
  unfold takeSome
  split
  · exact ⟨0, Nat.zero_le _, rfl⟩
  · split
    · exact ⟨0, Nat.zero_le _, rfl⟩
    · obtain ⟨j, h1, h2⟩ := goes_num s
      obtain ⟨i, h3, h4⟩ := goes_many h (takeNum s).2.toNat (takeNum s).1 []
      obtain ⟨h5, h6⟩ := drop_drop h1 h2 h3
      exact ⟨j + i, h5, h4.trans h6⟩
theorem goes_trans {α β : Type} {s : St9} {a : St9 × α} {b : St9 × β} (h1 : ∃ j, j ≤ s.1.length ∧ a.1.1 = s.1.drop j) (h2 : ∃ j, j ≤ a.1.1.length ∧ b.1.1 = a.1.1.drop j) : ∃ j, j ≤ s.1.length ∧ b.1.1 = s.1.drop j := by
  obtain ⟨j, h3, h4⟩ := h1
  obtain ⟨i, h5, h6⟩ := h2
  obtain ⟨h7, h8⟩ := drop_drop h3 h4 h5
  exact ⟨j + i, h7, h6.trans h8⟩
theorem goes_raw : GoesP rawPrim := fun s => by
  have h1 := goes_num s
  have h2 := goes_trans h1 (goes_text 24 (takeNum s).1)
  have h3 := goes_trans h2 (goes_text 24 (takeText 24 (takeNum s).1).1)
  have h4 := goes_trans h3 (goes_num (takeText 24 (takeText 24 (takeNum s).1).1).1)
  have h5 := goes_trans h4 (goes_some (goes_text 60) (takeNum (takeText 24 (takeText 24 (takeNum s).1).1).1).1.1.length _)
  exact goes_trans h5 (goes_some (goes_text 60) _ _)
theorem goes_prim : GoesP takePrim := fun s => by
  unfold takePrim
  split
  · exact ⟨0, Nat.zero_le _, rfl⟩
  · exact goes_raw s
theorem goes_rawT : GoesP rawPatch := fun s => by
  have h1 := goes_num s
  have h2 := goes_trans h1 (goes_text 60 (takeNum s).1)
  have h3 := goes_trans h2 (goes_some goes_num 8 (takeText 60 (takeNum s).1).1)
  exact goes_trans h3 (goes_some goes_prim 24 _)
theorem goes_patch : GoesP takePatch := fun s => by
  unfold takePatch
  split
  · exact ⟨0, Nat.zero_le _, rfl⟩
  · exact goes_rawT s
/-- The document looks for the end in all that is left. -/
theorem numberR_full (e : UInt8) (s : List UInt8) : numberR e s = match s.findIdx? (· == e) with
    | some k => if k = 0 ∨ 14 < k then none else (numS (s.take k)).map fun n => (n, k + 1)
    | none => none := by
  unfold numberR
  cases h : s.findIdx? (· == e) with
  | none =>
    have : (s.take 15).findIdx? (· == e) = none := by
      rw [List.findIdx?_eq_none_iff] at h ⊢
      exact fun x hx => h x (List.mem_of_mem_take hx)
    rw [this]
  | some k =>
    obtain ⟨h1, h2, h3⟩ := List.findIdx?_eq_some_iff_getElem.1 h
    by_cases hk : k < 15
    · have : (s.take 15).findIdx? (· == e) = some k := by
        rw [List.findIdx?_eq_some_iff_getElem]
        refine ⟨by rw [List.length_take]; omega, by rw [List.getElem_take]; exact h2, fun j hj => ?_⟩
        rw [List.getElem_take]; exact h3 j hj
      rw [this]
      dsimp only
      by_cases h0 : k = 0
      · rw [if_pos h0, if_pos (.inl h0)]
      · rw [if_neg h0, if_neg (by omega)]
    · have : (s.take 15).findIdx? (· == e) = none := by
        rw [List.findIdx?_eq_none_iff]
        intro x hx
        obtain ⟨j, hj, rfl⟩ := List.mem_iff_getElem.1 hx
        rw [List.length_take] at hj
        rw [List.getElem_take]
        simpa using h3 j (by omega)
      rw [this]
      dsimp only
      rw [if_pos (.inr (by omega))]
end Go.Proofs.YtmgkeippepeggaaGreatDoor
/- Chapter 09: bytes as a string. -/
namespace Go.Proofs.YtmgkeippepeggaaGreatDoor
open Go Go.Lib
def sB (l : List UInt8) : ByteArray := ⟨l.toArray⟩
theorem sB_list (l : List UInt8) : (sB l).data.toList = l := by simp [sB]
theorem sB_size (l : List UInt8) : (sB l).size = l.length := by rw [← ba_len, sB_list]
theorem sB_of (s : ByteArray) : sB s.data.toList = s := ba_eta s
theorem sB_inj {a b : List UInt8} (h : sB a = sB b) : a = b := by rw [← sB_list a, h, sB_list]
theorem sB_app (a b : List UInt8) : sB a ++ sB b = sB (a ++ b) := by
  apply ByteArray.ext
  rw [ByteArray.data_append]
  apply Array.ext'
  rw [Array.toList_append]
  show (sB a).data.toList ++ (sB b).data.toList = (sB (a ++ b)).data.toList
  rw [sB_list, sB_list, sB_list]
theorem sB_text (s : ByteArray) : sB (textB s) = sB (itoa s.size) ++ sB [58] ++ s ++ sB [44] := by
  unfold textB
  rw [← sB_app, ← sB_app, ← sB_app, sB_of]
theorem flag_eq (b : Bool) : flagB b = if b then [49, 59] else [48, 59] := by cases b <;> decide +kernel
/-- A row's things, written up to some place. -/
theorem flat_next {α : Type} (put : α → List UInt8) {l : List α} {k : Nat} (hk : k < l.length) : ((l.take (k + 1)).map put).flatten = ((l.take k).map put).flatten ++ put l[k] := by
  rw [List.take_succ_eq_append_getElem hk, List.map_append, List.flatten_append]
  simp
end Go.Proofs.YtmgkeippepeggaaGreatDoor

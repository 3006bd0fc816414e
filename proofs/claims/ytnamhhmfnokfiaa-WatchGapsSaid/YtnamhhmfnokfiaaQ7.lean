/- Made slices; bytes and strings; values inside a step. -/
import Derived.Test.YtnamhhmfnokfiaaQ6
import Derived.Laws.BytesArg
import Derived.Lib.Strings
namespace Go.SL
open Go

def eByte : Enc UInt8 := eMap (fun b => (b.toNat : Int)) (eInt .u8)
theorem eByte_rows {w : World} {O : Perm} {cs : List Value} {l : List UInt8} : Rows eByte w O cs l ↔ cs = l.map fun b => .int .u8 b.toNat := by
  induction l generalizing cs with
  | nil => simp [Rows]
  | cons b l ih =>
    simp only [Rows, List.map_cons]
    constructor
    · rintro ⟨c1, c2, rfl, h1, h2⟩
      rw [ih] at h2
      have h1' : c1 = [.int .u8 b.toNat] := h1
      rw [h1', h2]; rfl
    · rintro rfl
      exact ⟨[.int .u8 b.toNat], _, rfl, rfl, ih.2 rfl⟩

section
variable {K : Act → World → Prop} {X : Cx} {ops : Array Oper} {rest : List Oper} {kk : List Item} {env : Env} {L L1 L2 : List A} {d : Nat} {T : TypeId} {pos : String} {af : Array Edge} {x y : Operand}
variable {α : Type} {e : Enc α} {v u : Value} {zs ys : List α} {E : TypeId}

theorem s_val {v : Value} {op : Op} (h : Val X env L op T v) (hd : d < X.fn.ntmps) (k : Kont X ((d, v) :: env) L K) : StepK X kk ⟨some d, op, T, pos, af, none⟩ env L K :=
  s_main (γ := Unit) (V := fun _ => v) (pu := fun _ => True) (L' := fun _ => L) (fun a w O ha hs hdom => ⟨(), w, O, h _ _ _ _ a w O ha hs, trivial, hs, Rel.refl hdom⟩) hd (fun _ _ => k)

theorem v_conv_bytes {sT dT : TypeId} {l : List UInt8} (hs : X.P.underlying sT = some (.slice E)) (he : X.P.underlying E = some (.int .u8)) (hu : X.P.underlying dT = some .string) (hx : env.eval x = some v) (hl : Has L (Sl eByte v l)) :
    Val X env L (.convert sT dT x) T (.string ⟨l.toArray⟩) :=
  fun _ _ _ _ a w O ha hst => by
    obtain ⟨a0, cap, rfl, _, _, h3⟩ := hl w O hst
    have hrun : (convert sT dT (.slice a0 l.length cap)).run X.P w = .ok (.string ⟨l.toArray⟩) w := by
      rcases h3 with ⟨_, rfl⟩ | ⟨b, off, cs, rfl, _, hr, hc⟩
      · cases a0 with
        | some a => simp [convert, run_underlying hs, run_underlying hu, run_underlying he, loadCells, loadCellsFrom, Conv.bytesToString]; rfl
        | none =>
        rw [List.length_nil, run_convert_bytes_nil w sT E hs he]
        · rfl
        · exact hu
      · rw [eByte_rows] at hr
        subst hr
        rw [run_convert_bytes_arg w sT E hs he b off l.length cap (l.map fun b => (b.toNat : Int)) (by simp) ?_ dT hu]
        · congr 2
          simp [strOfNums, Function.comp_def]
        · intro i hi
          refine hc i _ ?_
          simp [hi]
    simp [execOp, ha.eval hx, hrun]

theorem o_guard_t {j s : Nat} {p : Prop} [Decidable p] {d : Option Nat} {op : Op} (hj : (ops[j]?).bind (·.dst) = some s) (ht : env.look s = some (.bool (decide p)))
    (hy : p → Ops X ops (⟨d, op, T, pos, af, none⟩ :: rest) kk ((s, .bool true) :: env) L)
    (hn : ¬ p → Ops X ops (⟨d, op, T, pos, af, some (j, true)⟩ :: rest) kk ((s, .bool false) :: env) L) : Ops X ops (⟨d, op, T, pos, af, some (j, true)⟩ :: rest) kk env L :=
  o_guard hj ht (fun h => hy (of_decide_eq_true h)) (fun h => hn (of_decide_eq_false h))
theorem o_guard_f {j s : Nat} {p : Prop} [Decidable p] {d : Option Nat} {op : Op} (hj : (ops[j]?).bind (·.dst) = some s) (ht : env.look s = some (.bool (decide p)))
    (hy : ¬ p → Ops X ops (⟨d, op, T, pos, af, none⟩ :: rest) kk ((s, .bool false) :: env) L)
    (hn : p → Ops X ops (⟨d, op, T, pos, af, some (j, false)⟩ :: rest) kk ((s, .bool true) :: env) L) : Ops X ops (⟨d, op, T, pos, af, some (j, false)⟩ :: rest) kk env L :=
  o_guard hj ht (fun h => hy (of_decide_eq_false h)) (fun h => hn (of_decide_eq_true h))
theorem q_guard_t {j s : Nat} {p : Prop} [Decidable p] {d : Option Nat} {op : Op} (hj : (ops[j]?).bind (·.dst) = some s) (ht : env.look s = some (.bool (decide p)))
    (hy : p → Qops X ops (⟨d, op, T, pos, af, none⟩ :: rest) kk ((s, .bool true) :: env) L)
    (hn : ¬ p → Qops X ops (⟨d, op, T, pos, af, some (j, true)⟩ :: rest) kk ((s, .bool false) :: env) L) : Qops X ops (⟨d, op, T, pos, af, some (j, true)⟩ :: rest) kk env L :=
  q_guard hj ht (fun h => hy (of_decide_eq_true h)) (fun h => hn (of_decide_eq_false h))
theorem q_guard_f {j s : Nat} {p : Prop} [Decidable p] {d : Option Nat} {op : Op} (hj : (ops[j]?).bind (·.dst) = some s) (ht : env.look s = some (.bool (decide p)))
    (hy : ¬ p → Qops X ops (⟨d, op, T, pos, af, none⟩ :: rest) kk ((s, .bool false) :: env) L)
    (hn : p → Qops X ops (⟨d, op, T, pos, af, some (j, false)⟩ :: rest) kk ((s, .bool true) :: env) L) : Qops X ops (⟨d, op, T, pos, af, some (j, false)⟩ :: rest) kk env L :=
  q_guard hj ht (fun h => hy (of_decide_eq_false h)) (fun h => hn (of_decide_eq_true h))

/-! ### slices that are written out -/
theorem fold_set (off : Nat) : ∀ (l : List Value) (k : Nat) (cells : Array Value), off + k + l.length ≤ cells.size →
    (l.zipIdx k).foldl (fun cs (x : Value × Nat) => cs.setIfInBounds (off + x.2) x.1) cells = (cells.toList.take (off + k) ++ l ++ cells.toList.drop (off + k + l.length)).toArray := by
  intro l
  induction l with
  | nil => intro k cells h; simp
  | cons c l ih =>
    intro k cells h
    simp only [List.length_cons] at h
    rw [List.zipIdx_cons, List.foldl_cons, ih (k + 1) _ (by simp; omega)]
    obtain ⟨C⟩ := cells
    simp only [List.size_toArray] at h
    have hlt : off + k < C.length := by omega
    congr 1
    simp only [List.setIfInBounds_toArray]
    rw [show off + (k + 1) = (off + k) + 1 by omega, List.drop_set_of_lt (by omega)]
    have h1 : (C.set (off + k) c).take (off + k + 1) = C.take (off + k) ++ [c] := by
      rw [List.take_succ_eq_append_getElem (by simpa using hlt), List.take_set_of_le (by omega)]
      simp
    rw [h1, List.length_cons, show off + k + 1 + l.length = off + k + (l.length + 1) by omega]
    simp
theorem fill_row (size : Nat) : ∀ (vs : List Value) (i : Nat) (cells : Array Value), (∀ v ∈ vs, v.cells.size = size) → cells.size = (i + vs.length) * size →
    Instr.fill (fun i => some (i * size, size)) cells ((vs.zipIdx i).map fun (x : Value × Nat) => (x.2, x.1)) = some (cells.toList.take (i * size) ++ (vs.map (fun u : Value => u.cells.toList)).flatten).toArray := by
  intro vs
  induction vs with
  | nil => intro i cells _ h; simp [Instr.fill]; rw [List.take_of_length_le (by simp [h])]
  | cons v vs ih =>
    intro i cells hv h
    have hsz := hv v List.mem_cons_self
    simp only [List.length_cons] at h
    have hle : i * size + size ≤ cells.size := by rw [h, Nat.add_mul, Nat.add_mul]; omega
    simp only [List.zipIdx_cons, List.map_cons, Instr.fill]
    rw [if_neg (by simp [hsz]; omega)]
    have hf := fold_set (i * size) v.cells.toList 0 cells (by simp [hsz]; omega)
    have e1 : (cells.toList.take (i * size)).length = i * size := by rw [List.length_take, Array.length_toList]; omega
    have e2 : v.cells.toList.length = size := by simp [hsz]
    have hcon : (v.cells.zipIdx.foldl (fun cs (x : Value × Nat) => cs.setIfInBounds (i * size + x.2) x.1) cells) = (cells.toList.take (i * size) ++ v.cells.toList ++ cells.toList.drop (i * size + size)).toArray := by
      rw [← Array.foldl_toList]
      simpa [hsz] using hf
    have hlen : ((cells.toList.take (i * size) ++ v.cells.toList ++ cells.toList.drop (i * size + size)).toArray).size = (i + 1 + vs.length) * size := by
      rw [List.size_toArray, List.length_append, List.length_append, e1, e2, List.length_drop, Array.length_toList, h]
      simp only [Nat.add_mul]; omega
    rw [hcon, ih (i + 1) _ (fun u hu => hv u (List.mem_cons_of_mem _ hu)) hlen]
    congr 2
    simp only [List.flatten_cons]
    rw [List.take_left' (by rw [List.length_append, e1, e2, Nat.add_mul]; omega), List.append_assoc]
/-- The values of a slice that is written out, in order. -/
def partsOf (env : Env) : Nat → List (Nat × Operand) → Option (List Value)
  | _, [] => some []
  | i, (j, x) :: ps => if i = j then match env.eval x, partsOf env (i + 1) ps with
      | some v, some vs => some (v :: vs)
      | _, _ => none
    else none
theorem partsOf_map {X : Cx} {env : Env} {a : Act} (ha : Holds X env a) : ∀ {ps : List (Nat × Operand)} {i : Nat} {vs : List Value}, partsOf env i ps = some vs → ps.map (fun (x : Nat × Operand) => (x.1, a.eval x.2)) = (vs.zipIdx i).map fun (x : Value × Nat) => (x.2, x.1) := by
  intro ps
  induction ps with
  | nil => intro i vs h; simp [partsOf] at h; simp [h]
  | cons p ps ih =>
    obtain ⟨j, x⟩ := p
    intro i vs h
    unfold partsOf at h
    split at h
    · rename_i hij
      subst hij
      split at h
      · rename_i v vs' h1 h2
        cases h
        simp only [List.map_cons, List.zipIdx_cons, ha.eval h1, ih h2]
      · cases h
    · cases h
/-- What such a slice's values read as. -/
def RowsA {α : Type} (e : Enc α) (vs : List Value) (xs : List α) : A := ⟨fun w O => Rows e w O (vs.map (fun u : Value => u.cells.toList)).flatten xs ∧ ∀ v ∈ vs, v.cells.size = e.n, fun h hO => ⟨h.1.mono hO, h.2⟩, fun h hw => ⟨h.1.loc hw, h.2⟩⟩
theorem RowsA.isDup {α : Type} (e : Enc α) (vs : List Value) (xs : List α) : (RowsA e vs xs).Dup := fun _ _ h => ⟨h.1.dup, h.2⟩
theorem Beside.pure {a : A} {L : List A} (h : ∀ w, a.h w fun _ => 0) : Beside a L := fun w O hs =>
  ⟨fun _ => 0, O, ⟨fun b => Nat.zero_le _, fun b => Nat.le_refl _, fun b h => by omega, fun b h => rfl⟩, h w, hs⟩
theorem run_buildSlice {P : Program} {t : TypeId} {z : Value} {n nb : Nat} {w : World} (hu : P.underlying t = some (.slice E)) (hE : TI P E z n nb) (hzs : z.cells.size = n) {vs : List Value} (hv : ∀ v ∈ vs, v.cells.size = n) (hn : vs.length * n ≤ 16777216) {parts : Array (Nat × Value)}
    (hp : parts.toList = (vs.zipIdx 0).map fun (x : Value × Nat) => (x.2, x.1)) :
    (Instr.buildSlice t vs.length parts).run P w = .ok (.slice (some ⟨w.heap.size, 0, none⟩) vs.length vs.length) (w.alloc (.cells (vs.map (fun u : Value => u.cells.toList)).flatten.toArray E)) := by
  obtain ⟨i, hi, hz, hsz, _⟩ := hE
  have hfill := fill_row n vs 0 ((Array.range (vs.length * n)).map (z.cells[· % z.cells.size]!)) hv (by simp)
  have hfill0 := fill_row n vs 0 ((Array.range (vs.length * n)).map ((#[] : Array Value)[· % (#[] : Array Value).size]!)) hv (by simp)
  simp only [Nat.zero_mul, List.take_zero, List.nil_append] at hfill hfill0
  have hne : ¬ (vs.length * n > 2 ^ 24) := by omega
  by_cases h0 : vs.length * n = 0
  · simp [Instr.buildSlice, run_underlying hu, sizeOf, typeInfo, hi, hsz, hp, h0, newRow, newObj, Sem.run]
    rw [h0] at hfill0
    simp at hfill0
    simp [hfill0, Sem.run]
  · simp [Instr.buildSlice, run_underlying hu, sizeOf, typeInfo, hi, hsz, hp, h0, hne, zeroValue, hz, newRow, newObj, Sem.run]
    simp [hfill, Sem.run]
theorem s_buildSlice {t : TypeId} {z : Value} {nb n sz : Nat} {parts : List (Nat × Operand)} {vs : List Value} (hu : X.P.underlying t = some (.slice E)) (hE : TI X.P E z sz nb) (hzs : z.cells.size = sz) (hp : partsOf env 0 parts = some vs) (hn : vs.length = n)
    (hn2 : n * sz ≤ 16777216) (hn3 : n ≤ 16777216) (hb : Beside (RowsA e vs zs) L) (hlen : zs.length = n) (hsz0 : e.n = sz) (hd : d < X.fn.ntmps)
    (k : ∀ u, Kont X ((d, u) :: env) (Own e E u zs :: L) K) : StepK X kk ⟨some d, .buildSlice t n parts.toArray, T, pos, af, none⟩ env L K := by
  subst hsz0
  refine s_main (γ := Value) (V := fun u => u) (pu := fun _ => True) (L' := fun u => Own e E u zs :: L) ?_ hd (fun u _ => k u)
  intro a w O ha hst hdom
  obtain ⟨O1, O2, s, ⟨hr, hv⟩, hs2⟩ := hb w O hst
  subst hn
  have hrun := run_buildSlice (P := X.P) (w := w) (t := t) (E := E) hu hE hzs hv hn2 (parts := (parts.map fun (x : Nat × Operand) => (x.1, a.eval x.2)).toArray) (by simpa using partsOf_map ha hp)
  have hl : (vs.map (fun u : Value => u.cells.toList)).flatten.length = vs.length * e.n := by rw [← hlen]; exact hr.length
  have hO1 : O1 w.heap.size = 0 := by have := dom_zero hdom; have := s.l w.heap.size; omega
  refine ⟨.slice (some ⟨w.heap.size, 0, none⟩) vs.length vs.length, w.alloc (.cells (vs.map (fun u : Value => u.cells.toList)).flatten.toArray E), fresh w O, by simp [execOp, hrun], trivial, ?_, rel_alloc _ hdom⟩
  refine ⟨fun b => if b = w.heap.size then 2 else min (O1 b) 1, O2, ⟨fun b => ?_, fun b => ?_, fun b hb => ?_, fun b hb => ?_⟩, ?_, hs2.loc fun b hb => ?_⟩
  · have := s.l b; have := Nat.min_le_left (O1 b) 1
    show (if _ then _ else _) ≤ (if _ then _ else _)
    split
    · exact Nat.le_refl _
    · exact Nat.le_trans (Nat.min_le_left _ _) (s.l b)
  · have := s.r b
    show _ ≤ (if _ then _ else _)
    split
    · rename_i h; have h2 := dom_zero hdom; rw [← h] at h2; omega
    · exact this
  · by_cases h : b = w.heap.size
    · have h2 := dom_zero hdom; have := s.r b; rw [← h] at h2; omega
    · have hb' : 2 ≤ (if b = w.heap.size then 2 else min (O1 b) 1) := hb
      have := Nat.min_le_right (O1 b) 1
      rw [if_neg h] at hb'; omega
  · show (if _ then _ else _) = 0
    have := s.rl b hb; have := Nat.min_le_left (O1 b) 1
    split
    · rename_i h; have h2 := dom_zero hdom; have := s.r b; rw [← h] at h2; omega
    · exact Nat.le_antisymm (Nat.le_trans (Nat.min_le_left _ _) (Nat.le_of_eq (s.rl b hb))) (Nat.zero_le _)
  · refine ⟨fun b => if b = w.heap.size then 2 else 0, fun b => min (O1 b) 1, (vs.map (fun u : Value => u.cells.toList)).flatten, ⟨fun b => ?_, fun b => ?_, fun b hb => ?_, fun b hb => ?_⟩, ?_, fun k hk => ?_, ?_⟩
    · show (if _ then _ else _) ≤ (if _ then _ else _); split <;> omega
    · have := Nat.min_le_right (O1 b) 1; show _ ≤ (if _ then _ else _); split
      · omega
      · exact Nat.le_refl _
    · by_cases h : b = w.heap.size
      · rw [h, hO1]; rfl
      · have hb' : 2 ≤ (if b = w.heap.size then 2 else 0) := hb
        rw [if_neg h] at hb'; omega
    · have : 2 ≤ min (O1 b) 1 := hb; have := Nat.min_le_right (O1 b) 1; omega
    · rw [hlen]
      exact World.ownsRow_lit w (vs.map (fun u : Value => u.cells.toList)).flatten.toArray vs.length (Nat.zero_le _) (by simp only [maxLen]; omega) (by simpa using hl)
    · simp only [Value.ownBlock, Option.some.injEq] at hk
      subst hk; simp
    · refine (hr.dup).loc fun b hb => ?_
      have hb' : O1 b ≠ 0 := by intro h; apply hb; show min (O1 b) 1 = 0; have := Nat.min_le_left (O1 b) 1; omega
      have := hdom b (by have := s.l b; omega)
      show (w.heap.push _)[b]? = _
      rw [Array.getElem?_push, if_neg (by omega)]
  · have := hdom b (by have := s.r b; omega)
    show (w.heap.push _)[b]? = _
    rw [Array.getElem?_push, if_neg (by omega)]
theorem Pick.own_sl {α : Type} {e : Enc α} {T : TypeId} {v : Value} {xs : List α} {L : List A} : Pick (Sl e v xs) (Own e T v xs :: L) L := Pick.of Pick.here fun _ _ h => Own.sl h
theorem rows_scalar {α : Type} {e : Enc α} {f : α → Value} (hf : ∀ w O x, e.rd w O [f x] x) (hc : ∀ x, (f x).cells = #[f x]) (w : World) (O : Perm) : ∀ xs : List α, Rows e w O ((xs.map f).map (fun u : Value => u.cells.toList)).flatten xs
  | [] => rfl
  | x :: xs => ⟨[f x], _, by simp [hc], hf w O x, rows_scalar hf hc w O xs⟩
theorem beside_scalar {α : Type} {e : Enc α} {f : α → Value} {L : List A} (h1 : e.n = 1) (hf : ∀ w O x, e.rd w O [f x] x) (hc : ∀ x, (f x).cells = #[f x]) (xs : List α) : Beside (RowsA e (xs.map f) xs) L :=
  Beside.pure fun w => ⟨rows_scalar hf hc w _ xs, fun v hv => by
    obtain ⟨x, _, rfl⟩ := List.mem_map.1 hv
    rw [hc, h1]; rfl⟩
theorem beside_str {L : List A} (xs : List ByteArray) : Beside (RowsA eStr (xs.map .string) xs) L := beside_scalar rfl (fun _ _ _ => rfl) (fun _ => rfl) xs
theorem beside_int {L : List A} (k : IntKind) (xs : List Int) : Beside (RowsA (eInt k) (xs.map (.int k)) xs) L := beside_scalar rfl (fun _ _ _ => rfl) (fun _ => rfl) xs
theorem beside_byte {L : List A} (xs : List UInt8) : Beside (RowsA eByte (xs.map fun b => .int .u8 b.toNat) xs) L := beside_scalar rfl (fun _ _ _ => rfl) (fun _ => rfl) xs
end
theorem sAt_nat (s : ByteArray) (k : Nat) (h : k < s.size) : sAt s (k : Int) = ((s.data.toList[k]'(by rw [← Lib.size_eq]; exact h)).toNat : Int) := by
  simp only [sAt, Int.toNat_natCast, List.getD_eq_getElem?_getD]
  rw [List.getElem?_eq_getElem (by rw [← Lib.size_eq]; exact h)]; rfl
theorem byte_of {b : UInt8} {n : Nat} (h : ((b.toNat : Nat) : Int) = (n : Int)) (hn : n < 256) : b = UInt8.ofNat n := by
  have : b.toNat = n := by omega
  rw [← this]; simp
end Go.SL

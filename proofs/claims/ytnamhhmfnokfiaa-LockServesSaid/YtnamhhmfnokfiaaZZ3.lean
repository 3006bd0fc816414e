/- The texts QT, QV, QW, QX, QY, Q9, QZ, Sh, one behind the other. -/
import Derived.Test.YtnamhhmfnokfiaaZZ2
import Derived.Lib.SliceRun
import Derived.Laws.StructEq
import Derived.Laws.Externs
import Derived.Lib.AppendZerosOnto
import Derived.Lib.Overlaps
import Derived.Shelf.Small.Bits
import Derived.Shelf.Small.Wraps
import Derived.Shelf.Strconv.Itoa0
import Derived.Shelf.Sort.Plain
import Derived.Shelf.Strings.Prefix
import Derived.Ground.Names2Prog
import Derived.Shelf.Slices.Clone
import Derived.Shelf.Slices.CompactI
import Derived.Shelf.Slices.CompactS
import Derived.Shelf.Slices.SearchI
import Derived.Shelf.Slices.Cells
import Derived.Shelf.Slices.In.SortNone
import Derived.Test.YtnamhhmfnokfiaaProg
set_option linter.unusedVariables false
set_option linter.unusedSimpArgs false
/- Structs that are built; stores into rows and blocks; calls that keep all; maps that may be nil; results in cells. -/
namespace Go.SL
open Go

/-! ### values of one cell -/
def OneC (L : List A) (v : Value) : Prop := ∀ w O, Stars L w O → v.oneCell' = true
theorem OneC.lit {L : List A} {v : Value} (h : v.oneCell' = true) : OneC L v := fun _ _ _ => h
theorem OneC.sl {L : List A} {α : Type} {e : Enc α} {v : Value} {zs : List α} (h : Has L (Sl e v zs)) : OneC L v := fun w O hs => by obtain ⟨a, cap, rfl, _⟩ := h w O hs; rfl
def OneAll (L : List A) (vs : List Value) : Prop := ∀ w O, Stars L w O → ∀ v ∈ vs, v.oneCell' = true
theorem OneAll.nil {L : List A} : OneAll L [] := fun _ _ _ _ h => by cases h
theorem OneAll.cons {L : List A} {v : Value} {vs : List Value} (h : OneC L v) (t : OneAll L vs) : OneAll L (v :: vs) := fun w O hs u hu => by
  rcases List.mem_cons.1 hu with rfl | hu
  · exact h w O hs
  · exact t w O hs u hu
theorem cells_one {v : Value} (h : v.oneCell' = true) : v.cells = #[v] := by cases v <;> first | rfl | cases h
/-- What a value's cells are. -/
def CellsV (L : List A) (u : Value) (new : List Value) : Prop := ∀ w O, Stars L w O → u.cells.toList = new
theorem CellsV.lit {L : List A} {u : Value} {new : List Value} (h : u.cells.toList = new) : CellsV L u new := fun _ _ _ => h
theorem CellsV.one {L : List A} {u : Value} (h : OneC L u) : CellsV L u [u] := fun w O hs => by rw [cells_one (h w O hs)]
/-- Cells that are one by one. -/
theorem OneAll.rd {L : List A} {α : Type} {e : Enc α} {cs : List Value} {z : α} (h : Has L (Rd e cs z)) : OneAll L cs := fun w O hs => e.one (h w O hs)

/-! ### structs that are built -/
def fillC (place : Nat → Option (Nat × Nat)) (cells : List Value) : List (Nat × List Value) → Option (List Value)
  | [] => some cells
  | (i, c) :: rest => match place i with
    | none => none
    | some (off, size) => if Nat.beq c.length size && Nat.ble (off + c.length) cells.length then fillC place (cells.take off ++ c ++ cells.drop (off + c.length)) rest else none
theorem fill_of (place : Nat → Option (Nat × Nat)) : ∀ (vs : List (Nat × Value)) (cells : List Value) (out : List Value), fillC place cells (vs.map fun p => (p.1, p.2.cells.toList)) = some out → Instr.fill place cells.toArray vs = some out.toArray
  | [], cells, out, h => by simp [fillC] at h; simp [Instr.fill, h]
  | (i, v) :: rest, cells, out, h => by
    simp only [List.map_cons, fillC] at h
    rw [Instr.fill]
    cases hp : place i with
    | none => rw [hp] at h; cases h
    | some p =>
      obtain ⟨off, size⟩ := p
      rw [hp] at h
      simp only at h
      split at h
      · rename_i hc
        simp only [Bool.and_eq_true, Nat.ble_eq] at hc
        have h1 : v.cells.size = size := by rw [← Nat.eq_of_beq_eq_true hc.1]; simp
        have h2 : off + v.cells.size ≤ cells.length := by simpa using hc.2
        simp only
        rw [if_neg (by simp [h1]; omega)]
        have hf := fold_set off v.cells.toList 0 cells.toArray (by simp; omega)
        have hcon : (v.cells.zipIdx.foldl (fun cs (x : Value × Nat) => cs.setIfInBounds (off + x.2) x.1) cells.toArray) = (cells.take off ++ v.cells.toList ++ cells.drop (off + v.cells.toList.length)).toArray := by
          rw [← Array.foldl_toList]
          simpa using hf
        exact (congrArg (fun q => Instr.fill place q rest) hcon).trans (fill_of place rest _ _ h)
      · cases h
def builtC (P : Program) (t : TypeId) (parts : List (Nat × List Value)) : Option (List Value) :=
  match P.info? t, P.underlying t with
  | some it, some (.array _ e) =>
    match it.zero, P.info? e with
    | some z, some ie => fillC (fun i => some (i * ie.size, ie.size)) z.cells.toList parts
    | _, _ => none
  | some it, some (.struct fields) =>
    match it.zero, fields.toList.mapM (fun f => (P.info? f.type).map fun i => (f.offset, i.size)) with
    | some z, some places => fillC (places.toArray[·]?) z.cells.toList parts
    | _, _ => none
  | _, _ => none
theorem built_of {P : Program} {t : TypeId} {vs : List (Nat × Value)} {out : List Value} (h : builtC P t (vs.map fun p => (p.1, p.2.cells.toList)) = some out) : P.built t vs = some out.toArray := by
  unfold builtC at h
  unfold Program.built
  split at h
  · rename_i it _ e h1 h2
    simp only [h1, h2]
    cases hz : it.zero with
    | none => simp [hz] at h
    | some z =>
      cases he : P.info? e with
      | none => simp [hz, he] at h
      | some ie =>
        simp only [hz, he] at h
        have := fill_of _ vs z.cells.toList out h
        simpa using this
  · rename_i it fields h1 h2
    simp only [h1, h2]
    cases hz : it.zero with
    | none => simp [hz] at h
    | some z =>
      cases he : fields.toList.mapM (fun f => (P.info? f.type).map fun i => (f.offset, i.size)) with
      | none => simp [hz, he] at h
      | some places =>
        simp only [hz, he] at h
        have := fill_of _ vs z.cells.toList out h
        simpa using this
  · cases h
def evalP (env : Env) : List (Nat × Operand) → Option (List (Nat × Value))
  | [] => some []
  | (i, x) :: ps => match env.eval x, evalP env ps with
    | some v, some vs => some ((i, v) :: vs)
    | _, _ => none
theorem evalP_map {X : Cx} {env : Env} {a : Act} (ha : Holds X env a) : ∀ {ps : List (Nat × Operand)} {vs : List (Nat × Value)}, evalP env ps = some vs → ps.map (fun (x : Nat × Operand) => (x.1, a.eval x.2)) = vs
  | [], vs, h => by simp [evalP] at h; simp [h]
  | (i, x) :: ps, vs, h => by
    unfold evalP at h
    split at h
    · rename_i v vs' h1 h2
      cases h
      simp [ha.eval h1, evalP_map ha h2]
    · cases h
def PartsC (L : List A) (vs : List (Nat × Value)) (css : List (Nat × List Value)) : Prop := ∀ w O, Stars L w O → vs.map (fun p => (p.1, p.2.cells.toList)) = css
theorem PartsC.nil {L : List A} : PartsC L [] [] := fun _ _ _ => rfl
theorem PartsC.one {L : List A} {i : Nat} {v : Value} {vs : List (Nat × Value)} {css : List (Nat × List Value)} (h : OneC L v) (t : PartsC L vs css) : PartsC L ((i, v) :: vs) ((i, [v]) :: css) := fun w O hs => by
  rw [List.map_cons, t w O hs, cells_one (h w O hs)]
theorem PartsC.lit {L : List A} {i : Nat} {v : Value} {c : List Value} {vs : List (Nat × Value)} {css : List (Nat × List Value)} (h : v.cells.toList = c) (t : PartsC L vs css) : PartsC L ((i, v) :: vs) ((i, c) :: css) := fun w O hs => by
  rw [List.map_cons, t w O hs, h]

section
variable {K : Act → World → Prop} {X : Cx} {ops : Array Oper} {rest : List Oper} {kk : List Item} {env : Env} {L L1 L2 : List A} {d : Nat} {T : TypeId} {pos : String} {af : Array Edge} {x y : Operand}
variable {α : Type} {e : Enc α} {v u : Value} {zs ys : List α} {E : TypeId}

theorem v_build {t : TypeId} {ps : List (Nat × Operand)} {vs : List (Nat × Value)} {css : List (Nat × List Value)} {cells : List Value} (hp : evalP env ps = some vs) (hc : PartsC L vs css) (hb : builtC X.P t css = some cells) : Val X env L (.build t ps.toArray) T (.agg cells.toArray) :=
  fun _ _ _ _ a w O ha hst => by
    have h1 := evalP_map ha hp
    have hrun := run_build (P := X.P) w t vs.toArray cells.toArray (built_of (by rw [hc w O hst]; exact hb))
    have h2 : (ps.toArray.map fun (x : Nat × Operand) => (x.1, a.eval x.2)) = vs.toArray := by simp [h1]
    have h3 : (Instr.build t (ps.toArray.map fun (x : Nat × Operand) => (x.1, a.eval x.2))).run X.P w = .ok (.agg cells.toArray) w := by rw [h2]; exact hrun
    simp only [execOp]
    have h4 : (Array.map (fun x => match x with | (i, x) => (i, a.eval x)) ps.toArray) = (ps.toArray.map fun (x : Nat × Operand) => (x.1, a.eval x.2)) := by
      congr 1
    rw [h4]
    simp [h1, hrun]
/-- A field that is a struct. -/
theorem v_field_agg {i : Nat} {cs : List Value} {xT : TypeId} {fs fs' : Array Field} {f : Field} {z : Value} {n nb : Nat} (hu : X.P.underlying xT = some (.struct fs)) (hf : fs[i]? = some f) (hv : X.P.underlying f.type = some (.struct fs')) (ht : TI X.P f.type z n nb)
    (hx : env.eval x = some (.agg cs.toArray)) (hl : f.offset + n ≤ cs.length) : Val X env L (.field xT x i) T (.agg ((cs.drop f.offset).take n).toArray) :=
  fun _ _ _ _ a w O ha _ => by
    obtain ⟨ti, hi, _, hsz, _⟩ := ht
    have hia : (isAgg f.type).run X.P w = .ok true w := by simp [isAgg, run_underlying hv]
    have hex : cs.toArray.extract f.offset (f.offset + n) = ((cs.drop f.offset).take n).toArray := by
      simp [List.extract_eq_take_drop]
    simp [execOp, ha.eval hx, Instr.field, run_underlying hu, hf, part, hia, asAgg, sizeOf, typeInfo, hi, hsz, hex]

/-! ### stores -/
theorem setRow_rel {w : World} {O : Perm} {g : Nat} {arr : Array Value} (hb : 2 ≤ O g) (hdom : ∀ b, O b ≠ 0 → b < w.heap.size) : Rel w O (w.setRow g arr) O := by
  refine ⟨rfl, rfl, rfl, by simp, fun c _ hlt => setRow_other w g c _ (by intro h; subst h; omega), fun _ _ => Nat.le_refl _, fun c hc => ?_⟩
  have := hdom c hc; simpa using this
/-- A struct (or any cells) is stored into a block of one's own. -/
theorem s_store_cells {t : TypeId} {b off n : Nat} {bt : TypeId} {cs cs' new : List Value} {z : Value} {nb : Nat} (ht : TI X.P t z n nb) (hx : env.eval x = some (.pointer (some ⟨b, off, none⟩))) (hy : env.eval y = some u) (hc : CellsV L u new) (h1 : OneAll L new) (hn : new.length = n)
    (hp : Pick (Blk b bt cs) L L1) (hlt : off + n ≤ cs.length) (hset : cs.take off ++ new ++ cs.drop (off + n) = cs') (k : Kont X env (Blk b bt cs' :: L1) K) : StepK X kk ⟨none, .store t x y, T, pos, af, none⟩ env L K := by
  refine s_skip (γ := Unit) (pu := fun _ => True) (L' := fun _ => Blk b bt cs' :: L1) ?_ (fun _ _ => k)
  intro a w O ha hst hdom
  obtain ⟨O1, O2, s, ⟨hb2, hh⟩, hs2⟩ := hp w O hst
  have hdom1 : ∀ b, O1 b ≠ 0 → b < w.heap.size := fun b hb => hdom b (by have := s.l b; omega)
  have hcl := hc w O hst
  have hrun := run_storeCells_at X.P b off bt new 0 cs.toArray w hh (by simp; omega) (h1 w O hst)
  have harr : (cs.toArray.toList.take (off + 0) ++ new ++ cs.toArray.toList.drop (off + 0 + new.length)).toArray = cs'.toArray := by simp only [Nat.add_zero, hn]; rw [← hset]
  rw [harr] at hrun
  obtain ⟨P, hP, hrel⟩ := step_at hdom s hs2 (setRow_rel (arr := cs'.toArray) hb2 hdom1) (L' := [Blk b bt cs']) ⟨O1, fun _ => 0, ⟨fun _ => Nat.le_refl _, fun _ => Nat.zero_le _, fun _ _ => rfl, fun _ h => by omega⟩, ⟨hb2, setRow_heap w b _ _ bt _ hh⟩, trivial⟩
  refine ⟨(), _, P, ?_, trivial, hP, hrel⟩
  obtain ⟨ti, hi, _, hsz, _⟩ := ht
  have hsize : u.cells.size = n := by rw [← hn, ← hcl]; simp
  simp [execOp, ha.eval hx, ha.eval hy, Instr.storeAt, Instr.sureAddr, storeVar, sizeOf, typeInfo, hi, hsz, hsize, hcl, hrun]

/-- Cells of a row of one's own are written. -/
theorem own_put {w : World} {O O1 O2 P1 P2 R1 R2 : Perm} {cs : List Value} {ws : List α} {new : List Value} {i : Nat} (hdom : ∀ b, O b ≠ 0 → b < w.heap.size) (s : Split O O1 O2) (t1 : Split O1 P1 P2) (g1 : w.ownsRow 0 E e.n v zs.length cs) (g2 : ∀ k, v.ownBlock = some k → 2 ≤ P1 k) (g3 : Rows e w P2 cs zs) (s2 : Split O2 R1 R2) (hr : Rows e w (fun b => max (P2 b) (R1 b)) new ws) (hL : Stars L1 w R2)
    (hi : i + ws.length ≤ zs.length) (h0 : 0 < zs.length) : ∃ g cap cur, v = .slice (some ⟨g, 0, none⟩) zs.length cap ∧ w.heap[g]? = some (.cells cur E (0, 0)) ∧ i * e.n + new.length ≤ cur.size ∧
      ∃ P, Stars (Own e E v (zs.take i ++ ws ++ zs.drop (i + ws.length)) :: L1) (w.setRow g (cur.toList.take (i * e.n) ++ new ++ cur.toList.drop (i * e.n + new.length)).toArray) P ∧ Rel w O (w.setRow g (cur.toList.take (i * e.n) ++ new ++ cur.toList.drop (i * e.n + new.length)).toArray) P := by
  rcases g1.2 with ⟨rfl, h⟩ | ⟨g, cap, cur, rfl, _, hg, hle, hmx, hsz, htk⟩
  · omega
  have hnew : new.length = ws.length * e.n := hr.length
  have hpg := g2 g rfl
  have hfit : i * e.n + new.length ≤ cur.size := by
    rw [hnew, hsz, ← Nat.add_mul]; exact Nat.mul_le_mul_right _ (by omega)
  refine ⟨g, cap, cur, rfl, hg, hfit, ?_⟩
  generalize hw' : w.setRow g (cur.toList.take (i * e.n) ++ new ++ cur.toList.drop (i * e.n + new.length)).toArray = w'
  have hO1g : 2 ≤ O1 g := Nat.le_trans hpg (t1.l g)
  have hOg : 2 ≤ O g := Nat.le_trans hO1g (s.l g)
  have hoth : ∀ c, c ≠ g → w'.heap[c]? = w.heap[c]? := fun c hc => by rw [← hw']; exact setRow_other w g c _ hc
  have hheap : w'.heap[g]? = some (.cells (cur.toList.take (i * e.n) ++ new ++ cur.toList.drop (i * e.n + new.length)).toArray E (0, 0)) := by rw [← hw']; exact setRow_heap w g _ _ E _ hg
  have hP2g : P2 g = 0 := t1.lr g hpg
  have hO2g : O2 g = 0 := s.lr g hO1g
  have hR1g : R1 g = 0 := by have := s2.l g; omega
  have hR2g : R2 g = 0 := by have := s2.r g; omega
  have hcl : cs.length = zs.length * e.n := g1.1
  have hlen : (zs.take i ++ ws ++ zs.drop (i + ws.length)).length = zs.length := by simp; omega
  have hcs' : (cs.take (i * e.n) ++ new ++ cs.drop ((i + ws.length) * e.n)).length = zs.length * e.n := by
    rw [← hlen]
    simp only [List.length_append, List.length_take, List.length_drop, hcl, hnew, Nat.add_mul]
    have a1 := Nat.mul_le_mul_right e.n hi
    have a2 := Nat.mul_le_mul_right e.n (show i ≤ zs.length by omega)
    rw [Nat.add_mul] at a1
    rw [Nat.min_eq_left a2, Nat.min_eq_left (show i ≤ zs.length by omega), Nat.sub_mul, Nat.add_mul]
  have hrow : w'.ownsRow 0 E e.n (.slice (some ⟨g, 0, none⟩) zs.length cap) (zs.take i ++ ws ++ zs.drop (i + ws.length)).length (cs.take (i * e.n) ++ new ++ cs.drop ((i + ws.length) * e.n)) := by
    rw [hlen]
    refine ⟨hcs', .inr ⟨g, cap, _, rfl, Nat.zero_le _, hheap, hle, hmx, ?_, ?_⟩⟩
    · simp only [List.size_toArray, List.length_append, List.length_take, List.length_drop, Array.length_toList]
      omega
    · have a1 : i * e.n ≤ zs.length * e.n := Nat.mul_le_mul_right _ (by omega)
      have a2 : (i + ws.length) * e.n ≤ zs.length * e.n := Nat.mul_le_mul_right _ hi
      have a4 := Nat.mul_le_mul_right e.n hle
      have e1 : cs.take (i * e.n) = cur.toList.take (i * e.n) := by rw [← htk, List.take_take, Nat.min_eq_left a1]
      have e2 : cs.drop ((i + ws.length) * e.n) = (cur.toList.drop (i * e.n + new.length)).take (zs.length * e.n - (i + ws.length) * e.n) := by
        rw [← htk, List.drop_take, hnew, ← Nat.add_mul]
      have e3 : ((cur.toList.take (i * e.n) ++ new).length) = (i + ws.length) * e.n := by
        rw [List.length_append, List.length_take, Array.length_toList, hnew, Nat.add_mul, Nat.min_eq_left (by omega)]
      rw [e1, e2, List.take_append, e3, List.take_of_length_le (by rw [e3]; exact a2)]
  have m1 : ∀ b, min (P2 b) 1 ≠ 0 → b ≠ g := fun b hb h => by subst h; rw [hP2g] at hb; exact hb rfl
  have m2 : ∀ b, min (max (P2 b) (R1 b)) 1 ≠ 0 → b ≠ g := fun b hb h => by subst h; rw [hR1g, hP2g] at hb; exact hb rfl
  have r1 : Rows e w' (fun b => max (min (P2 b) 1) (min (R1 b) 1)) cs zs := (g3.dup.loc fun b hb => hoth b (m1 b hb)).mono fun b => Nat.le_max_left _ _
  have r2 : Rows e w' (fun b => max (min (P2 b) 1) (min (R1 b) 1)) new ws := (hr.dup.loc fun b hb => hoth b (m2 b hb)).mono fun b => by show min (max (P2 b) (R1 b)) 1 ≤ max (min (P2 b) 1) (min (R1 b) 1); omega
  have hown : (Own e E (.slice (some ⟨g, 0, none⟩) zs.length cap) (zs.take i ++ ws ++ zs.drop (i + ws.length))).h w' (fun b => max (O1 b) (min (R1 b) 1)) := by
    refine Own.of_row hrow (((r1.take i).append r2).append (r1.drop (i + ws.length))) (fun b hb => ?_) (fun b => ?_) (fun b => ?_) (fun b hb => ?_)
    · simp only [Value.ownBlock, Option.some.injEq] at hb
      subst hb
      show max _ _ = 0; rw [hP2g, hR1g]; rfl
    · exact Nat.max_le.2 ⟨Nat.min_le_right _ _, Nat.min_le_right _ _⟩
    · have := t1.r b; show max _ _ ≤ max _ _; omega
    · simp only [Value.ownBlock, Option.some.injEq] at hb
      subst hb
      show 2 ≤ max _ _; omega
  refine ⟨O, ⟨fun b => max (O1 b) (min (R1 b) 1), R2, ⟨fun b => ?_, fun b => ?_, fun b hb => ?_, fun b hb => ?_⟩, hown, hL.loc fun b hb => hoth b (fun h => hb (by rw [h]; exact hR2g))⟩, ?_⟩
  · have := s.l b; have := s.r b; have := s2.l b; show max _ _ ≤ _; omega
  · have := s.r b; have := s2.r b; omega
  · have h2 : 2 ≤ O1 b := by have h' : 2 ≤ max (O1 b) (min (R1 b) 1) := hb; omega
    have := s.lr b h2; have := s2.r b; omega
  · have h3 := s2.rl b hb
    have h4 := s.rl b (by have := s2.r b; omega)
    show max _ _ = 0; omega
  · rw [← hw']; exact setRow_rel hOg hdom
/-- An element of a row of one's own is written. -/
theorem s_store_elem {t : TypeId} {i : Nat} {z : α} {new : List Value} {z0 : Value} {nb : Nat} (ht : TI X.P t z0 e.n nb) (hx : env.eval x = some (.pointer (some (elemAddr v i e.n)))) (hy : env.eval y = some u) (hc : CellsV L u new)
    (hp : Pick (Own e E v zs) L L1) (hz : Beside (Rd e new z) L1) (hi : i < zs.length) (k : Kont X env (Own e E v (zs.set i z) :: L1) K) : StepK X kk ⟨none, .store t x y, T, pos, af, none⟩ env L K := by
  refine s_skip (γ := Unit) (pu := fun _ => True) (L' := fun _ => Own e E v (zs.set i z) :: L1) ?_ (fun _ _ => k)
  intro a w O ha hst hdom
  obtain ⟨O1, O2, s, hO, hs2⟩ := hp w O hst
  obtain ⟨R1, R2, s2, hr, hL⟩ := hz w O2 hs2
  have hcl := hc w O hst
  have hnl : new.length = e.n := e.len hr
  obtain ⟨P1, P2, cs, t1, g1, g2, g3⟩ := hO
  have hr' : Rows e w (fun b => max (P2 b) (R1 b)) new [z] := ⟨new, [], by simp, e.mono hr fun b => Nat.le_max_right _ _, rfl⟩
  obtain ⟨g, cap, cur, rfl, hg, hfit, P, hP, hrel⟩ := own_put hdom s t1 g1 g2 g3 s2 hr' hL (i := i) (by simp; omega) (by omega)
  have hrun := run_storeCells_at X.P g (i * e.n) E new 0 cur w hg (by simpa using hfit) (e.one hr)
  have hset : zs.take i ++ [z] ++ zs.drop (i + 1) = zs.set i z := by
    rw [List.set_eq_take_append_cons_drop, if_pos hi]; simp
  simp only [List.length_singleton, hset] at hP
  refine ⟨(), _, P, ?_, trivial, hP, hrel⟩
  obtain ⟨ti, hti, _, hsz, _⟩ := ht
  have hsize : u.cells.size = e.n := by rw [← hnl, ← hcl]; simp
  have hea : elemAddr (.slice (some ⟨g, 0, none⟩) zs.length cap) i e.n = ⟨g, i * e.n, none⟩ := by simp [elemAddr]
  rw [hea] at hx
  simp only [Nat.add_zero] at hrun
  simp [execOp, ha.eval hx, ha.eval hy, Instr.storeAt, Instr.sureAddr, storeVar, sizeOf, typeInfo, hti, hsz, hsize, hcl, hrun]
/-- clear(v[k:]). -/
theorem s_clear_tail {t : TypeId} {g l cap k0 : Nat} {z : Value} {z0 : α} {nb : Nat} {ts : Array TypeId} (hts : ts[0]? = some t) (hu : X.P.underlying t = some (.slice E)) (hE : TI X.P E z e.n nb) (hzc : z.cells.size = e.n) (hz0 : ∀ w O, e.rd w O z.cells.toList z0) (hn : 0 < e.n)
    (hl : l = zs.length) (hx : env.eval x = some (cutV (some ⟨g, 0, none⟩) k0 l cap e.n)) (hk : k0 ≤ zs.length) (hcap : zs.length ≤ cap)
    (hp : Pick (Own e E (.slice (some ⟨g, 0, none⟩) zs.length cap) zs) L L1) (k : ∀ ws : List α, ws.length = zs.length - k0 → Kont X env (Own e E (.slice (some ⟨g, 0, none⟩) zs.length cap) (zs.take k0 ++ ws) :: L1) K) :
    StepK X kk ⟨none, .call ⟨.builtin .clear, #[x], ts⟩, T, pos, af, none⟩ env L K := by
  subst hl
  refine s_main0 (γ := List α) (V := fun _ => .tuple #[]) (pu := fun ws => ws.length = zs.length - k0) (L' := fun ws => Own e E (.slice (some ⟨g, 0, none⟩) zs.length cap) (zs.take k0 ++ ws) :: L1) ?_ (fun ws h => k ws h)
  intro a w O ha hst hdom
  obtain ⟨O1, O2, s, hO, hs2⟩ := hp w O hst
  obtain ⟨ti, hti, hz1, hsz, _⟩ := hE
  by_cases hlt : k0 < zs.length
  · have hrows : ∀ m : Nat, Rows e w (fun _ => 0) (List.replicate m z.cells.toList).flatten (List.replicate m z0) := by
      intro m
      induction m with
      | zero => rfl
      | succ m ih => exact ⟨z.cells.toList, _, by simp [List.replicate_succ], hz0 _ _, ih⟩
    obtain ⟨P1, P2, cs, t1, g1, g2, g3⟩ := hO
    obtain ⟨g', cap', cur, hv, hg, hfit, P, hP, hrel⟩ := own_put (L1 := L1) hdom s t1 g1 g2 g3 (R1 := fun _ => 0) (R2 := O2) ⟨fun _ => Nat.zero_le _, fun _ => Nat.le_refl _, fun _ h => by omega, fun _ _ => rfl⟩ ((hrows (zs.length - k0)).mono fun b => Nat.zero_le _) hs2 (i := k0) (by simp; omega) (by omega)
    simp only [Value.slice.injEq, Option.some.injEq, Addr.mk.injEq, and_true, true_and] at hv
    obtain ⟨rfl, rfl⟩ := hv
    have hzone : ∀ u ∈ (List.replicate (zs.length - k0) z.cells.toList).flatten, u.oneCell' = true := (hrows _).one
    have hrun := run_storeCells_at X.P g (k0 * e.n) E _ 0 cur w hg (by simpa using hfit) hzone
    have hzero : (Builtin.zeroCells z.cells (zs.length - k0)).toList = (List.replicate (zs.length - k0) z.cells.toList).flatten := by
      simp only [Builtin.zeroCells]
      apply List.ext_getElem
      · simp
      · intro i h1 h2
        simp only [Array.getElem_toList, Array.getElem_map, Array.getElem_range]
        have hlen : i < (zs.length - k0) * z.cells.size := by simpa using h1
        have hpos : 0 < z.cells.size := by omega
        have hmod : i % z.cells.size < z.cells.size := Nat.mod_lt _ hpos
        rw [getElem!_pos z.cells (i % z.cells.size) hmod]
        have key : ∀ (m i : Nat) (h : i < (List.replicate m z.cells.toList).flatten.length), (List.replicate m z.cells.toList).flatten[i] = z.cells[i % z.cells.size]'(Nat.mod_lt _ hpos) := by
          intro m
          induction m with
          | zero => intro i h; simp at h
          | succ m ih =>
            intro i h
            simp only [List.replicate_succ, List.flatten_cons] at h ⊢
            by_cases hi : i < z.cells.size
            · rw [List.getElem_append_left (by simpa using hi)]
              simp [Nat.mod_eq_of_lt hi]
            · rw [List.getElem_append_right (by simp; omega)]
              rw [ih]
              congr 1
              simp only [Array.length_toList]
              rw [← Nat.mod_eq_sub_mod (by omega)]
        exact (key _ i h2).symm
    refine ⟨List.replicate (zs.length - k0) z0, _, P, ?_, by simp, ?_, hrel⟩
    · have hx' : a.eval x = .slice (some ⟨g, k0 * e.n, none⟩) (zs.length - k0) (cap - k0) := by
        rw [ha.eval hx]
        simp only [Go.SL.cutV]
        rw [if_neg (by omega)]
        simp [add_off]
      obtain ⟨m, hm⟩ : ∃ m, zs.length - k0 = m + 1 := ⟨zs.length - k0 - 1, by omega⟩
      simp only [Nat.add_zero] at hrun
      rw [hm] at hrun hzero hx' ⊢
      simp [execOp, resolve, invoke, builtin, hx', Builtin.clear_, hts, run_underlying hu, zeroValue, typeInfo, hti, hz1, hzero, hrun]
    · have : zs.drop (k0 + (List.replicate (zs.length - k0) z0).length) = [] := List.drop_eq_nil_of_le (by simp; omega)
      rw [this, List.append_nil] at hP
      exact hP
  · have hk0 : k0 = zs.length := by omega
    subst hk0
    refine ⟨[], w, O, ?_, by simp, ⟨O1, O2, s, by simpa using hO, hs2⟩, Rel.refl hdom⟩
    have hx' : ∃ a0, a.eval x = .slice (some a0) 0 (cap - zs.length) := by
      rw [ha.eval hx]
      simp only [Go.SL.cutV, Nat.sub_self]
      split
      · exact ⟨_, rfl⟩
      · exact ⟨_, rfl⟩
    obtain ⟨a0, hx'⟩ := hx'
    simp [execOp, resolve, invoke, builtin, hx', Builtin.clear_, hts, run_underlying hu]
/-- The head of a row of one's own. -/
theorem Own.cut {w : World} {O : Perm} {g cap k0 : Nat} (h : (Own e E (.slice (some ⟨g, 0, none⟩) zs.length cap) zs).h w O) (hk : k0 ≤ zs.length) : (Own e E (.slice (some ⟨g, 0, none⟩) k0 cap) (zs.take k0)).h w O := by
  obtain ⟨P1, P2, cs, t1, g1, g2, g3⟩ := h
  rcases g1.2 with ⟨h, _⟩ | ⟨g', cap', cur, hv, _, hg, hle, hmx, hsz, htk⟩
  · cases h
  · cases hv
    refine ⟨P1, P2, cs.take (k0 * e.n), t1, ⟨?_, .inr ⟨g, cap, cur, ?_, Nat.zero_le _, hg, ?_, hmx, hsz, ?_⟩⟩, fun k hk => g2 k (by simpa [Value.ownBlock] using hk), g3.take k0⟩
    · have := Nat.mul_le_mul_right e.n hk
      rw [List.length_take, g1.1, List.length_take, Nat.min_eq_left this, Nat.min_eq_left hk]
    · simp [Nat.min_eq_left hk]
    · simp; omega
    · have := Nat.mul_le_mul_right e.n hk
      rw [← htk, List.take_take, List.length_take, Nat.min_eq_left hk, Nat.min_eq_left this]

/-! ### calls that keep what is there -/
inductive Reads (L : List A) : List A → Prop
  | nil : Reads L []
  | cons {a : A} {l : List A} (hd : a.Dup) (hh : Has L a) (t : Reads L l) : Reads L (a :: l)
theorem Reads.stars {Lp : List A} (h : Reads L Lp) {w : World} {O : Perm} (hs : Stars L w O) : Stars Lp w fun b => min (O b) 1 := by
  induction h with
  | nil => trivial
  | cons hd hh _ ih =>
    exact ⟨fun b => min (O b) 1, fun b => min (O b) 1, ⟨fun _ => Nat.le_refl _, fun _ => Nat.le_refl _, fun b hb => absurd (Nat.le_trans hb (Nat.min_le_right _ _)) (by omega), fun b hb => absurd (Nat.le_trans hb (Nat.min_le_right _ _)) (by omega)⟩, hd w O (hh w O hs), ih⟩
def A.Sep (a : A) : Prop := ∀ w O, a.h w O → a.h w fun b => if 2 ≤ O b then O b else 0
inductive Seps : List A → Prop
  | nil : Seps []
  | cons {a : A} {l : List A} (h : a.Sep) (t : Seps l) : Seps (a :: l)
theorem Seps.stars {l : List A} (h : Seps l) : ∀ {w : World} {O : Perm}, Stars l w O → Stars l w fun b => if 2 ≤ O b then O b else 0 := by
  induction h with
  | nil => exact fun _ => trivial
  | cons hd _ ih =>
    intro w O ⟨O1, O2, s, h1, h2⟩
    refine ⟨fun b => if 2 ≤ O1 b then O1 b else 0, fun b => if 2 ≤ O2 b then O2 b else 0, ⟨fun b => ?_, fun b => ?_, fun b hb => ?_, fun b hb => ?_⟩, hd w O1 h1, ih h2⟩ <;> try simp only at *
    · have := s.l b; split <;> split <;> omega
    · have := s.r b; split <;> split <;> omega
    · split at hb
      · have := s.lr b hb; simp [this]
      · omega
    · split at hb
      · have := s.rl b hb; simp [this]
      · omega
/-- Behind a call that only reads: what it hands out lies beside all that was there. -/
theorem keep_frame {w w' : World} {O O' : Perm} {l : List A} (hdom : ∀ b, O b ≠ 0 → b < w.heap.size) (hs : Stars L w O) (hr : Rel w (fun b => min (O b) 1) w' O') (hl : Stars l w' O') (hsep : Seps l) :
    ∃ P, Stars (l ++ L) w' P ∧ Rel w O w' P := by
  have hl' := hsep.stars hl
  have hz : ∀ b, b < w.heap.size → ¬ 2 ≤ O' b := fun b hb h => by
    have := hr.perm b hb; have := Nat.min_le_right (O b) 1; omega
  refine ⟨fun b => max (if 2 ≤ O' b then O' b else 0) (O b), Stars.app ⟨fun b => Nat.le_max_left _ _, fun b => Nat.le_max_right _ _, fun b hb => ?_, fun b hb => ?_⟩ hl' (hs.loc fun b hb => hr.old b (hdom b hb) ?_), ⟨hr.os, hr.tape, hr.output, hr.size, fun b hb _ => hr.old b hb ?_, fun b hb => ?_, fun b hb => ?_⟩⟩
  · split at hb
    · rename_i h
      rcases Nat.eq_zero_or_pos (O b) with h0 | h0
      · exact h0
      · exact absurd h (hz b (hdom b (by omega)))
    · omega
  · show (if _ then _ else _) = 0
    rw [if_neg (hz b (hdom b (by omega)))]
  · exact Nat.lt_of_le_of_lt (Nat.min_le_right _ _) (by omega)
  · exact Nat.lt_of_le_of_lt (Nat.min_le_right _ _) (by omega)
  · show max _ _ ≤ _
    rw [if_neg (hz b hb)]; omega
  · have hb' : max (if 2 ≤ O' b then O' b else 0) (O b) ≠ 0 := hb
    by_cases h : 2 ≤ O' b
    · exact hr.dom b (by omega)
    · rw [if_neg h] at hb'
      have := hdom b (by omega); have := hr.size; omega
theorem s_call_keep {γ : Type} {ret : γ → Value} {pu : γ → Prop} {L' : γ → List A} {f : Operand} {g : FuncId} {first cap : List Value} {xs : List Operand} {args vs : List Value} {ts : Array TypeId} {Lp : List A}
    (hc : Callable X.P g) (spec : Con X.P g args Lp ret pu L')
    (hf : env.eval f = some (.func (.func g) first.toArray cap.toArray)) (hx : evalAll env xs = some vs) (hv : args = first ++ vs ++ cap) (hd : d < X.fn.ntmps) (hp : Reads L Lp) (hsep : ∀ g, Seps (L' g))
    (k : ∀ g, pu g → Kont X ((d, ret g) :: env) (L' g ++ L) K) :
    StepK X kk ⟨some d, .call ⟨.value f, xs.toArray, ts⟩, T, pos, af, none⟩ env L K := by
  intro a w O ha hs hr
  have hrun : (execOp a.eval ⟨some d, .call ⟨.value f, xs.toArray, ts⟩, T, pos, af, none⟩).run X.P w = .ok (.enter g args.toArray) w := by
    have h1 := ha.all hx
    have hargs : first.toArray ++ (xs.map a.eval).toArray ++ cap.toArray = args.toArray := by rw [h1, hv]; simp
    simp only [execOp, resolve, ha.eval hf, Deferred.ofValue, pure_bind, invoke, List.map_toArray]
    rw [hargs]
    exact hc _ _
  simp only [Oper.wp, hrun, Oper.upon]
  refine (spec w _ (hp.stars hs) (fun b hb => hr.dom b (by intro h; rw [h] at hb; exact hb rfl))).mono ?_
  rintro e w' ⟨g, O', rfl, hpu, hL, hrel⟩
  obtain ⟨P, hP, hR⟩ := keep_frame hr.dom hs hrel hL (hsep g)
  exact k g hpu _ w' P (ha.put hd _) hP (hr.trans hR)
theorem s_callf_keep {γ : Type} {ret : γ → Value} {pu : γ → Prop} {L' : γ → List A} {g : FuncId} {xs : List Operand} {args : List Value} {ts : Array TypeId} {Lp : List A}
    (hc : Callable X.P g) (spec : Con X.P g args Lp ret pu L') (hx : evalAll env xs = some args) (hd : d < X.fn.ntmps) (hp : Reads L Lp) (hsep : ∀ g, Seps (L' g))
    (k : ∀ g, pu g → Kont X ((d, ret g) :: env) (L' g ++ L) K) :
    StepK X kk ⟨some d, .call ⟨.value (.func g), xs.toArray, ts⟩, T, pos, af, none⟩ env L K :=
  s_call_keep hc spec (first := []) (cap := []) rfl hx (by simp) hd hp hsep k
theorem q_call_keep {γ : Type} {ret : γ → Value} {pu : γ → Prop} {f : Operand} {g : FuncId} {first cap : List Value} {xs : List Operand} {args vs : List Value} {ts : Array TypeId} {Lp : List A} {v : Value}
    (hc : Callable X.P g) (spec : Con X.P g args Lp ret pu fun _ => []) (hf : env.eval f = some (.func (.func g) first.toArray cap.toArray)) (hv : ∀ g, pu g → ret g = v) (hx : evalAll env xs = some vs) (ha : args = first ++ vs ++ cap) (hd : d < X.fn.ntmps) (hp : Reads L Lp)
    (k : Qops X ops rest kk ((d, v) :: env) L) :
    Qops X ops (⟨some d, .call ⟨.value f, xs.toArray, ts⟩, T, pos, af, none⟩ :: rest) kk env L := by
  intro a hac
  simp only [wpQuiet, Region.wanted, if_true]
  refine ⟨v, fun w ⟨O, hs, hr⟩ => ?_, k _ (hac.put hd v)⟩
  have hrun : (execOp a.eval ⟨some d, .call ⟨.value f, xs.toArray, ts⟩, T, pos, af, none⟩).run X.P w = .ok (.enter g args.toArray) w := by
    have h1 := hac.all hx
    have hargs : first.toArray ++ (xs.map a.eval).toArray ++ cap.toArray = args.toArray := by rw [h1, ha]; simp
    simp only [execOp, resolve, hac.eval hf, Deferred.ofValue, pure_bind, invoke, List.map_toArray]
    rw [hargs]
    exact hc _ _
  simp only [Oper.quietAt, hrun, Oper.quietUpon, true_and]
  refine (spec w _ (hp.stars hs) (fun b hb => hr.dom b (by intro h; rw [h] at hb; exact hb rfl))).mono ?_
  rintro e w' ⟨g, O', rfl, hpu, hL, hrel⟩
  obtain ⟨P, hP, hR⟩ := keep_frame (l := []) hr.dom hs hrel hL Seps.nil
  exact ⟨by rw [hv g hpu], P, hP, hr.trans hR⟩
end

/-! ### what may be read, what lies apart -/
theorem Pu.isDup (p : Prop) : (Pu p).Dup := fun _ _ h => h
/-- An encoding that leads nowhere. -/
def Enc.Pure {α : Type} (e : Enc α) : Prop := ∀ w O w' O' cs x, e.rd w O cs x → e.rd w' O' cs x
theorem eInt_pure (k : IntKind) : (eInt k).Pure := fun _ _ _ _ _ _ h => h
theorem eBool_pure : eBool.Pure := fun _ _ _ _ _ _ h => h
theorem eStr_pure : eStr.Pure := fun _ _ _ _ _ _ h => h
theorem eMap_pure {α β : Type} {g : α → β} {e : Enc β} (h : e.Pure) : (eMap g e).Pure := fun _ _ _ _ _ _ k => h _ _ _ _ _ _ k
theorem eByte_pure : eByte.Pure := eMap_pure (eInt_pure _)
theorem ePair_pure {α β : Type} {e : Enc α} {f : Enc β} (h : e.Pure) (k : f.Pure) : (ePair e f).Pure := fun _ _ _ _ _ _ ⟨c1, c2, h0, h1, h2⟩ => ⟨c1, c2, h0, h _ _ _ _ _ _ h1, k _ _ _ _ _ _ h2⟩
/-- A cell, as it is. -/
def eRaw : Enc Value where
  n := 1
  rd := fun _ _ cs x => cs = [x] ∧ x.oneCell' = true
  len := fun h => by rw [h.1]; rfl
  one := fun h u hu => by rw [h.1] at hu; simp at hu; rw [hu]; exact h.2
  mono := fun h _ => h
  loc := fun h _ => h
  dup := fun h => h
theorem eRaw_pure : eRaw.Pure := fun _ _ _ _ _ _ h => h
theorem rows_pure {α : Type} {e : Enc α} (he : e.Pure) {w w' : World} {O O' : Perm} : ∀ {cs : List Value} {xs : List α}, Rows e w O cs xs → Rows e w' O' cs xs
  | _, [], h => h
  | _, _ :: _, ⟨c1, c2, h0, h1, h2⟩ => ⟨c1, c2, h0, he _ _ _ _ _ _ h1, rows_pure he h2⟩
theorem Own.sep {α : Type} {e : Enc α} (he : e.Pure) {T : TypeId} {v : Value} {xs : List α} : (Own e T v xs).Sep := by
  rintro w O ⟨O1, O2, cs, s, h1, h2, h3⟩
  refine ⟨fun b => if 2 ≤ O1 b then O1 b else 0, fun _ => 0, cs, ⟨fun b => ?_, fun _ => Nat.zero_le _, fun _ _ => rfl, fun _ h => by omega⟩, h1, fun k hk => ?_, rows_pure he h3⟩
  · have := s.l b; show (if _ then _ else _) ≤ (if _ then _ else _); split <;> split <;> omega
  · have := h2 k hk; show 2 ≤ (if _ then _ else _); rw [if_pos this]; exact this
theorem Blk.sep {b : Nat} {T : TypeId} {cs : List Value} : (Blk b T cs).Sep := fun w O ⟨h1, h2⟩ => ⟨by show 2 ≤ (if _ then _ else _); rw [if_pos h1]; exact h1, h2⟩
theorem ObjA.sep {b : Nat} {o : Obj} : (ObjA b o).Sep := fun w O ⟨h1, h2⟩ => ⟨by show 2 ≤ (if _ then _ else _); rw [if_pos h1]; exact h1, h2⟩
theorem Pu.sep (p : Prop) : (Pu p).Sep := fun _ _ h => h
theorem MapA.sep {κ : Type} [DecidableEq κ] {ke : KeyEnc κ} {b : Nat} {m : List (κ × Value)} : (MapA ke b m).Sep := fun w O ⟨h1, h2⟩ => ⟨by show 2 ≤ (if _ then _ else _); rw [if_pos h1]; exact h1, h2⟩
theorem ExA.sep {γ : Type} {f : γ → A} (h : ∀ g, (f g).Sep) : (ExA f).Sep := fun w O ⟨g, k⟩ => ⟨g, h g w O k⟩
theorem AllA.sep {l : List A} (h : Seps l) : (AllA l).Sep := fun w O k => h.stars k

/-! ### maps that may be nil -/
section
variable {κ : Type} [DecidableEq κ] (ke : KeyEnc κ)
def MapO (o : Option Nat) (m : List (κ × Value)) : A := match o with
  | none => Pu (m = [])
  | some b => MapA ke b m
variable {K : Act → World → Prop} {X : Cx} {kk : List Item} {env : Env} {L L1 : List A} {d : Nat} {T : TypeId} {pos : String} {af : Array Edge} {x y : Operand}
theorem v_lookupO {t kt et : TypeId} {o : Option Nat} {m : List (κ × Value)} {k : κ} {z : Value} {n nb : Nat} (hu : X.P.underlying t = some (.map kt et)) (hk : X.P.underlying kt = some ke.desc) (hz : TI X.P et z n nb)
    (hx : env.eval x = some (.map o)) (hy : env.eval y = some (ke.val k)) (hm : Has L (MapO ke o m)) : Val X env L (.lookup t x y false) T ((look m k).getD z) := by
  cases o with
  | some b => exact v_lookup ke hu hk hz hx hy hm
  | none =>
    intro _ _ _ _ a w O ha hs
    have h0 : m = [] := hm w O hs
    subst h0
    obtain ⟨ti, hi, hz0, _⟩ := hz
    have hzero : (zeroValue et).run X.P w = .ok z w := by simp [zeroValue, typeInfo, hi, hz0]
    have hchk : (Instr.checkKey true 10000 kt (ke.val k)).run X.P w = .ok () w := ke.chk X.P w 9999 true kt k hk
    have hfind : (Instr.findKey kt (ke.val k) []).run X.P w = .ok none w := by simp [Instr.findKey, run_underlying hk, Instr.findNow]
    have hl : (Instr.lookup t (.map none) (ke.val k) false).run X.P w = .ok z w := by
      simp [Instr.lookup, run_underlying hu, hzero, hchk, hfind]
    simp [execOp, ha.eval hx, ha.eval hy, hl, look_nil]
/-- v, is := m[k] -/
theorem v_lookupO2 {t kt et : TypeId} {o : Option Nat} {m : List (κ × Value)} {k : κ} {z : Value} {n nb : Nat} (hu : X.P.underlying t = some (.map kt et)) (hk : X.P.underlying kt = some ke.desc) (hz : TI X.P et z n nb)
    (hx : env.eval x = some (.map o)) (hy : env.eval y = some (ke.val k)) (hm : Has L (MapO ke o m)) : Val X env L (.lookup t x y true) T (.tuple #[(look m k).getD z, .bool (look m k).isSome]) := by
  intro _ _ _ _ a w O ha hs
  obtain ⟨ti, hi, hz0, _⟩ := hz
  have hzero : (zeroValue et).run X.P w = .ok z w := by simp [zeroValue, typeInfo, hi, hz0]
  cases o with
  | none =>
    have h0 : m = [] := hm w O hs
    subst h0
    have hchk : (Instr.checkKey true 10000 kt (ke.val k)).run X.P w = .ok () w := ke.chk X.P w 9999 true kt k hk
    have hfind : (Instr.findKey kt (ke.val k) []).run X.P w = .ok none w := by simp [Instr.findKey, run_underlying hk, Instr.findNow]
    have hl : (Instr.lookup t (.map none) (ke.val k) true).run X.P w = .ok (.tuple #[z, .bool false]) w := by
      simp [Instr.lookup, run_underlying hu, hzero, hchk, hfind]
    simp [execOp, ha.eval hx, ha.eval hy, hl, look_nil]
  | some b =>
    obtain ⟨_, es, clock, hh, he, _⟩ := (show (MapA ke b m).h w O from hm w O hs)
    obtain ⟨r, g1, g2, _⟩ := findNow_of ke (k := k) 0 he
    have hget : (getObj b).run X.P w = .ok (.map es clock) w := by simp [getObj, Sem.run, hh]
    have hfind : (Instr.findKey kt (ke.val k) es.toList).run X.P w = .ok r w := by simp [Instr.findKey, run_underlying hk, g1]
    have hchk : (Instr.checkKey es.isEmpty 10000 kt (ke.val k)).run X.P w = .ok () w := ke.chk X.P w 9999 es.isEmpty kt k hk
    have hl : (Instr.lookup t (.map (some b)) (ke.val k) true).run X.P w = .ok (.tuple #[(look m k).getD z, .bool (look m k).isSome]) w := by
      cases r with
      | none => simp [Instr.lookup, run_underlying hu, hget, hchk, hfind, ← g2, hzero]
      | some p => obtain ⟨i, v⟩ := p; simp [Instr.lookup, run_underlying hu, hget, hchk, hfind, ← g2]
    simp [execOp, ha.eval hx, ha.eval hy, hl]
theorem v_len_mapO {t kt et : TypeId} {o : Option Nat} {m : List (κ × Value)} (hu : X.P.underlying t = some (.map kt et)) (hx : env.eval x = some (.map o)) (hm : Has L (MapO ke o m)) : Val X env L (.call ⟨.builtin .len, #[x], #[t]⟩) T (.int .i64 m.length) := by
  cases o with
  | some b => exact v_len_map ke hu hx hm
  | none =>
    intro _ _ _ _ a w O ha hs
    have h0 : m = [] := hm w O hs
    subst h0
    simp [execOp, resolve, invoke, builtin, Builtin.len_, ha.eval hx, run_underlying hu, goInt]
theorem s_deleteO {t kt et : TypeId} {o : Option Nat} {m : List (κ × Value)} {k : κ} {ts : Array TypeId} (hts : ts[0]? = some t) (hu : X.P.underlying t = some (.map kt et)) (hk : X.P.underlying kt = some ke.desc)
    (hx : env.eval x = some (.map o)) (hy : env.eval y = some (ke.val k)) (hp : Pick (MapO ke o m) L L1) (kk' : Kont X env (MapO ke o (del m k) :: L1) K) :
    StepK X kk ⟨none, .call ⟨.builtin .delete, #[x, y], ts⟩, T, pos, af, none⟩ env L K := by
  cases o with
  | some b => exact s_delete ke hts hu hk hx hy hp kk'
  | none =>
    refine s_main0 (γ := Unit) (V := fun _ => .tuple #[]) (pu := fun _ => True) (L' := fun _ => MapO ke none (del m k) :: L1) ?_ (fun _ _ => kk')
    intro a w O ha hst hdom
    obtain ⟨O1, O2, s, h0, hs2⟩ := hp w O hst
    have h0' : m = [] := h0
    subst h0'
    have hchk : (Instr.checkKey true 10000 kt (ke.val k)).run X.P w = .ok () w := ke.chk X.P w 9999 true kt k hk
    have hrun : (Builtin.delete_ ts T #[.map none, ke.val k]).run X.P w = .ok (.tuple #[]) w := by
      simp [Builtin.delete_, hts, run_underlying hu, hchk]
    exact ⟨(), w, O, by simp [execOp, resolve, invoke, builtin, ha.eval hx, ha.eval hy, hrun], trivial, ⟨O1, O2, s, rfl, hs2⟩, Rel.refl hdom⟩
/-- A map that may be nil and is being gone through. -/
def MapItO (it : Nat) (o : Option Nat) (m : List (κ × Value)) (pre : List κ) : A := match o with
  | none => AllA [ObjA it (.mapIter none 0 #[] 0), Pu (m = [] ∧ pre = [])]
  | some b => AllA [Pu (it ≠ b), MapIt ke it b m pre]
theorem s_range_mapO {t kt et : TypeId} {o : Option Nat} {m : List (κ × Value)} (hu : X.P.underlying t = some (.map kt et)) (hx : env.eval x = some (.map o)) (hd : d < X.fn.ntmps) (hp : Pick (MapO ke o m) L L1)
    (k : ∀ it, Kont X ((d, .pointer (some ⟨it, 0, none⟩)) :: env) (MapItO ke it o m [] :: L1) K) : StepK X kk ⟨some d, .range t x, T, pos, af, none⟩ env L K := by
  cases o with
  | some b =>
    refine s_range_map ke hu hx hd hp fun it hit a w O ha hs hr => k it a w O ha ?_ hr
    refine Ent.head (fun w O h => ?_) w O hs
    exact ⟨fun _ => 0, O, ⟨fun _ => Nat.zero_le _, fun _ => Nat.le_refl _, fun _ h => by omega, fun _ _ => rfl⟩, hit, O, fun _ => 0, ⟨fun _ => Nat.le_refl _, fun _ => Nat.zero_le _, fun _ _ => rfl, fun _ h => by omega⟩, h, trivial⟩
  | none =>
    refine s_main (γ := Nat) (V := fun it => .pointer (some ⟨it, 0, none⟩)) (pu := fun _ => True) (L' := fun it => MapItO ke it none m [] :: L1) ?_ hd (fun it _ => k it)
    intro a w O ha hst hdom
    obtain ⟨O1, O2, s, h0, hs2⟩ := hp w O hst
    have h0' : m = [] := h0
    have hrun : (Instr.range t (.map none)).run X.P w = .ok (.pointer (some ⟨w.heap.size, 0, none⟩)) (w.alloc (.mapIter none 0 #[] 0)) := by
      simp [Instr.range, run_underlying hu]
    refine ⟨w.heap.size, w.alloc (.mapIter none 0 #[] 0), fresh w O, by simp [execOp, ha.eval hx, hrun], trivial, ?_, rel_alloc _ hdom⟩
    refine stars_alloc _ hdom (hs2.mono s.r) ?_
    refine ⟨_, fun _ => 0, ⟨fun _ => Nat.le_refl _, fun _ => Nat.zero_le _, fun _ _ => rfl, fun _ h => by omega⟩, ⟨by simp, heap_alloc w _⟩, fun _ => 0, fun _ => 0, ⟨fun _ => Nat.le_refl _, fun _ => Nat.zero_le _, fun _ _ => rfl, fun _ h => by omega⟩, ⟨h0', rfl⟩, trivial⟩
theorem mapItO_some {it b : Nat} {m : List (κ × Value)} {pre : List κ} {w : World} {O : Perm} (h : (MapItO ke it (some b) m pre).h w O) : it ≠ b ∧ (MapIt ke it b m pre).h w O := by
  obtain ⟨O1, O2, s, h1, P1, P2, t, h2, _⟩ := h
  exact ⟨h1, (MapIt ke it b m pre).mono h2 fun c => Nat.le_trans (t.l c) (s.r c)⟩
theorem mapItO_mk {it b : Nat} {m : List (κ × Value)} {pre : List κ} {w : World} {O : Perm} (hne : it ≠ b) (h : (MapIt ke it b m pre).h w O) : (MapItO ke it (some b) m pre).h w O :=
  ⟨fun _ => 0, O, ⟨fun _ => Nat.zero_le _, fun _ => Nat.le_refl _, fun _ h => by omega, fun _ _ => rfl⟩, hne, O, fun _ => 0, ⟨fun _ => Nat.le_refl _, fun _ => Nat.zero_le _, fun _ _ => rfl, fun _ h => by omega⟩, h, trivial⟩
theorem v_entryO {it : Nat} {o : Option Nat} {m : List (κ × Value)} {pre : List κ} {k : κ} {v : Value} (hx : env.eval x = some (.pointer (some ⟨it, 0, none⟩))) (hkv : (k, v) ∈ m) (hm : Has L (MapItO ke it o m (pre ++ [k]))) : Val X env L (.entry x) T (.tuple #[ke.val k, v]) := by
  cases o with
  | some b => exact v_entry ke hx hkv (hm.imp fun w O h => (mapItO_some ke h).2)
  | none =>
    intro _ _ _ _ a w O ha hs
    obtain ⟨O1, O2, s, _, P1, P2, t, ⟨h2, _⟩, _⟩ := hm w O hs
    rw [h2] at hkv; cases hkv
theorem s_nextO {it : Nat} {o : Option Nat} {m : List (κ × Value)} {pre : List κ} (hx : env.eval x = some (.pointer (some ⟨it, 0, none⟩))) (hd : d < X.fn.ntmps) (hp : Pick (MapItO ke it o m pre) L L1)
    (kt : ∀ k v, (k, v) ∈ m → k ∉ pre → Kont X ((d, .tuple #[.bool true, ke.val k, v]) :: env) (MapItO ke it o m (pre ++ [k]) :: L1) K)
    (kf : (∀ k ∈ m.map (fun p : κ × Value => p.1), k ∈ pre) → Kont X ((d, .tuple #[.bool false]) :: env) (MapItO ke it o m pre :: L1) K) :
    StepK X kk ⟨some d, .next x false, T, pos, af, none⟩ env L K := by
  cases o with
  | some b =>
    intro a w O ha hst hrel
    have hst' : Stars (MapItO ke it (some b) m pre :: L1) w O := hp w O hst
    obtain ⟨O1, O2, s, h1, h2⟩ := id hst'
    obtain ⟨hne, h1'⟩ := mapItO_some ke h1
    refine s_next ke (L := MapIt ke it b m pre :: L1) hx hne hd Pick.here (fun k v hk hn a w O ha hs hr => kt k v hk hn a w O ha (Ent.head (fun w O h => mapItO_mk ke hne h) w O hs) hr)
      (fun h a w O ha hs hr => kf h a w O ha (Ent.head (fun w O h => mapItO_mk ke hne h) w O hs) hr) a w O ha ⟨O1, O2, s, h1', h2⟩ hrel
  | none =>
    refine s_main (γ := Unit) (V := fun _ => .tuple #[.bool false]) (pu := fun _ => m = []) (L' := fun _ => MapItO ke it none m pre :: L1) ?_ hd (fun _ h => kf (by rw [h]; simp))
    intro a w O ha hst hdom
    obtain ⟨O1, O2, s, h1, hs2⟩ := hp w O hst
    obtain ⟨P1, P2, t, ⟨h2, hh⟩, Q1, Q2, t2, ⟨h3, h4⟩, _⟩ := id h1
    have hrun : (Instr.next (.pointer (some ⟨it, 0, none⟩)) false T).run X.P w = .ok (.tuple #[.bool false]) w := by
      simp [Instr.next, getObj, Sem.run, hh]
    exact ⟨(), w, O, by simp [execOp, ha.eval hx, hrun], h3, ⟨O1, O2, s, h1, hs2⟩, Rel.refl hdom⟩
theorem Pick.map_itO {it : Nat} {o : Option Nat} {m : List (κ × Value)} {pre : List κ} {L : List A} : Pick (MapO ke o m) (MapItO ke it o m pre :: L) L :=
  Pick.of Pick.here fun w O h => by
    cases o with
    | some b =>
      obtain ⟨_, h2⟩ := mapItO_some ke h
      obtain ⟨_, h2, es, clock, _, h3, _, h4, h5, h6, h7, _⟩ := h2
      exact ⟨h2, es, clock, h3, h4, h5, h6, h7⟩
    | none =>
      obtain ⟨P1, P2, t, _, Q1, Q2, t2, ⟨h3, _⟩, _⟩ := h
      exact h3
theorem v_eq_map_nil {xT yT kt et : TypeId} {o : Option Nat} (hu : X.P.underlying xT = some (.map kt et)) (hx : env.eval x = some (.map o)) (hy : env.eval y = some (.map none)) : Val X env L (.binOp .eql xT x y yT) T (.bool o.isNone) :=
  v_eql_any hx hy (fun op => by cases op <;> cases o <;> rfl) (fun op => by cases op <;> rfl) fun w O _ => by
    rw [equal_succ hu, Op.equalIn]
    simp only [Sem.run_bind, run_underlying hu, Result.andThen_ok]
    cases o <;> rfl
theorem v_ne_map_nil {xT yT kt et : TypeId} {o : Option Nat} (hu : X.P.underlying xT = some (.map kt et)) (hx : env.eval x = some (.map o)) (hy : env.eval y = some (.map none)) : Val X env L (.binOp .neq xT x y yT) T (.bool (!o.isNone)) :=
  v_neq_any hx hy (fun op => by cases op <;> cases o <;> rfl) (fun op => by cases op <;> rfl) fun w O _ => by
    rw [equal_succ hu, Op.equalIn]
    simp only [Sem.run_bind, run_underlying hu, Result.andThen_ok]
    cases o <;> rfl
end

/-! ### results in cells -/
theorem results_cell {fn : Func} {t : Nat} {ty : TypeId} {tmps : Array Value} {P : Program} {w : World} {v : Value} {p : Addr} (h : fn.results = #[.cell t ty]) (hv : tmps[t]? = some (.pointer (some p))) (hl : (loadVar ty p).run P w = .ok v w) : (results fn tmps).run P w = .ok v w := by
  have h1 : tmps[t]?.getD undef = .pointer (some p) := by rw [hv]; rfl
  simp [results, h, asAddr, hl, h1]
theorem c_ret_cell {X : Cx} {k : List Item} {env : Env} {L : List A} {t b : Nat} {ty bt : TypeId} {cs : List Value} {z : Value} {nb : Nat} (hf : X.P.funcs[X.f]? = some X.fn) (h : X.fn.results = #[.cell t ty]) (hu : ∃ fs, X.P.underlying ty = some (.struct fs)) (ht : TI X.P ty z cs.length nb)
    (hv : env.look t = some (.pointer (some ⟨b, 0, none⟩))) (hb : Has L (BlkR b bt cs)) (fin : ∀ w O, Stars L w O → X.R (.agg cs.toArray) w O) (hrd : X.rd = none := by rfl) (hdf : X.defs = [] := by rfl) : Cfg X (.code .ret :: k) env L :=
  c_ret_any (fun a w O ha hs _ => by
    obtain ⟨_, fz, hh⟩ := hb w O hs
    obtain ⟨ti, hi, _, hsz, _⟩ := ht
    exact ⟨_, results_cell h (ha.look t _ hv) (run_loadAgg hu hi hsz fun j u hj => by rw [add_off, blk_cell hh]; simpa using hj), fin w O hs⟩) hf hrd hdf fun _ _ _ _ _ hb => steps_ret hb
end Go.SL
namespace Go.SL
open Go
theorem Beside.rd {α : Type} {e : Enc α} {cs : List Value} {z : α} {L : List A} (h : ∀ w O, e.rd w O cs z) : Beside (Rd e cs z) L := Beside.pure fun w => h w _
/-! ### encodings of known cells -/
def PEnc {α : Type} (e : Enc α) (f : α → List Value) : Prop := ∀ w O cs x, e.rd w O cs x → cs = f x
theorem PEnc.int (k : IntKind) : PEnc (eInt k) fun x => [.int k x] := fun _ _ _ _ h => h
theorem PEnc.bool : PEnc eBool fun x => [.bool x] := fun _ _ _ _ h => h
theorem PEnc.str : PEnc eStr fun x => [.string x] := fun _ _ _ _ h => h
theorem PEnc.byte : PEnc eByte fun x => [.int .u8 x.toNat] := fun _ _ _ _ h => h
theorem PEnc.raw : PEnc eRaw fun x => [x] := fun _ _ _ _ h => h.1
theorem PEnc.pair {α β : Type} {e : Enc α} {f : Enc β} {g : α → List Value} {k : β → List Value} (h1 : PEnc e g) (h2 : PEnc f k) : PEnc (ePair e f) fun x => g x.1 ++ k x.2 := fun _ _ _ _ ⟨_, _, h0, a, b⟩ => by rw [h0, h1 _ _ _ _ a, h2 _ _ _ _ b]
theorem PEnc.map {α β : Type} {g : α → β} {e : Enc β} {f : β → List Value} (h : PEnc e f) : PEnc (eMap g e) fun x => f (g x) := fun _ _ _ _ k => h _ _ _ _ k
theorem kInt_sc : ∀ a : Int, (∃ n j, kInt.val a = .int j n) ∨ ∃ s, kInt.val a = .string s := fun a => .inl ⟨a, .i64, rfl⟩
theorem kStr_sc : ∀ a : ByteArray, (∃ n j, kStr.val a = .int j n) ∨ ∃ s, kStr.val a = .string s := fun a => .inr ⟨a, rfl⟩
section
variable {K : Act → World → Prop} {X : Cx} {kk : List Item} {env : Env} {L L1 : List A} {d : Nat} {T : TypeId} {pos : String} {af : Array Edge} {x y : Operand} {α : Type} {e : Enc α} {v u : Value} {zs : List α} {E : TypeId}
/-- An element that is a struct of known cells. -/
theorem v_load_p {i : Nat} {z : α} {t : TypeId} {f : α → List Value} {z0 : Value} {bt : Nat} (hf : PEnc e f) (ht : ∃ fs, X.P.underlying t = some (.struct fs)) (hE : TI X.P t z0 e.n bt) (hx : env.eval x = some (.pointer (some (elemAddr v i e.n))))
    (he : Elem L e v i z) : Val X env L (.load t x) T (.agg (f z).toArray) := by
  intro _ _ _ _ a w O ha hst
  obtain ⟨c, hs, _, hc⟩ := he w O hst
  obtain ⟨O1, O2, s, h, _⟩ := hs
  have hl : c.length = e.n := e.len h
  have hcf : c = f z := hf _ _ _ _ h
  obtain ⟨ti, hi, _, hsz, _⟩ := hE
  have hca : CellsAt w (elemAddr v i e.n) c := fun j u hj => by
    have := hc j u hj
    have hsp : (elemAddr v i e.n).spot = none := by unfold elemAddr; split <;> rfl
    unfold Addr.add
    split
    · rename_i h0
      subst h0
      cases hh : elemAddr v i e.n
      rw [hh] at hsp this
      simp only at hsp this
      rw [hsp]; simpa using this
    · exact this
  have := run_loadAgg ht hi (by rw [hsz, hl]) hca
  simp [execOp, ha.eval hx, Instr.loadAt, Instr.sureAddr, this, hcf]
/-- A struct in a block of its own is read. -/
theorem v_load_all {t : TypeId} {b n : Nat} {bt : TypeId} {cs : List Value} {z0 : Value} {nb : Nat} (ht : ∃ fs, X.P.underlying t = some (.struct fs)) (hE : TI X.P t z0 n nb) (hx : env.eval x = some (.pointer (some ⟨b, 0, none⟩)))
    (hb : Has L (BlkR b bt cs)) (hn : cs.length = n) : Val X env L (.load t x) T (.agg cs.toArray) := by
  have := v_load_blk_agg (X := X) (env := env) (L := L) (T := T) (off := 0) ht hE hx hb (by omega)
  rw [List.drop_zero, List.take_of_length_le (by omega)] at this
  exact this
/-- A struct in a block of its own is written. -/
theorem s_store_all {t : TypeId} {b n : Nat} {bt : TypeId} {cs new : List Value} {z : Value} {nb : Nat} (ht : TI X.P t z n nb) (hx : env.eval x = some (.pointer (some ⟨b, 0, none⟩))) (hy : env.eval y = some u) (hc : CellsV L u new) (h1 : OneAll L new) (hn : new.length = n)
    (hp : Pick (Blk b bt cs) L L1) (hl : cs.length = n) (k : Kont X env (Blk b bt new :: L1) K) : StepK X kk ⟨none, .store t x y, T, pos, af, none⟩ env L K :=
  s_store_cells ht hx hy hc h1 hn hp (by omega) (by rw [List.take_zero, List.nil_append, List.drop_of_length_le (by omega), List.append_nil]) k
/-- A cell of a block is written. -/
theorem s_store1 {t : TypeId} {b off : Nat} {bt : TypeId} {cs cs' : List Value} {z : Value} {nb : Nat} (ht : TI X.P t z 1 nb) (hx : env.eval x = some (.pointer (some ⟨b, off, none⟩))) (hy : env.eval y = some u) (h1 : OneC L u)
    (hp : Pick (Blk b bt cs) L L1) (hlt : off < cs.length) (hset : cs.set off u = cs') (k : Kont X env (Blk b bt cs' :: L1) K) : StepK X kk ⟨none, .store t x y, T, pos, af, none⟩ env L K := by
  intro a w O ha hst hrel
  exact s_store ht hx hy (h1 w O hst) hp hlt hset k a w O ha hst hrel
theorem v_buildS {t : TypeId} {fs : Array Field} {ps : List (Nat × Operand)} {vs : List (Nat × Value)} {css : List (Nat × List Value)} {cells : List Value} {places : List (Nat × Nat)} {z : Value} {n nb : Nat} (hu : X.P.underlying t = some (.struct fs)) (hz : TI X.P t z n nb)
    (hpl : fs.toList.mapM (fun f => (X.P.info? f.type).map fun i => (f.offset, i.size)) = some places) (hp : evalP env ps = some vs) (hc : PartsC L vs css) (hb : fillC (places.toArray[·]?) z.cells.toList css = some cells) : Val X env L (.build t ps.toArray) T (.agg cells.toArray) := by
  refine v_build hp hc ?_
  obtain ⟨i, hi, hz0, _⟩ := hz
  unfold builtC
  rw [hi, hu]
  simp only [hz0, hpl]
  exact hb
end
end Go.SL
namespace Go.SL
open Go
/-! ### fields of elements -/
/-- Cell j of what reads as x is g x. -/
def FldS {α : Type} (e : Enc α) (j : Nat) (g : α → Value) : Prop := ∀ w O cs x, e.rd w O cs x → cs[j]? = some (g x)
theorem FldS.int (k : IntKind) : FldS (eInt k) 0 (.int k) := fun _ _ _ _ h => by rw [show _ = _ from h]; rfl
theorem FldS.bool : FldS eBool 0 .bool := fun _ _ _ _ h => by rw [show _ = _ from h]; rfl
theorem FldS.str : FldS eStr 0 .string := fun _ _ _ _ h => by rw [show _ = _ from h]; rfl
theorem FldS.raw : FldS eRaw 0 fun x => x := fun _ _ _ _ h => by rw [h.1]; rfl
theorem FldS.map {α β : Type} {f : α → β} {e : Enc β} {j : Nat} {g : β → Value} (h : FldS e j g) : FldS (eMap f e) j fun x => g (f x) := fun _ _ _ _ k => h _ _ _ _ k
theorem FldS.fst {α β : Type} {e : Enc α} {f : Enc β} {j : Nat} {g : α → Value} (h : FldS e j g) : FldS (ePair e f) j fun x => g x.1 := fun w O cs x ⟨c1, c2, h0, h1, h2⟩ => by
  have := h w O c1 x.1 h1
  rw [h0, List.getElem?_append_left (cell_in this), this]
theorem FldS.snd {α β : Type} {e : Enc α} {f : Enc β} {j k : Nat} {g : β → Value} (hj : k = e.n + j) (h : FldS f j g) : FldS (ePair e f) k fun x => g x.2 := fun w O cs x ⟨c1, c2, h0, h1, h2⟩ => by
  have := h w O c2 x.2 h2
  rw [hj, h0, ← e.len h1, List.getElem?_append_right (by omega), Nat.add_sub_cancel_left, this]
/-- Cell j of what reads as x is a slice that reads as g x. -/
def FldL {α β : Type} (e : Enc α) (j : Nat) (e' : Enc β) (g : α → List β) : Prop := ∀ w O cs x, e.rd w O cs x → ∃ v, cs[j]? = some v ∧ SlP e' w O v (g x)
theorem FldL.sl {β : Type} {e' : Enc β} : FldL (eSl e') 0 e' fun x => x := fun _ _ _ _ ⟨v, h, h1⟩ => ⟨v, by rw [h]; rfl, h1⟩
theorem FldL.map {α β γ : Type} {f : α → β} {e : Enc β} {e' : Enc γ} {j : Nat} {g : β → List γ} (h : FldL e j e' g) : FldL (eMap f e) j e' fun x => g (f x) := fun _ _ _ _ k => h _ _ _ _ k
theorem FldL.fst {α β γ : Type} {e : Enc α} {f : Enc β} {e' : Enc γ} {j : Nat} {g : α → List γ} (h : FldL e j e' g) : FldL (ePair e f) j e' fun x => g x.1 := fun w O cs x ⟨c1, c2, h0, h1, h2⟩ => by
  obtain ⟨v, hv, hs⟩ := h w O c1 x.1 h1
  exact ⟨v, by rw [h0, List.getElem?_append_left (cell_in hv), hv], hs⟩
theorem FldL.snd {α β γ : Type} {e : Enc α} {f : Enc β} {e' : Enc γ} {j k : Nat} {g : β → List γ} (hj : k = e.n + j) (h : FldL f j e' g) : FldL (ePair e f) k e' fun x => g x.2 := fun w O cs x ⟨c1, c2, h0, h1, h2⟩ => by
  obtain ⟨v, hv, hs⟩ := h w O c2 x.2 h2
  exact ⟨v, by rw [hj, h0, ← e.len h1, List.getElem?_append_right (by omega), Nat.add_sub_cancel_left, hv], hs⟩
section
variable {K : Act → World → Prop} {X : Cx} {ops : Array Oper} {rest : List Oper} {k kk : List Item} {env : Env} {L L1 : List A} {d : Nat} {T : TypeId} {pos : String} {af : Array Edge} {x y : Operand} {α β : Type} {e : Enc α} {e' : Enc β} {v u : Value} {zs : List α} {E : TypeId}
theorem elem_add (v : Value) (i n off : Nat) : (elemAddr v i n).add off = ⟨(elemAddr v i n).block, (elemAddr v i n).off + off, none⟩ := by
  have hsp : (elemAddr v i n).spot = none := by unfold elemAddr; split <;> rfl
  unfold Addr.add
  split
  · rename_i h0
    subst h0
    cases hh : elemAddr v i n
    rw [hh] at hsp; simp only at hsp; rw [hsp]; simp
  · rfl
theorem v_load_fld {i off : Nat} {z : α} {t : TypeId} {g : α → Value} (ht : Lone X.P t) (hx : env.eval x = some (.pointer (some ((elemAddr v i e.n).add off)))) (he : Elem L e v i z) (hf : FldS e off g) : Val X env L (.load t x) T (g z) := by
  intro _ _ _ _ a w O ha hst
  obtain ⟨c, hs, _, hc⟩ := he w O hst
  obtain ⟨O1, O2, s, h, _⟩ := hs
  have hcell := hc off _ (hf _ _ _ _ h)
  rw [elem_add] at hx
  simp [execOp, ha.eval hx, Instr.loadAt, Instr.sureAddr, run_loadLone ht hcell]
/-- A field of an element that is a slice. -/
theorem s_load_fldl {i off : Nat} {z : α} {t : TypeId} {g : α → List β} (ht : Lone X.P t) (hx : env.eval x = some (.pointer (some ((elemAddr v i e.n).add off)))) (hd : d < X.fn.ntmps) (he : Elem L e v i z) (hf : FldL e off e' g)
    (k : ∀ u, Kont X ((d, u) :: env) (Sl e' u (g z) :: L) K) : StepK X kk ⟨some d, .load t x, T, pos, af, none⟩ env L K := by
  refine s_main (γ := Value) (V := fun u => u) (pu := fun _ => True) (L' := fun u => Sl e' u (g z) :: L) ?_ hd (fun u _ => k u)
  intro a w O ha hst hdom
  obtain ⟨c, hs, _, hc⟩ := he w O hst
  obtain ⟨O1, O2, s, h, h2⟩ := hs
  obtain ⟨u, hu, hsl⟩ := hf _ _ _ _ h
  have hcell := hc off u hu
  rw [elem_add] at hx
  exact ⟨u, w, O, by simp [execOp, ha.eval hx, Instr.loadAt, Instr.sureAddr, run_loadLone ht hcell], trivial, ⟨O1, O2, s, hsl, h2⟩, Rel.refl hdom⟩
/-- An element that is read as cells, which read as it. -/
theorem s_load_rd {i : Nat} {z : α} {t : TypeId} {z0 : Value} {bt : Nat} (ht : ∃ fs, X.P.underlying t = some (.struct fs)) (hE : TI X.P t z0 e.n bt) (hx : env.eval x = some (.pointer (some (elemAddr v i e.n)))) (hd : d < X.fn.ntmps)
    (he : Elem L e v i z) (k : ∀ c : List Value, c.length = e.n → Kont X ((d, .agg c.toArray) :: env) (Rd e c z :: L) K) : StepK X kk ⟨some d, .load t x, T, pos, af, none⟩ env L K :=
  s_load_agg ht hE hx hd he fun c a w O ha hs hr => k c (e.len (show e.rd w O c z from Has.here w O hs)) a w O ha hs hr

/-- A cell that may be read. -/
def FldCell (p : Addr) (u : Value) : A where
  h := fun w O => 1 ≤ O p.block ∧ w.cell? p = some u
  mono := fun ⟨h1, h2⟩ hO => ⟨Nat.le_trans h1 (hO _), h2⟩
  loc := fun {w w' O} ⟨h1, h2⟩ hw => ⟨h1, by
    have := hw p.block (by omega)
    obtain ⟨b, off, sp⟩ := p
    simp only [World.cell?] at h2 ⊢
    simp only at this
    rw [this]; exact h2⟩
theorem FldCell.isDup (p : Addr) (u : Value) : (FldCell p u).Dup := fun _ _ ⟨h1, h2⟩ => ⟨by show 1 ≤ min _ 1; omega, h2⟩
theorem open_fldl {i off : Nat} {z : α} {g : α → List β} (hp : Pick (Sl e v zs) L L1) (hf : FldL e off e' g) (hz : zs[i]? = some z) : Ent L ((ExA fun u => AllA [FldCell ((elemAddr v i e.n).add off) u, Sl e' u (g z)]) :: Sl e v zs :: L1) := by
  intro w O hs
  obtain ⟨O1, O2, s, h1, h2⟩ := hp w O hs
  have hd := SlP.dup h1
  obtain ⟨c, hc, hb, hcell⟩ := SlP.elem hd hz
  obtain ⟨u, hu, hsl⟩ := hf _ _ _ _ hc
  refine Lend.pick (L' := L1) Pick.here (b := ExA fun u => AllA [FldCell ((elemAddr v i e.n).add off) u, Sl e' u (g z)]) (fun w0 O0 h0 => ?_) w O ⟨O1, O2, s, h1, h2⟩
  have hd := SlP.dup h0
  obtain ⟨c, hc, hb, hcell⟩ := SlP.elem hd hz
  obtain ⟨u, hu, hsl⟩ := hf _ _ _ _ hc
  have nn : ∀ b, ¬ 2 ≤ min (O0 b) 1 := fun b h => by have := Nat.min_le_right (O0 b) 1; omega
  refine ⟨fun b => min (O0 b) 1, fun b => min (O0 b) 1, ⟨fun b => Nat.min_le_left _ _, fun b => Nat.min_le_left _ _, fun b h => absurd h (nn b), fun b h => absurd h (nn b)⟩, hd, ⟨u, fun b => min (O0 b) 1, fun b => min (O0 b) 1, ⟨fun _ => Nat.le_refl _, fun _ => Nat.le_refl _, fun b h => absurd h (nn b), fun b h => absurd h (nn b)⟩, ?_, fun b => min (O0 b) 1, fun _ => 0, ⟨fun _ => Nat.le_refl _, fun _ => Nat.zero_le _, fun _ _ => rfl, fun _ h => by omega⟩, hsl, trivial⟩, fun b => Nat.min_le_right _ _⟩
  rw [elem_add]
  exact ⟨hb, hcell off u hu⟩
theorem c_open_fldl {i off : Nat} {z : α} {g : α → List β} (hp : Pick (Sl e v zs) L L1) (hz : zs[i]? = some z) (hf : FldL e off e' g) (h : ∀ u, Cfg X k env (FldCell ((elemAddr v i e.n).add off) u :: Sl e' u (g z) :: Sl e v zs :: L1)) : Cfg X k env L := by
  refine c_ent (open_fldl hp hf hz) (c_ex fun u => c_ent ?_ (h u))
  intro w O hs
  exact stars_join hs
theorem v_load_cell {t : TypeId} {p : Addr} (ht : Lone X.P t) (hx : env.eval x = some (.pointer (some p))) (hh : Has L (FldCell p u)) : Val X env L (.load t x) T u := by
  intro _ _ _ _ a w O ha hst
  simp [execOp, ha.eval hx, Instr.loadAt, Instr.sureAddr, run_loadLone ht (hh w O hst).2]

/-- An element whose cells have a known shape. -/
theorem s_load_shape {i : Nat} {z : α} {t : TypeId} {z0 : Value} {bt : Nat} {γ : Type} {cf : γ → List Value} {Lf : γ → List A} (ht : ∃ fs, X.P.underlying t = some (.struct fs)) (hE : TI X.P t z0 e.n bt) (hx : env.eval x = some (.pointer (some (elemAddr v i e.n)))) (hd : d < X.fn.ntmps)
    (he : Elem L e v i z) (ho : ∀ w O c, e.rd w O c z → ∃ g, c = cf g ∧ Stars (Lf g) w O) (k : ∀ g, Kont X ((d, .agg (cf g).toArray) :: env) (Lf g ++ L) K) : StepK X kk ⟨some d, .load t x, T, pos, af, none⟩ env L K := by
  refine s_main (γ := γ) (V := fun g => .agg (cf g).toArray) (pu := fun _ => True) (L' := fun g => Lf g ++ L) ?_ hd (fun u _ => k u)
  intro a w O ha hst hdom
  obtain ⟨c, hs, _, hc⟩ := he w O hst
  obtain ⟨O1, O2, s, h, h2⟩ := hs
  have hl : c.length = e.n := e.len h
  obtain ⟨g, rfl, hg⟩ := ho _ _ _ h
  obtain ⟨ti, hi, _, hsz, _⟩ := hE
  have hca : CellsAt w (elemAddr v i e.n) (cf g) := fun j u hj => by
    have := hc j u hj
    rw [elem_add]
    exact this
  have := run_loadAgg ht hi (by rw [hsz, hl]) hca
  exact ⟨g, w, O, by simp [execOp, ha.eval hx, Instr.loadAt, Instr.sureAddr, this], trivial, Stars.app s hg h2, Rel.refl hdom⟩
theorem beside_of {Lp : List A} {cs : List Value} {z : α} (hp : Picks Lp L L) (h : ∀ w O, Stars Lp w O → e.rd w O cs z) : Beside (Rd e cs z) L := fun w O hs => by
  obtain ⟨O1, O2, s, h1, h2⟩ := hp.split w O hs
  exact ⟨O1, O2, s, h w O1 h1, h2⟩
theorem beside_agg1 {cs : List Value} {z : α} (h : Beside (Rd e cs z) L) : Beside (RowsA e [.agg cs.toArray] [z]) L := fun w O hs => by
  obtain ⟨O1, O2, s, h1, h2⟩ := h w O hs
  have h1' : e.rd w O1 cs z := h1
  refine ⟨O1, O2, s, ⟨⟨cs, [], by simp [Value.cells], h1', rfl⟩, fun v hv => ?_⟩, h2⟩
  rw [List.mem_singleton.1 hv]
  simpa [Value.cells] using e.len h1'

theorem v_fieldAddrC {t ft : TypeId} {fs : Array Field} {i : Nat} {p : Addr} {z : Value} {n bt : Nat} (off : Nat) (hu : X.P.underlying t = some (.struct fs)) (hf : (fs[i]?).map (fun f => (f.offset, f.type)) = some (off, ft)) (ht : TI X.P ft z n bt) (hn : n ≠ 0)
    (hx : env.eval x = some (.pointer (some p))) : Val X env L (.fieldAddr t x i) T (.pointer (some (p.add off))) := by
  cases hfi : fs[i]? with
  | none => rw [hfi] at hf; cases hf
  | some f =>
    rw [hfi] at hf
    simp only [Option.map_some, Option.some.injEq, Prod.mk.injEq] at hf
    rw [← hf.1]
    exact v_fieldAddr hu hfi (by rw [hf.2]; exact ht) hn hx

/-- A guard that was itself passed over. -/
theorem o_offu {j s : Nat} {want : Bool} {d : Nat} {op : Op} {af : Array Edge} (hj : (ops[j]?).bind (·.dst) = some s) (ht : env.look s = some undef) (hd : d < X.fn.ntmps)
    (h : Ops X ops rest kk ((d, undef) :: env) L) : Ops X ops (⟨some d, op, T, pos, af, some (j, want)⟩ :: rest) kk env L := by
  intro a w O ha hs hr
  have hy1 : yielded ops a.tmps j = none := by simp [yielded, hj, ha.look s _ ht, undef]
  have hw : ((none : Option Bool) == some want) = false := rfl
  simp only [wpl, Region.wanted, hy1, hw, Bool.false_eq_true, if_false]
  exact h _ w O (ha.put hd _) hs hr
theorem q_offu {j s : Nat} {want : Bool} {d : Nat} {op : Op} {af : Array Edge} (hj : (ops[j]?).bind (·.dst) = some s) (ht : env.look s = some undef) (hd : d < X.fn.ntmps)
    (h : Qops X ops rest kk ((d, undef) :: env) L) : Qops X ops (⟨some d, op, T, pos, af, some (j, want)⟩ :: rest) kk env L := by
  intro a ha
  have hy1 : yielded ops a.tmps j = none := by simp [yielded, hj, ha.look s _ ht, undef]
  have hw : ((none : Option Bool) == some want) = false := rfl
  simp only [wpQuiet, Region.wanted, hy1, hw, Bool.false_eq_true, if_false]
  exact h _ (ha.put hd _)

theorem Con.post {P : Program} {f : FuncId} {args : List Value} {L : List A} {γ : Type} {ret : γ → Value} {pu : γ → Prop} {L' L'' : γ → List A} (h : Con P f args L ret pu L') (he : ∀ g, Ent (L' g) (L'' g)) : Con P f args L ret pu L'' := fun w O hs hd =>
  (h w O hs hd).mono fun _ _ ⟨g, O', h1, h2, h3, h4⟩ => ⟨g, O', h1, h2, he g _ _ h3, h4⟩
theorem ent_own_sl {T : TypeId} : Ent (Own e T v zs :: L) (Sl e v zs :: L) := Ent.head fun _ _ h => Own.sl h

theorem list_set_mid {β : Type} (l : List β) (a n off : Nat) (u : β) (hoff : off < n) (hl : a + n ≤ l.length) : l.take a ++ ((l.drop a).take n).set off u ++ l.drop (a + n) = l.set (a + off) u := by
  have e1 : l = l.take a ++ ((l.drop a).take n ++ l.drop (a + n)) := by
    rw [← List.drop_drop, List.take_append_drop, List.take_append_drop]
  have h1 : (l.take a).length = a := by simp; omega
  have h2 : ((l.drop a).take n).length = n := by simp; omega
  conv => rhs; rw [e1]
  rw [List.set_append_right _ _ (by omega), h1, Nat.add_sub_cancel_left, List.set_append_left _ _ (by omega), List.append_assoc]
/-- A field of an element of a row of one's own is written. -/
theorem s_store_fld {t : TypeId} {i off : Nat} {z' : α} {Lu : List A} {z0 : Value} {nb : Nat} (ht : TI X.P t z0 1 nb) (hx : env.eval x = some (.pointer (some ((elemAddr v i e.n).add off)))) (hy : env.eval y = some u) (h1 : OneC L u)
    (hp : Pick (Own e E v zs) L L1) (hq : Picks Lu L1 L1) (hi : i < zs.length) (hoff : off < e.n) (hz : ∀ w O c, e.rd w O c (zs[i]'hi) → Stars Lu w O → e.rd w O (c.set off u) z')
    (k : Kont X env (Own e E v (zs.set i z') :: L1) K) : StepK X kk ⟨none, .store t x y, T, pos, af, none⟩ env L K := by
  refine s_skip (γ := Unit) (pu := fun _ => True) (L' := fun _ => Own e E v (zs.set i z') :: L1) ?_ (fun _ _ => k)
  intro a w O ha hst hdom
  obtain ⟨O1, O2, s, hO, hs2⟩ := hp w O hst
  obtain ⟨R1, R2, s2, hu, hL⟩ := hq.split w O2 hs2
  have h1' := h1 w O hst
  obtain ⟨P1, P2, cs, t1, g1, g2, g3⟩ := hO
  obtain ⟨c, hc, hcj⟩ := g3.get (List.getElem?_eq_getElem hi)
  have hcl : c.length = e.n := e.len hc
  have hnew := hz w (fun b => max (P2 b) (R1 b)) c (e.mono hc fun b => Nat.le_max_left _ _) (hu.mono fun b => Nat.le_max_right _ _)
  have hr' : Rows e w (fun b => max (P2 b) (R1 b)) (c.set off u) [z'] := ⟨_, [], by simp, hnew, rfl⟩
  obtain ⟨g, cap, cur, rfl, hg, hfit, P, hP, hrel⟩ := own_put hdom s t1 g1 g2 g3 s2 hr' hL (i := i) (by simp; omega) (by omega)
  have hset : zs.take i ++ [z'] ++ zs.drop (i + 1) = zs.set i z' := by
    rw [List.set_eq_take_append_cons_drop, if_pos hi]; simp
  simp only [List.length_singleton, hset, List.length_set, hcl] at hP hrel hfit
  have hcc : c = (cur.toList.drop (i * e.n)).take e.n := by
    rcases g1.2 with ⟨h, _⟩ | ⟨g', cap', cur', hv, _, hg', hle, hmx, hsz, htk⟩
    · cases h
    · cases hv
      rw [hg] at hg'; cases hg'
      apply List.ext_getElem?
      intro j
      by_cases hj : j < e.n
      · have h2 := hcj j (c[j]'(by omega)) (List.getElem?_eq_getElem (by omega))
        rw [List.getElem?_eq_getElem (show j < c.length by omega), ← h2, ← htk]
        have h3 : i * e.n + j < zs.length * e.n := by
          have := Nat.mul_le_mul_right e.n (show i + 1 ≤ zs.length by omega)
          rw [Nat.add_mul] at this; omega
        rw [List.getElem?_take_of_lt h3, List.getElem?_take_of_lt hj, List.getElem?_drop]
      · rw [List.getElem?_eq_none (by omega), List.getElem?_take_eq_none (by omega)]
  have hmid := list_set_mid cur.toList (i * e.n) e.n off u hoff (by simpa using hfit)
  rw [← hcc] at hmid
  rw [hmid] at hP hrel
  have hrun := run_storeCells_at X.P g (i * e.n + off) E [u] 0 cur w hg (by simp only [List.length_singleton]; omega) (by intro v hv; rw [List.mem_singleton.1 hv]; exact h1')
  have hmid2 : cur.toList.take (i * e.n + off + 0) ++ [u] ++ cur.toList.drop (i * e.n + off + 0 + [u].length) = cur.toList.set (i * e.n + off) u := by
    rw [List.set_eq_take_append_cons_drop, if_pos (by simp; omega)]; simp
  rw [hmid2] at hrun
  refine ⟨(), _, P, ?_, trivial, hP, hrel⟩
  obtain ⟨ti, hti, _, hsz, _⟩ := ht
  rw [elem_add] at hx
  have hea : (elemAddr (.slice (some ⟨g, 0, none⟩) zs.length cap) i e.n).block = g ∧ (elemAddr (.slice (some ⟨g, 0, none⟩) zs.length cap) i e.n).off = i * e.n := by simp [elemAddr]
  rw [hea.1, hea.2] at hx
  have hcu : u.cells = #[u] := cells_one h1'
  simp [execOp, ha.eval hx, ha.eval hy, Instr.storeAt, Instr.sureAddr, storeVar, sizeOf, typeInfo, hti, hsz, hcu, hrun]

/-- append to an empty row. -/
theorem s_append_nil {L2 : List A} {ys : List α} {t : TypeId} {z : Value} {nb sz : Nat} (hu : X.P.underlying t = some (.slice E)) (hE : TI X.P E z sz nb) (hzs : z.cells.size = sz) (hn : 0 < sz)
    (hx : env.eval x = some v) (hy : env.eval y = some u) (hd : d < X.fn.ntmps) (hp : Pick (Own e E v []) L L1) (hq : Pick (Sl e u ys) L1 L2) (hsz0 : e.n = sz) (hb : ys.length * nb ≤ 140737488355328)
    (hb2 : ys.length ≤ maxLen)
    (k : ∀ v', Kont X ((d, v') :: env) (Own e E v' ys :: Sl e u ys :: L2) K) :
    StepK X kk ⟨some d, .call ⟨.builtin .append, #[x, y], #[t, t]⟩, T, pos, af, none⟩ env L K :=
  s_append hu hE hzs hn hx hy hd hp hq hsz0 (by simpa using hb) (by simpa using hb2) k

theorem c_pu {p : Prop} (ha : Has L (Pu p)) (h : p → Cfg X k env L) : Cfg X k env L := c_fact ha (fun _ _ h => h) h
theorem c_swap {a b : A} (h : Cfg X k env (b :: a :: L)) : Cfg X k env (a :: b :: L) := c_ent (Ent.perm (List.Perm.swap _ _ _)) h
theorem c_perm {L' : List A} (hp : L.Perm L') (h : Cfg X k env L') : Cfg X k env L := c_ent (Ent.perm hp) h
theorem Ent.pu {p : Prop} (h : p) : Ent L (Pu p :: L) := Ent.beside fun _ _ _ => h
theorem pu_has {p : Prop} {w : World} {O : Perm} (h : (Pu p).h w O) : p := h

theorem ent_all {l : List A} : Ent (l ++ L) (AllA l :: L) := fun _ _ hs => stars_split hs

theorem beside_pure {a : A} {cs : List Value} {z : α} (he : e.Pure) (hh : Has L a) (h : ∀ w O, a.h w O → e.rd w O cs z) : Beside (Rd e cs z) L := fun w O hs =>
  ⟨fun _ => 0, O, ⟨fun _ => Nat.zero_le _, fun _ => Nat.le_refl _, fun _ h => by omega, fun _ _ => rfl⟩, he _ _ _ _ _ _ (h w O (hh w O hs)), hs⟩

theorem Pick.of_ent {a : A} {az L' : List A} (h : Ent az [a]) (hp : Picks az L L') : Pick a L L' := fun w O hs => by
  obtain ⟨O1, O2, s, h1, h2⟩ := hp.split w O hs
  obtain ⟨P1, P2, t, g1, _⟩ := h w O1 h1
  exact ⟨O1, O2, s, a.mono g1 t.l, h2⟩
theorem c_mk {a : A} {az L' : List A} (h : Ent az [a]) (hp : Picks az L L') (hc : Cfg X k env (a :: L')) : Cfg X k env L := c_ent (Pick.of_ent h hp).ent hc
theorem o_mk {a : A} {az L' : List A} (h : Ent az [a]) (hp : Picks az L L') (hc : Ops X ops rest kk env (a :: L')) : Ops X ops rest kk env L := o_ent (Pick.of_ent h hp).ent hc
theorem stars_mk {a : A} {az L' : List A} {w : World} {O : Perm} (h : Ent az [a]) (hp : Picks az L L') (hs : Stars L w O) : Stars (a :: L') w O := (Pick.of_ent h hp).ent w O hs

theorem all_mk {l : List A} : Ent l [AllA l] := fun w O hs => by
  have := ent_all (l := l) (L := []) w O (by rw [List.append_nil]; exact hs)
  exact this
theorem o_all {As : List A} (h : Ops X ops rest kk env (As ++ L)) : Ops X ops rest kk env (AllA As :: L) := o_ent (fun _ _ hs => stars_join hs) h

/-! ### ways that meet again -/
theorem c_joinb {i : Item} {d : Nat} (b : Bool) (hk : Cfg X k ((d, .bool b) :: env) L) (h : Cfg X k ((d, .bool b) :: env) L → Cfg X (i :: k) env L) : Cfg X (i :: k) env L := h hk
theorem c_joinv {i : Item} {d : Nat} (v : Value) (hk : Cfg X k ((d, v) :: env) L) (h : Cfg X k ((d, v) :: env) L → Cfg X (i :: k) env L) : Cfg X (i :: k) env L := h hk
/-- Where ways meet again: V tells the slots that turn. -/
theorem c_joinR {γ : Type} {i : Item} (rest : Env) (J : γ → Prop) (V : γ → Env) (LL : γ → List A) (hE : Env.Le rest env) (hj : ∀ g, J g → Cfg X k (V g ++ rest) (LL g)) (h : (∀ g, J g → Cfg X k (V g ++ rest) (LL g)) → Cfg X (i :: k) env L) : Cfg X (i :: k) env L := h hj
theorem c_joinR2 {γ : Type} {i j : Item} (rest : Env) (J : γ → Prop) (V : γ → Env) (LL : γ → List A) (hE : Env.Le rest env) (hj : ∀ g, J g → Cfg X k (V g ++ rest) (LL g)) (h : (∀ g, J g → Cfg X k (V g ++ rest) (LL g)) → Cfg X (i :: j :: k) env L) : Cfg X (i :: j :: k) env L := h hj
/-- A loop: V tells the slots that turn; the others stay. -/
theorem c_loopV {c : Code} {γ : Type} (μ : γ → Nat) (J : γ → Prop) (V : γ → Env) (LL : γ → List A) (g : γ) (hJ : J g) (hE : Env.Le (V g ++ env) env) (hL : Ent L (LL g))
    (round : ∀ g, J g → (∀ g', μ g' < μ g → J g' → Cfg X (.inLoop c :: k) (V g' ++ env) (LL g')) → Cfg X (.code c :: .inLoop c :: k) (V g ++ env) (LL g)) : Cfg X (.code (.loop c) :: k) env L :=
  c_loop μ J (fun g => V g ++ env) LL g hJ hE hL round
theorem c_loopR {c : Code} {γ : Type} (rest : Env) (μ : γ → Nat) (J : γ → Prop) (V : γ → Env) (LL : γ → List A) (g : γ) (hJ : J g) (hE : Env.Le (V g ++ rest) env) (hL : Ent L (LL g))
    (round : ∀ g, J g → (∀ g', μ g' < μ g → J g' → Cfg X (.inLoop c :: k) (V g' ++ rest) (LL g')) → Cfg X (.code c :: .inLoop c :: k) (V g ++ rest) (LL g)) : Cfg X (.code (.loop c) :: k) env L :=
  c_loop μ J (fun g => V g ++ rest) LL g hJ hE hL round
theorem c_loopQ {c : Code} {γ : Type} (rest : Env) (μ : γ → Nat) (J : γ → Prop) (V : γ → Env) (g : γ) (hJ : J g) (hE : Env.Le (V g ++ rest) env)
    (round : ∀ g, J g → (∀ g', μ g' < μ g → J g' → Cfg X (.inLoop c :: k) (V g' ++ rest) L) → Cfg X (.code c :: .inLoop c :: k) (V g ++ rest) L) : Cfg X (.code (.loop c) :: k) env L :=
  c_loop μ J (fun g => V g ++ rest) (fun _ => L) g hJ hE (Ent.refl _) round
theorem c_loopS {c : Code} {γ : Type} (μ : γ → Nat) (J : γ → Prop) (V : γ → Env) (g : γ) (hJ : J g) (hE : Env.Le (V g ++ env) env)
    (round : ∀ g, J g → (∀ g', μ g' < μ g → J g' → Cfg X (.inLoop c :: k) (V g' ++ env) L) → Cfg X (.code c :: .inLoop c :: k) (V g ++ env) L) : Cfg X (.code (.loop c) :: k) env L :=
  c_loop μ J (fun g => V g ++ env) (fun _ => L) g hJ hE (Ent.refl _) round
end
end Go.SL
/- Regions that draw their order and write: guards. -/
namespace Go.SL
open Go
section
variable {X : Cx} {ops : Array Oper} {kk : List Item} {env : Env} {L L1 S : List A} {fuel : Nat} {listed : Array Bool}
theorem a_know {s : Nat} {v v' : Value} (ht : env.look s = some v) (e : v = v') (k : Any X ops S fuel listed kk ((s, v') :: env) L) : Any X ops S fuel listed kk env L := by
  intro a w O ha hst hrel
  subst e
  exact k a w O ⟨ha.size, ha.defers, fun u v hu => by
    rcases Env.look_cons hu with ⟨rfl, rfl⟩ | ⟨_, hu⟩
    · exact ha.look _ _ ht
    · exact ha.look _ _ hu⟩ hst hrel
theorem a_take_on (i : Nat) {j s : Nat} {want : Bool} {v : Value} {d : Nat} {op : Op} {T : TypeId} {pos : String} {af : Array Edge} (hi : ops[i]? = some ⟨some d, op, T, pos, af, some (j, want)⟩)
    (hj : (ops[j]?).bind (·.dst) = some s) (ht : env.look s = some (.bool want)) (hs : Region.noSelect ops = true)
    (hf : Region.free .any ops listed i = true) (hr : (Region.ready .any ops listed).contains i = true) (hv : Val X env S op T v) (hS : Ent L S) (hd : d < X.fn.ntmps)
    (k : Any X ops S fuel (listed.setIfInBounds i true) kk ((d, v) :: env) L) : Any X ops S (fuel + 1) listed kk env L := by
  intro a w O ha hst hrel
  have hy1 : yielded ops a.tmps j = some want := by simp [yielded, hj, ha.look s _ ht]
  exact wpAnyH_take hi hs hf hr (fun _ _ _ h => by cases h.1) (.inl ⟨by simp [Region.wanted, hy1], fun w ⟨O, hs'⟩ => hv _ _ _ _ a w O ha hs'⟩) ⟨O, hS w O hst⟩ (k _ w O (ha.put hd v) hst hrel)
theorem a_take_off (i : Nat) {j s : Nat} {t want : Bool} {d : Nat} {op : Op} {T : TypeId} {pos : String} {af : Array Edge} (hi : ops[i]? = some ⟨some d, op, T, pos, af, some (j, want)⟩)
    (hj : (ops[j]?).bind (·.dst) = some s) (ht : env.look s = some (.bool t)) (hne : t = !want) (hs : Region.noSelect ops = true)
    (hf : Region.free .any ops listed i = true) (hr : (Region.ready .any ops listed).contains i = true) (hS : Ent L S) (hd : d < X.fn.ntmps)
    (k : Any X ops S fuel (listed.setIfInBounds i true) kk ((d, undef) :: env) L) : Any X ops S (fuel + 1) listed kk env L := by
  intro a w O ha hst hrel
  have hy1 : yielded ops a.tmps j = some t := by simp [yielded, hj, ha.look s _ ht]
  exact wpAnyH_take hi hs hf hr (fun _ _ _ h => by cases h.1) (.inr ⟨by simp only [Region.wanted, hy1]; subst hne; cases want <;> rfl, rfl⟩) ⟨O, hS w O hst⟩ (k _ w O (ha.put hd undef) hst hrel)
theorem a_one_on (i : Nat) {j s : Nat} {want : Bool} {d : Option Nat} {op : Op} {T : TypeId} {pos : String} {af : Array Edge} (hi : ops[i]? = some ⟨d, op, T, pos, af, some (j, want)⟩)
    (hj : (ops[j]?).bind (·.dst) = some s) (ht : env.look s = some (.bool want)) (hr : Region.ready .any ops listed = [i])
    (h : StepK X kk ⟨d, op, T, pos, af, none⟩ env L fun a w => (∃ O, Stars S w O) ∧ wpAnyH X.P .any ops (Qn X kk) (fun w => ∃ O, Stars S w O) fuel (listed.setIfInBounds i true) a w) : Any X ops S (fuel + 1) listed kk env L := by
  intro a w O ha hst hrel
  have hy1 : yielded ops a.tmps j = some want := by simp [yielded, hj, ha.look s _ ht]
  refine wpAnyH_all hr (by simp) fun q hq => ?_
  obtain rfl : q = i := by simpa using hq
  simp only [wpOp, hi, Region.wanted, hy1, beq_self_eq_true, if_true]
  exact .inl (h a w O ha hst hrel)
end
/-! ### calls that take some and read some -/
theorem mix_frame {w w' : World} {O O1 O2 O' : Perm} {l L1 : List A} (s : Split O O1 O2) (hdom : ∀ b, O b ≠ 0 → b < w.heap.size) (h2 : Stars L1 w O2) (hr : Rel w (fun b => max (O1 b) (min (O2 b) 1)) w' O') (hl : Stars l w' O') (hsep : Seps l) :
    ∃ P, Stars (l ++ L1) w' P ∧ Rel w O w' P := by
  have hl' := hsep.stars hl
  have hd2 : ∀ b, O2 b ≠ 0 → b < w.heap.size := fun b hb => hdom b (by have := s.r b; omega)
  have hz : ∀ b, b < w.heap.size → 2 ≤ O' b → 2 ≤ O1 b ∧ O2 b = 0 ∧ O' b ≤ O1 b := fun b hb h => by
    have h1 : O' b ≤ max (O1 b) (min (O2 b) 1) := hr.perm b hb
    have h3 : 2 ≤ O1 b := by omega
    have h4 := s.lr b h3
    exact ⟨h3, h4, by omega⟩
  have hlow : ∀ b, 1 ≤ O2 b → O1 b < 2 := fun b hb => by
    rcases Nat.lt_or_ge (O1 b) 2 with h | h
    · exact h
    · have := s.lr b h; omega
  refine ⟨fun b => max (if 2 ≤ O' b then O' b else 0) (O2 b), Stars.app ⟨fun b => Nat.le_max_left _ _, fun b => Nat.le_max_right _ _, fun b hb => ?_, fun b hb => ?_⟩ hl' (h2.loc fun b hb => hr.old b (hd2 b (by omega)) ?_), ⟨hr.os, hr.tape, hr.output, hr.size, fun b hb ho => hr.old b hb ?_, fun b hb => ?_, fun b hb => ?_⟩⟩
  · split at hb
    · rename_i h
      rcases Nat.eq_zero_or_pos (O2 b) with h0 | h0
      · exact h0
      · exact (hz b (hd2 b (by omega)) h).2.1
    · omega
  · show (if _ then _ else _) = 0
    rw [if_neg fun h => by
      have := (hz b (hd2 b (by omega)) h).2.1
      omega]
  · have := hlow b (by omega); show max _ _ < 2; omega
  · have := s.l b; show max _ _ < 2; omega
  · show max _ _ ≤ _
    have h5 := s.r b
    split
    · rename_i h
      have := hz b hb h; have := s.l b; omega
    · omega
  · have hb' : max (if 2 ≤ O' b then O' b else 0) (O2 b) ≠ 0 := hb
    by_cases h : 2 ≤ O' b
    · exact hr.dom b (by omega)
    · rw [if_neg h] at hb'
      have := hd2 b (by omega); have := hr.size; omega
section
variable {K : Act → World → Prop} {X : Cx} {kk : List Item} {env : Env} {L L1 : List A} {d : Nat} {T : TypeId} {pos : String} {af : Array Edge}
theorem s_callf_mix {γ : Type} {ret : γ → Value} {pu : γ → Prop} {L' : γ → List A} {g : FuncId} {xs : List Operand} {args : List Value} {ts : Array TypeId} {La : List A} (n : Nat)
    (hc : Callable X.P g) (spec : Con X.P g args La ret pu L') (hx : evalAll env xs = some args) (hd : d < X.fn.ntmps) (hpk : Picks (La.take n) L L1) (hp : Reads L1 (La.drop n)) (hsep : ∀ g, Seps (L' g))
    (k : ∀ g, pu g → Kont X ((d, ret g) :: env) (L' g ++ L1) K) :
    StepK X kk ⟨some d, .call ⟨.value (.func g), xs.toArray, ts⟩, T, pos, af, none⟩ env L K := by
  intro a w O ha hs hr
  have hrun : (execOp a.eval ⟨some d, .call ⟨.value (.func g), xs.toArray, ts⟩, T, pos, af, none⟩).run X.P w = .ok (.enter g args.toArray) w := by
    have h1 := ha.all hx
    have hargs : (#[] : Array Value) ++ (xs.map a.eval).toArray ++ (#[] : Array Value) = args.toArray := by rw [h1]; simp
    have hf : a.eval (.func g) = .func (.func g) #[] #[] := ha.eval (show env.eval (.func g) = some (.func (.func g) #[] #[]) from rfl)
    simp only [execOp, resolve, hf, Deferred.ofValue, pure_bind, invoke, List.map_toArray]
    rw [hargs]
    exact hc _ _
  simp only [Oper.wp, hrun, Oper.upon]
  obtain ⟨O1, O2, s, h1, h2⟩ := hpk.split w O hs
  have hdo : ∀ b, O b ≠ 0 → b < w.heap.size := hr.dom
  have hall : Stars La w fun b => max (O1 b) (min (O2 b) 1) := by
    have := Stars.app (O := fun b => max (O1 b) (min (O2 b) 1)) ⟨fun b => Nat.le_max_left _ _, fun b => Nat.le_max_right _ _, fun b hb => by have := s.lr b hb; show min _ _ = 0; omega, fun b hb => by
      have hb' : 2 ≤ min (O2 b) 1 := hb
      omega⟩ h1 (hp.stars h2)
    rwa [List.take_append_drop] at this
  refine (spec w _ hall (fun b hb => hdo b (by
    have hb' : max (O1 b) (min (O2 b) 1) ≠ 0 := hb
    have := s.l b; have := s.r b; omega))).mono ?_
  rintro e w' ⟨g, O', rfl, hpu, hL, hrel⟩
  obtain ⟨P, hP, hR⟩ := mix_frame s hdo h2 hrel hL (hsep g)
  exact k g hpu _ w' P (ha.put hd _) hP (hr.trans hR)
end
end Go.SL
/- Copies of maps: interfaces that hold a map, the model's own maps.clone. -/
namespace Go.SL
open Go
section
variable {κ : Type} [DecidableEq κ] {ke : KeyEnc κ}
variable {K : Act → World → Prop} {X : Cx} {kk : List Item} {env : Env} {L L1 : List A} {d : Nat} {T : TypeId} {pos : String} {af : Array Edge} {x : Operand}
theorem v_makeIface_map {t kt et : TypeId} {v : Value} (hu : X.P.underlying t = some (.map kt et)) (hx : env.eval x = some v) : Val X env L (.makeInterface t x) T (.iface t v) :=
  fun _ _ _ _ a w O ha _ => by
    simp [execOp, ha.eval hx, Instr.makeInterface, run_underlying hu]
theorem v_typeAssert_map {t xT kt et : TypeId} {v : Value} (hu : X.P.underlying t = some (.map kt et)) (hx : env.eval x = some (.iface t v)) : Val X env L (.typeAssert x xT t false) T v :=
  fun _ _ _ _ a w O ha _ => by
    simp [execOp, ha.eval hx, Instr.typeAssert, run_underlying hu]
theorem s_maps_clone {g : FuncId} {fn : Func} {b : Nat} {t : TypeId} {m : List (κ × Value)} {xs : List Operand} {ts : Array TypeId} (hf : X.P.funcs[g]? = some fn) (hname : (fn.name == "runtime.NumGoroutine") = false) (hb : fn.body.isNone = true) (hn : Extern.findNext fn = none)
    (he : Extern.find fn = some Extern.MapsClone.clone) (hx : evalAll env xs = some [.iface t (.map (some b))]) (hd : d < X.fn.ntmps) (hp : Has L (MapA ke b m))
    (k : ∀ c, Kont X ((d, .iface t (.map (some c))) :: env) (MapA ke c m :: L) K) : StepK X kk ⟨some d, .call ⟨.value (.func g), xs.toArray, ts⟩, T, pos, af, none⟩ env L K := by
  refine s_main (γ := Nat) (V := fun c => .iface t (.map (some c))) (pu := fun _ => True) (L' := fun c => MapA ke c m :: L) ?_ hd (fun c _ => k c)
  intro a w O ha hst hdom
  obtain ⟨h1, es, clock, h2, h3, h4, h5, h6⟩ := hp w O hst
  refine ⟨w.heap.size, w.alloc (.map es clock), fresh w O, ?_, trivial, stars_alloc _ hdom hst ⟨by simp, es, clock, heap_alloc w _, h3, h4, h5, h6⟩, rel_alloc _ hdom⟩
  have hargs : (#[] : Array Value) ++ (xs.map a.eval).toArray ++ (#[] : Array Value) = #[.iface t (.map (some b))] := by rw [ha.all hx]; rfl
  have hf' : a.eval (.func g) = .func (.func g) #[] #[] := ha.eval (show env.eval (.func g) = some (.func (.func g) #[] #[]) from rfl)
  have hobj : (getObj b).run X.P w = .ok (.map es clock) w := Go.MapKept.run_getObj_map h2
  have hcl : (Extern.MapsClone.clone #[.iface t (.map (some b))]).run X.P w = .ok (.iface t (.map (some w.heap.size))) (w.alloc (.map es clock)) := by
    have e : Extern.MapsClone.clone #[.iface t (.map (some b))] = (getObj b >>= fun o => match o with
      | .map entries clock => (newObj (.map entries clock) >>= fun n => pure (.iface t (.map (some n))))
      | _ => stuck "maps.clone: a map expected") := rfl
    rw [e]
    simp [hobj, Result.andThen, go_sem]
  simp only [execOp, resolve, hf', Deferred.ofValue, pure_bind, invoke, List.map_toArray]
  rw [hargs, run_callFunc_extern hf hname hb hn he, hcl]
  rfl
theorem v_buildA {t e : TypeId} {len : Nat} {ps : List (Nat × Operand)} {vs : List (Nat × Value)} {css : List (Nat × List Value)} {cells : List Value} {z ze : Value} {n nb ne nbe : Nat} (hu : X.P.underlying t = some (.array len e)) (hz : TI X.P t z n nb) (he : TI X.P e ze ne nbe)
    (hp : evalP env ps = some vs) (hc : PartsC L vs css) (hb : fillC (fun i => some (i * ne, ne)) z.cells.toList css = some cells) : Val X env L (.build t ps.toArray) T (.agg cells.toArray) := by
  refine v_build hp hc ?_
  obtain ⟨i, hi, hz0, _⟩ := hz
  obtain ⟨ie, hie, _, hse, _⟩ := he
  unfold builtC
  rw [hi, hu]
  simp only [hz0, hie, hse]
  exact hb
theorem v_index_agg {xT e e2 : TypeId} {len len2 : Nat} {K : IntKind} {i : Int} {y : Operand} {cs : List Value} {z : Value} {n nb : Nat} (hu : X.P.underlying xT = some (.array len e)) (he : X.P.underlying e = some (.array len2 e2)) (hz : TI X.P e z n nb)
    (hx : env.eval x = some (.agg cs.toArray)) (hy : env.eval y = some (.int K i)) (hb : 0 ≤ i ∧ i < len) : Val X env L (.index xT x y) T (.agg ((cs.drop (i.toNat * n)).take n).toArray) :=
  fun _ _ _ _ a w O ha _ => by
    obtain ⟨ti, hi, _, hsz, _⟩ := hz
    have hia : (isAgg e).run X.P w = .ok true w := by simp [isAgg, run_underlying he]
    have hex : cs.toArray.extract (i.toNat * n) (i.toNat * n + n) = ((cs.drop (i.toNat * n)).take n).toArray := by
      simp [List.extract_eq_take_drop, List.drop_take]
    simp [execOp, ha.eval hx, ha.eval hy, Instr.index, asIntOf, run_underlying hu, hb.1, hb.2, part, hia, sizeOf, typeInfo, hi, hsz, hex]
theorem v_index_bool {xT e : TypeId} {len : Nat} {K : IntKind} {i : Int} {y : Operand} {cs : List Value} {z : Value} {nb : Nat} (hu : X.P.underlying xT = some (.array len e)) (he : X.P.underlying e = some .bool) (hz : TI X.P e z 1 nb)
    (hx : env.eval x = some (.agg cs.toArray)) (hy : env.eval y = some (.int K i)) (hb : 0 ≤ i ∧ i < len) {v : Value} (hv : cs[i.toNat]? = some v) : Val X env L (.index xT x y) T v :=
  fun _ _ _ _ a w O ha _ => by
    obtain ⟨ti, hi, _, hsz, _⟩ := hz
    have hia : (isAgg e).run X.P w = .ok false w := by simp [isAgg, run_underlying he]
    simp [execOp, ha.eval hx, ha.eval hy, Instr.index, asIntOf, run_underlying hu, hb.1, hb.2, part, hia, sizeOf, typeInfo, hi, hsz, hv]
theorem run_loadAggA {P : Program} {t e : TypeId} {len : Nat} {a : Addr} {w : World} {cs : List Value} {i : TypeInfo} (hu : P.underlying t = some (.array len e)) (hi : P.info? t = some i) (hn : i.size = cs.length) (hc : CellsAt w a cs) :
    (loadVar t a).run P w = .ok (.agg cs.toArray) w := by
  have hia : (isAgg t).run P w = .ok true w := by simp [isAgg, run_underlying hu]
  simp only [loadVar, Sem.run_bind, hia, Result.andThen_ok]
  have := run_loadCells_list (P := P) w a cs hc
  simp [sizeOf, typeInfo, hi, hn, this]
end
theorem c_ret_cellA {X : Cx} {k : List Item} {env : Env} {L : List A} {t b : Nat} {ty bt e : TypeId} {len : Nat} {cs : List Value} {z : Value} {nb : Nat} (hf : X.P.funcs[X.f]? = some X.fn) (h : X.fn.results = #[.cell t ty]) (hu : X.P.underlying ty = some (.array len e)) (ht : TI X.P ty z cs.length nb)
    (hv : env.look t = some (.pointer (some ⟨b, 0, none⟩))) (hb : Has L (BlkR b bt cs)) (fin : ∀ w O, Stars L w O → X.R (.agg cs.toArray) w O) (hrd : X.rd = none := by rfl) (hdf : X.defs = [] := by rfl) : Cfg X (.code .ret :: k) env L :=
  c_ret_any (fun a w O ha hs _ => by
    obtain ⟨_, fz, hh⟩ := hb w O hs
    obtain ⟨ti, hi, _, hsz, _⟩ := ht
    exact ⟨_, results_cell h (ha.look t _ hv) (run_loadAggA hu hi hsz fun j u hj => by rw [add_off, blk_cell hh]; simpa using hj), fin w O hs⟩) hf hrd hdf fun _ _ _ _ _ hb => steps_ret hb
theorem results_ct {fn : Func} {t s : Nat} {ty : TypeId} {tmps : Array Value} {P : Program} {w : World} {v u : Value} {p : Addr} (h : fn.results = #[.cell t ty, .tmp s]) (hv : tmps[t]? = some (.pointer (some p))) (hl : (loadVar ty p).run P w = .ok v w) (hu : tmps[s]? = some u) : (results fn tmps).run P w = .ok (.tuple #[v, u]) w := by
  have h1 : tmps[t]?.getD undef = .pointer (some p) := by rw [hv]; rfl
  have h2 : tmps[s]?.getD undef = u := by rw [hu]; rfl
  simp [results, h, asAddr, hl, h1, h2]
theorem results_ctt {fn : Func} {t s r : Nat} {ty : TypeId} {tmps : Array Value} {P : Program} {w : World} {v u x : Value} {p : Addr} (h : fn.results = #[.cell t ty, .tmp s, .tmp r]) (hv : tmps[t]? = some (.pointer (some p))) (hl : (loadVar ty p).run P w = .ok v w) (hu : tmps[s]? = some u) (hx : tmps[r]? = some x) : (results fn tmps).run P w = .ok (.tuple #[v, u, x]) w := by
  have h1 : tmps[t]?.getD undef = .pointer (some p) := by rw [hv]; rfl
  have h2 : tmps[s]?.getD undef = u := by rw [hu]; rfl
  have h3 : tmps[r]?.getD undef = x := by rw [hx]; rfl
  simp [results, h, asAddr, hl, h1, h2, h3]
theorem c_ret_ct {X : Cx} {k : List Item} {env : Env} {L : List A} {t s b : Nat} {ty bt : TypeId} {cs : List Value} {z u : Value} {nb : Nat} (hf : X.P.funcs[X.f]? = some X.fn) (h : X.fn.results = #[.cell t ty, .tmp s]) (hu : ∃ fs, X.P.underlying ty = some (.struct fs)) (ht : TI X.P ty z cs.length nb)
    (hv : env.look t = some (.pointer (some ⟨b, 0, none⟩))) (hs' : env.look s = some u) (hb : Has L (BlkR b bt cs)) (fin : ∀ w O, Stars L w O → X.R (.tuple #[.agg cs.toArray, u]) w O) (hrd : X.rd = none := by rfl) (hdf : X.defs = [] := by rfl) : Cfg X (.code .ret :: k) env L :=
  c_ret_any (fun a w O ha hs _ => by
    obtain ⟨_, fz, hh⟩ := hb w O hs
    obtain ⟨ti, hi, _, hsz, _⟩ := ht
    exact ⟨_, results_ct h (ha.look t _ hv) (run_loadAgg hu hi hsz fun j u hj => by rw [add_off, blk_cell hh]; simpa using hj) (ha.look s _ hs'), fin w O hs⟩) hf hrd hdf fun _ _ _ _ _ hb => steps_ret hb
theorem c_ret_ctt {X : Cx} {k : List Item} {env : Env} {L : List A} {t s r b : Nat} {ty bt : TypeId} {cs : List Value} {z u x : Value} {nb : Nat} (hf : X.P.funcs[X.f]? = some X.fn) (h : X.fn.results = #[.cell t ty, .tmp s, .tmp r]) (hu : ∃ fs, X.P.underlying ty = some (.struct fs)) (ht : TI X.P ty z cs.length nb)
    (hv : env.look t = some (.pointer (some ⟨b, 0, none⟩))) (hs' : env.look s = some u) (hr' : env.look r = some x) (hb : Has L (BlkR b bt cs)) (fin : ∀ w O, Stars L w O → X.R (.tuple #[.agg cs.toArray, u, x]) w O) (hrd : X.rd = none := by rfl) (hdf : X.defs = [] := by rfl) : Cfg X (.code .ret :: k) env L :=
  c_ret_any (fun a w O ha hs _ => by
    obtain ⟨_, fz, hh⟩ := hb w O hs
    obtain ⟨ti, hi, _, hsz, _⟩ := ht
    exact ⟨_, results_ctt h (ha.look t _ hv) (run_loadAgg hu hi hsz fun j u hj => by rw [add_off, blk_cell hh]; simpa using hj) (ha.look s _ hs') (ha.look r _ hr'), fin w O hs⟩) hf hrd hdf fun _ _ _ _ _ hb => steps_ret hb
end Go.SL
/- Rows opened as blocks and closed again; copy, cap, append of a count of zeros, slices.overlaps of the model. -/
namespace Go.SL
open Go

/-- Values of an encoding that a function writes. -/
def EncF {α : Type} (e : Enc α) (f : α → List Value) : Prop := ∀ w O cs x, e.rd w O cs x ↔ cs = f x
theorem EncF.int (k : IntKind) : EncF (eInt k) (fun n => [.int k n]) := fun _ _ _ _ => Iff.rfl
theorem EncF.str : EncF eStr (fun s => [.string s]) := fun _ _ _ _ => Iff.rfl
theorem EncF.bool : EncF eBool (fun s => [.bool s]) := fun _ _ _ _ => Iff.rfl
theorem EncF.pair {α β : Type} {e : Enc α} {e' : Enc β} {f : α → List Value} {f' : β → List Value} (h : EncF e f) (h' : EncF e' f') : EncF (ePair e e') (fun p => f p.1 ++ f' p.2) := fun w O cs x => by
  constructor
  · rintro ⟨c1, c2, rfl, h1, h2⟩
    rw [(h w O c1 x.1).1 h1, (h' w O c2 x.2).1 h2]
  · intro hc
    exact ⟨f x.1, f' x.2, hc, (h w O _ x.1).2 rfl, (h' w O _ x.2).2 rfl⟩
theorem rows_f {α : Type} {e : Enc α} {f : α → List Value} (he : EncF e f) {w : World} {O : Perm} : ∀ {xs : List α} {cs : List Value}, Rows e w O cs xs ↔ cs = xs.flatMap f
  | [], cs => Iff.rfl
  | x :: xs, cs => by
    constructor
    · rintro ⟨c1, c2, rfl, h1, h2⟩
      rw [List.flatMap_cons, (he w O c1 x).1 h1, (rows_f he).1 h2]
    · intro h
      exact ⟨f x, xs.flatMap f, h, (he w O _ x).2 rfl, (rows_f he).2 rfl⟩
theorem encF_len {α : Type} {e : Enc α} {f : α → List Value} (he : EncF e f) (x : α) : (f x).length = e.n := e.len ((he ⟨#[], default, 0, default, default⟩ (fun _ => 0) _ x).2 rfl)
theorem flat_len {α : Type} {f : α → List Value} {n : Nat} (h : ∀ x, (f x).length = n) : ∀ xs : List α, (xs.flatMap f).length = xs.length * n
  | [] => by simp
  | x :: xs => by rw [List.flatMap_cons, List.length_append, h, flat_len h xs, List.length_cons, Nat.succ_mul, Nat.add_comm]
theorem flat_take {α : Type} {f : α → List Value} {n : Nat} (h : ∀ x, (f x).length = n) : ∀ (xs : List α) (k : Nat), (xs.flatMap f).take (k * n) = (xs.take k).flatMap f
  | [], k => by simp
  | x :: xs, 0 => by simp
  | x :: xs, k + 1 => by
    rw [List.flatMap_cons, List.take_succ_cons, List.flatMap_cons, Nat.succ_mul, Nat.add_comm (k * n) n, ← h x, List.take_length_add_append, h x, flat_take h xs k]
theorem flat_drop {α : Type} {f : α → List Value} {n : Nat} (h : ∀ x, (f x).length = n) : ∀ (xs : List α) (k : Nat), (xs.flatMap f).drop (k * n) = (xs.drop k).flatMap f
  | [], k => by simp
  | x :: xs, 0 => by simp
  | x :: xs, k + 1 => by
    rw [List.flatMap_cons, List.drop_succ_cons, Nat.succ_mul, Nat.add_comm (k * n) n, ← h x, List.drop_length_add_append, h x, flat_drop h xs k]

section
variable {α : Type} {e : Enc α} {f : α → List Value} {T : TypeId} {xs : List α} {X : Cx} {k : List Item} {env : Env} {L : List A}
/-- A row that is there, as its block. -/
theorem own_open {g n cap : Nat} {w : World} {O : Perm} (he : EncF e f) (h : (Own e T (.slice (some ⟨g, 0, none⟩) n cap) xs).h w O) :
    n = xs.length ∧ xs.length ≤ cap ∧ cap ≤ maxLen ∧ ∃ cur : List Value, (Blk g T cur).h w O ∧ cur.length = cap * e.n ∧ cur.take (xs.length * e.n) = xs.flatMap f := by
  obtain ⟨O1, O2, cs, s, h1, h2, h3⟩ := h
  rcases h1.2 with ⟨h0, _⟩ | ⟨g', cap', cur, hv, _, hg, hle, hmx, hcs, htk⟩
  · cases h0
  · cases hv
    have hr := (rows_f he).1 h3
    refine ⟨rfl, hle, hmx, cur.toList, ⟨?_, by simpa using hg⟩, by simpa using hcs, by rw [htk, hr]⟩
    have := h2 g (by simp [Value.ownBlock])
    have := s.l g
    omega
theorem own_close {g cap : Nat} {cur : List Value} {w : World} {O : Perm} (he : EncF e f) (h : (Blk g T cur).h w O) (h1 : xs.length ≤ cap) (h2 : cap ≤ maxLen) (h3 : cur.length = cap * e.n) (h4 : cur.take (xs.length * e.n) = xs.flatMap f) :
    (Own e T (.slice (some ⟨g, 0, none⟩) xs.length cap) xs).h w O := by
  refine ⟨O, fun _ => 0, xs.flatMap f, ⟨fun _ => Nat.le_refl _, fun _ => Nat.zero_le _, fun _ _ => rfl, fun _ h => absurd h (by simp)⟩, ⟨?_, .inr ⟨g, cap, cur.toArray, rfl, Nat.zero_le _, h.2, h1, h2, by simpa using h3, by simpa using h4⟩⟩, fun b hb => ?_, (rows_f he).2 rfl⟩
  · exact flat_len (encF_len he) xs
  · simp only [Value.ownBlock, Option.some.injEq] at hb
    subst hb; exact h.1
theorem c_own_open {g n cap : Nat} (he : EncF e f) (h : ∀ cur : List Value, n = xs.length → xs.length ≤ cap → cap ≤ maxLen → cur.length = cap * e.n → cur.take (xs.length * e.n) = xs.flatMap f → Cfg X k env (Blk g T cur :: L)) :
    Cfg X k env (Own e T (.slice (some ⟨g, 0, none⟩) n cap) xs :: L) := fun a w O ha hs hr => by
  obtain ⟨O1, O2, s, h1, h2⟩ := hs
  obtain ⟨e1, e2, e3, cur, e4, e5, e6⟩ := own_open he h1
  exact h cur e1 e2 e3 e5 e6 a w O ha ⟨O1, O2, s, e4, h2⟩ hr
theorem ent_own_close {g cap : Nat} {cur : List Value} (he : EncF e f) (h1 : xs.length ≤ cap) (h2 : cap ≤ maxLen) (h3 : cur.length = cap * e.n) (h4 : cur.take (xs.length * e.n) = xs.flatMap f) :
    Ent (Blk g T cur :: L) (Own e T (.slice (some ⟨g, 0, none⟩) xs.length cap) xs :: L) := Ent.head fun _ _ h => own_close he h h1 h2 h3 h4
end

/-- Cells that are there. -/
def Cells (L : List A) (a : Addr) (cs : List Value) : Prop := ∀ w O, Stars L w O → ∀ j v, cs[j]? = some v → w.cell? (a.add j) = some v
theorem addr_add (b off j : Nat) : (⟨b, off, none⟩ : Addr).add j = ⟨b, off + j, none⟩ := by unfold Addr.add; split <;> simp_all
theorem Cells.blk {L : List A} {g off : Nat} {T : TypeId} {cur cs : List Value} (h : Has L (BlkR g T cur)) (hc : ∀ j v, cs[j]? = some v → cur[off + j]? = some v) : Cells L ⟨g, off, none⟩ cs := fun w O hs j v hj => by
  rw [addr_add]
  exact has_cell h (hc j v hj) hs
theorem Cells.of {L : List A} {a : Addr} {cs : List Value} {b : A} (h : Has L b) (hb : ∀ w O, b.h w O → ∀ j v, cs[j]? = some v → w.cell? (a.add j) = some v) : Cells L a cs := fun w O hs => hb w O (h w O hs)

section
variable {K : Act → World → Prop} {X : Cx} {kk : List Item} {env : Env} {L L1 : List A} {d : Nat} {T : TypeId} {pos : String} {af : Array Edge} {x y : Operand}
theorem v_cap {t E : TypeId} {a0 : Option Addr} {n c : Nat} (hu : X.P.underlying t = some (.slice E)) (hx : env.eval x = some (.slice a0 n c)) : Val X env L (.call ⟨.builtin .cap, #[x], #[t]⟩) T (.int .i64 c) :=
  fun _ _ _ _ a w O ha hl => by
    simp [execOp, resolve, invoke, builtin, Builtin.cap_, ha.eval hx, run_underlying hu, goInt]
theorem run_copy_cells {P : Program} (w : World) (dT sT ty elem : TypeId) (size : Nat) (g o dLen dCap : Nat) (a : Addr) (sLen sCap : Nat) (cur : Array Value) (t : TypeId) (cs : List Value)
    (hu : P.underlying dT = some (.slice elem)) (hs : (P.info? elem).map (·.size) = some size)
    (hg : w.heap[g]? = some (.cells cur t (0, 0))) (hn : cs.length = Nat.min sLen dLen * size)
    (hsrc : ∀ j v, cs[j]? = some v → w.cell? (a.add j) = some v) (hfit : o + cs.length ≤ cur.size) (h1 : ∀ v ∈ cs, v.oneCell' = true) :
    (Builtin.copy_ #[dT, sT] ty #[.slice (some ⟨g, o, none⟩) dLen dCap, .slice (some a) sLen sCap]).run P w =
      .ok (goInt (Nat.min sLen dLen)) (w.setRow g (cur.toList.take o ++ cs ++ cur.toList.drop (o + cs.length)).toArray) := by
  have hl := run_loadCells_list (P := P) w a cs hsrc
  have hst := run_storeCells_at P g o t cs 0 cur w hg (by simpa using hfit) h1
  cases hq : P.info? elem with
  | none => simp [hq] at hs
  | some i =>
    have hi : i.size = size := by simpa [hq] using hs
    simp [Builtin.copy_, run_underlying hu, Builtin.lenOf, Builtin.firstCells, sizeOf, typeInfo, hq, hi, ← hn, hl, hst]
theorem s_copy {dT sT E bt : TypeId} {z : Value} {sz nb g off dLen dCap : Nat} {a0 : Addr} {sLen sCap : Nat} (m : Nat) (cs : List Value) {cur cur' : List Value} (hu : X.P.underlying dT = some (.slice E)) (hE : TI X.P E z sz nb)
    (hx : env.eval x = some (.slice (some ⟨g, off, none⟩) dLen dCap)) (hy : env.eval y = some (.slice (some a0) sLen sCap)) (hm : m = min sLen dLen) (hsrc : Cells L a0 cs) (hlen : cs.length = m * sz) (h1 : ∀ v ∈ cs, v.oneCell' = true) (hd : d < X.fn.ntmps)
    (hp : Pick (Blk g bt cur) L L1) (hfit : off + cs.length ≤ cur.length) (hset : cur.take off ++ cs ++ cur.drop (off + cs.length) = cur') (k : Kont X ((d, goInt m) :: env) (Blk g bt cur' :: L1) K) :
    StepK X kk ⟨some d, .call ⟨.builtin .copy, #[x, y], #[dT, sT]⟩, T, pos, af, none⟩ env L K := by
  have hm' : m = Nat.min sLen dLen := hm
  refine s_main (γ := Unit) (V := fun _ => goInt m) (pu := fun _ => True) (L' := fun _ => Blk g bt cur' :: L1) ?_ hd (fun _ _ => k)
  intro a w O ha hst hdom
  have hsrc' := hsrc w O hst
  obtain ⟨O1, O2, s, ⟨hb2, hh⟩, hs2⟩ := hp w O hst
  obtain ⟨ti, hi, _, hsz, _⟩ := hE
  have hdom1 : ∀ b, O1 b ≠ 0 → b < w.heap.size := fun b hb => hdom b (by have := s.l b; omega)
  have hrun := run_copy_cells (P := X.P) w dT sT T E sz g off dLen dCap a0 sLen sCap cur.toArray bt cs hu (by rw [hi]; simp [hsz]) hh (by rw [← hm']; exact hlen) hsrc' (by simpa using hfit) h1
  have harr : (cur.toArray.toList.take off ++ cs ++ cur.toArray.toList.drop (off + cs.length)).toArray = cur'.toArray := by rw [← hset]
  rw [harr] at hrun
  obtain ⟨P, hP, hrel⟩ := step_at hdom s hs2 (setRow_rel (arr := cur'.toArray) hb2 hdom1) (L' := [Blk g bt cur']) ⟨O1, fun _ => 0, ⟨fun _ => Nat.le_refl _, fun _ => Nat.zero_le _, fun _ _ => rfl, fun _ h => by omega⟩, ⟨hb2, setRow_heap w g _ _ bt _ hh⟩, trivial⟩
  refine ⟨(), _, P, ?_, trivial, hP, hrel⟩
  simp [execOp, resolve, invoke, builtin, ha.eval hx, ha.eval hy, hrun, hm']
/-- What is appended are zeros, as many as a number says; there is no room. -/
theorem s_append_zeros {t tn E : TypeId} {z : Value} {sz nb m cap c : Nat} {a0 : Addr} (olds : List Value) (hu : X.P.underlying t = some (.slice E)) (hn : X.P.underlying tn = some (.int .i64)) (hE : TI X.P E z sz nb) (hzs : z.cells.size = sz) (hsz : 0 < sz)
    (hx : env.eval x = some (.slice (some a0) m cap)) (hy : env.eval y = some (.int .i64 (c : Nat))) (hsrc : Cells L a0 olds) (hlo : olds.length = m * sz) (h0 : 0 < c) (hg : cap < m + c) (hb : (m + c) * nb ≤ 140737488355328) (hb2 : m + c ≤ maxLen) (hd : d < X.fn.ntmps)
    (k : ∀ (g cap' : Nat) (cur : List Value), m + c ≤ cap' → cap' ≤ maxLen → cur.length = cap' * sz → cur.take (m * sz) = olds → Kont X ((d, .slice (some ⟨g, 0, none⟩) (m + c) cap') :: env) (Blk g E cur :: L) K) :
    StepK X kk ⟨some d, .call ⟨.builtin .append, #[x, y], #[t, tn]⟩, T, pos, af, none⟩ env L K := by
  refine s_main (γ := Nat × Nat × List Value) (V := fun r => .slice (some ⟨r.1, 0, none⟩) (m + c) r.2.1) (pu := fun r => m + c ≤ r.2.1 ∧ r.2.1 ≤ maxLen ∧ r.2.2.length = r.2.1 * sz ∧ r.2.2.take (m * sz) = olds) (L' := fun r => Blk r.1 E r.2.2 :: L) ?_ hd (fun r h => k r.1 r.2.1 r.2.2 h.1 h.2.1 h.2.2.1 h.2.2.2)
  intro a w O ha hst hdom
  have hsrc' := hsrc w O hst
  obtain ⟨ti, hi, hz0, hsz', hbt⟩ := hE
  subst hsz'
  subst hbt
  have hfc : (Builtin.firstCells ti.size m (.slice (some a0) m cap)).run X.P w.drew = .ok olds.toArray w.drew :=
    run_firstCells_some (P := X.P) w.drew ti.size m a0 m cap olds hlo (fun j u hj => (show w.drew.cell? (a0.add j) = w.cell? (a0.add j) from rfl).trans (hsrc' j u hj))
  have hml : m + c ≤ 9223372036854775807 := by simp only [maxLen] at hb2; omega
  have hcb : c * ti.bytes ≤ (m + c) * ti.bytes := Nat.mul_le_mul_right _ (by omega)
  have hrun := Lib.run_append_grow_zeros (P := X.P) w t tn T E ti z .i64 .i64 hu hn hi hz0 (some a0) m cap olds hfc c h0 hsz hg (by omega) (by omega) (growslice_fits hg hb)
  have hge := grownCap_ge w (m + c) cap E
  have hcm : grownCap w (m + c) cap E ≤ maxLen := grownCap_le_maxLen w (m + c) cap E hb2
  generalize hcap : grownCap w (m + c) cap E = cap' at hrun hge hcm
  have hdom' : ∀ b, O b ≠ 0 → b < w.drew.heap.size := hdom
  refine ⟨(w.heap.size, cap', olds ++ (Builtin.zeroCells z.cells c).toList ++ (Builtin.zeroCells z.cells (cap' - (m + c))).toList), w.drew.alloc (.cells (olds.toArray ++ Builtin.zeroCells z.cells c ++ Builtin.zeroCells z.cells (cap' - (m + c))) E), fresh w O, ?_, ⟨hge, hcm, ?_, ?_⟩, ?_, ?_⟩
  rotate_left
  · simp only [List.length_append, Array.length_toList, size_zeroCells, hzs, hlo, ← Nat.add_mul]
    congr 1
    omega
  · simp only [List.append_assoc]
    rw [← hlo]
    exact List.take_left
  · exact stars_alloc (w := w.drew) (.cells (olds.toArray ++ Builtin.zeroCells z.cells c ++ Builtin.zeroCells z.cells (cap' - (m + c))) E) hdom' (draw_stars hst) ⟨by show 2 ≤ if _ then _ else _; rw [if_pos (show w.heap.size = w.drew.heap.size from rfl)]; exact Nat.le_refl _, by
      have := heap_alloc w.drew (.cells (olds.toArray ++ Builtin.zeroCells z.cells c ++ Builtin.zeroCells z.cells (cap' - (m + c))) E)
      have e : (olds ++ (Builtin.zeroCells z.cells c).toList ++ (Builtin.zeroCells z.cells (cap' - (m + c))).toList).toArray = olds.toArray ++ Builtin.zeroCells z.cells c ++ Builtin.zeroCells z.cells (cap' - (m + c)) := by
        apply Array.ext'; simp
      show (w.drew.alloc _).heap[w.drew.heap.size]? = _
      rw [this, e]⟩
  · have := rel_alloc (w := w.drew) (O := O) (.cells (olds.toArray ++ Builtin.zeroCells z.cells c ++ Builtin.zeroCells z.cells (cap' - (m + c))) E) hdom'
    exact ⟨this.os, this.tape, this.output, this.size, this.old, this.perm, this.dom⟩
  · have hruns := hrun
    rw [← ha.eval hx, ← ha.eval hy] at hruns
    simp [execOp, resolve, invoke, builtin, hruns]
/-- The model's slices.overlaps: two rows of two blocks. -/
theorem s_overlaps {gf : FuncId} {fn : Func} {E tR : TypeId} {tS : TypeId} {z : Value} {sz nb : Nat} {ga oa la ca gb ob lb cb : Nat} {ta tb : TypeId} {ca' cb' : List Value} {xs : List Operand} {ts : Array TypeId} (hf : X.P.funcs[gf]? = some fn) (hname : (fn.name == "runtime.NumGoroutine") = false) (hb : fn.body.isNone = true) (hn : Extern.findNext fn = none)
    (he : Extern.find fn = some (Extern.SlicesOverlaps.overlaps #[tS, tS] #[tR])) (hu : X.P.underlying tS = some (.slice E)) (hE : TI X.P E z sz nb)
    (hx : evalAll env xs = some [.slice (some ⟨ga, oa, none⟩) la ca, .slice (some ⟨gb, ob, none⟩) lb cb]) (hd : d < X.fn.ntmps) (hA : Has L (Blk ga ta ca')) (hB : Has L (Blk gb tb cb')) (hne : ∀ w O, Stars L w O → ga ≠ gb) (hc0 : cb' ≠ [])
    (k : Kont X ((d, .bool false) :: env) L K) : StepK X kk ⟨some d, .call ⟨.value (.func gf), xs.toArray, ts⟩, T, pos, af, none⟩ env L K := by
  refine s_main (γ := Unit) (V := fun _ => .bool false) (pu := fun _ => True) (L' := fun _ => L) ?_ hd (fun _ _ => k)
  intro a w O ha hst hdom
  obtain ⟨_, hha⟩ := hA w O hst
  obtain ⟨_, hhb⟩ := hB w O hst
  obtain ⟨ti, hi, _, hsz, _⟩ := hE
  have hrun := Lib.run_overlaps_apart (P := X.P) w tS tR E hu sz (fun w => by simp [sizeOf, typeInfo, hi, hsz]) ⟨ga, oa, none⟩ ⟨gb, ob, none⟩ la ca lb cb (hne w O hst) ta tb ca'.length cb'.length (by simp [World.shape?, hha]) (by simp [World.shape?, hhb]) (by simpa using hc0) (by simp [World.frozen?, hha]) (by simp [World.frozen?, hha])
  refine ⟨(), w, O, ?_, trivial, hst, Rel.refl hdom⟩
  have hargs : (#[] : Array Value) ++ (xs.map a.eval).toArray ++ (#[] : Array Value) = #[.slice (some ⟨ga, oa, none⟩) la ca, .slice (some ⟨gb, ob, none⟩) lb cb] := by rw [ha.all hx]; rfl
  have hf' : a.eval (.func gf) = .func (.func gf) #[] #[] := ha.eval (show env.eval (.func gf) = some (.func (.func gf) #[] #[]) from rfl)
  simp only [execOp, resolve, hf', Deferred.ofValue, pure_bind, invoke, List.map_toArray]
  rw [hargs, run_callFunc_extern hf hname hb hn he, hrun]
  rfl
theorem blk_apart {ga gb : Nat} {ta tb : TypeId} {ca cb : List Value} {L L1 L2 : List A} (h1 : Pick (Blk ga ta ca) L L1) (h2 : Pick (Blk gb tb cb) L1 L2) {w : World} {O : Perm} (hs : Stars L w O) : ga ≠ gb := by
  obtain ⟨O1, O2, s, ⟨a1, _⟩, hs1⟩ := h1 w O hs
  obtain ⟨P1, P2, t, ⟨b1, _⟩, _⟩ := h2 w O2 hs1
  intro e
  subst e
  have := s.lr ga a1
  have := t.l ga
  omega
end
end Go.SL
/- Rows that may begin inside their block; a row that is looked at behind an append; a map that is gone through and updated at keys that it has. -/
namespace Go.SL
open Go

/-- v is a row of one's own, which may begin anywhere in its block. -/
def OwnO {α : Type} (e : Enc α) (T : TypeId) (v : Value) (xs : List α) : A where
  h := fun w O => (v = .slice none 0 0 ∧ xs = []) ∨ ∃ (g off cap : Nat) (cur : List Value) (f : α → List Value), EncF e f ∧ v = .slice (some ⟨g, off, none⟩) xs.length cap ∧ 2 ≤ O g ∧ w.heap[g]? = some (.cells cur.toArray T (0, 0)) ∧ xs.length ≤ cap ∧ cap ≤ maxLen ∧ off + cap * e.n ≤ cur.length ∧ (cur.drop off).take (xs.length * e.n) = xs.flatMap f
  mono := fun h hO => h.imp id fun ⟨g, off, cap, cur, f, he, h1, h2, h3⟩ => ⟨g, off, cap, cur, f, he, h1, Nat.le_trans h2 (hO g), h3⟩
  loc := fun h hw => h.imp id fun ⟨g, off, cap, cur, f, he, h1, h2, h3, h4⟩ => ⟨g, off, cap, cur, f, he, h1, h2, (hw g (by omega)).trans h3, h4⟩
theorem cell_in' {β : Type} {l : List β} {j : Nat} {u : β} (h : l[j]? = some u) : j < l.length := by
  rcases Nat.lt_or_ge j l.length with h' | h'
  · exact h'
  · rw [List.getElem?_eq_none h'] at h; cases h
/-- Both, of the same. -/
def AndA (a b : A) : A := ⟨fun w O => a.h w O ∧ b.h w O, fun h hO => ⟨a.mono h.1 hO, b.mono h.2 hO⟩, fun h hw => ⟨a.loc h.1 hw, b.loc h.2 hw⟩⟩

section
variable {α : Type} {e : Enc α} {f : α → List Value} {T : TypeId} {v : Value} {xs : List α} {L : List A}
theorem OwnO.nil (w : World) (O : Perm) : (OwnO e T (.slice none 0 0) []).h w O := .inl ⟨rfl, rfl⟩
theorem OwnO.sl {w : World} {O : Perm} (h : (OwnO e T v xs).h w O) : (Sl e v xs).h w O := by
  rcases h with ⟨rfl, rfl⟩ | ⟨g, off, cap, cur, f, he, rfl, h2, h3, h4, h5, h6, h7⟩
  · exact Sl.nil e w O
  · refine ⟨some ⟨g, off, none⟩, cap, rfl, h4, h5, .inr ⟨g, off, xs.flatMap f, rfl, by omega, (rows_f he).2 rfl, fun j u hj => ?_⟩⟩
    rw [blk_cell h3]
    rw [← h7, List.getElem?_take] at hj
    split at hj
    · rw [List.getElem?_drop] at hj; simpa using hj
    · cases hj
theorem OwnO.of {w : World} {O : Perm} (he : EncF e f) (h : (Own e T v xs).h w O) : (OwnO e T v xs).h w O := by
  rcases Own.form h with ⟨rfl, rfl⟩ | ⟨g, cap, rfl, _⟩
  · exact .inl ⟨rfl, rfl⟩
  · obtain ⟨_, h1, h2, cur, ⟨h3, h4⟩, h5, h6⟩ := own_open he h
    exact .inr ⟨g, 0, cap, cur, f, he, rfl, h3, h4, h1, h2, by rw [h5]; omega, by rw [List.drop_zero]; exact h6⟩
theorem OwnO.sep : (OwnO e T v xs).Sep := fun w O h => h.imp id fun ⟨g, off, cap, cur, f, he, h1, h2, h3⟩ => ⟨g, off, cap, cur, f, he, h1, by show 2 ≤ (if _ then _ else _); rw [if_pos h2]; exact h2, h3⟩
theorem OwnO.form {w : World} {O : Perm} (h : (OwnO e T v xs).h w O) : ∃ a0 cap, v = .slice a0 xs.length cap ∧ xs.length ≤ cap ∧ cap ≤ maxLen := by
  rcases h with ⟨rfl, rfl⟩ | ⟨g, off, cap, cur, f, he, rfl, _, _, h1, h2, _⟩
  · exact ⟨none, 0, rfl, Nat.le_refl _, Nat.zero_le _⟩
  · exact ⟨_, cap, rfl, h1, h2⟩
theorem OwnO.tail {w : World} {O : Perm} {cap : Nat} {x : α} {a0 : Option Addr} (h : (OwnO e T (.slice a0 (x :: xs).length cap) (x :: xs)).h w O) : (OwnO e T (cutV a0 1 (x :: xs).length cap e.n) xs).h w O := by
  rcases h with ⟨_, h⟩ | ⟨g, off, cap', cur, f, he, hv, h2, h3, h4, h5, h6, h7⟩
  · cases h
  · cases hv
    have hf := encF_len he
    right
    by_cases hc : cap = 1
    · subst hc
      have hx : xs = [] := List.eq_nil_of_length_eq_zero (by have : xs.length + 1 ≤ 1 := h4; omega)
      subst hx
      exact ⟨g, off, 0, cur, f, he, by simp [Go.SL.cutV], h2, h3, Nat.le_refl _, Nat.zero_le _, by omega, by simp⟩
    · refine ⟨g, off + e.n, cap - 1, cur, f, he, ?_, h2, h3, by have : xs.length + 1 ≤ cap := h4; omega, by omega, ?_, ?_⟩
      · simp only [Go.SL.cutV, if_neg hc, Option.map_some]
        rw [addr_add]; simp
      · obtain ⟨c, rfl⟩ : ∃ c, cap = c + 1 := ⟨cap - 1, by have : xs.length + 1 ≤ cap := h4; omega⟩
        rw [Nat.add_sub_cancel]
        rw [Nat.succ_mul] at h6; omega
      · have e1 := congrArg (List.drop e.n) h7
        rw [List.flatMap_cons, ← hf x, List.drop_left, List.drop_take, List.drop_drop, hf x] at e1
        rw [← e1]
        congr 1
        simp only [List.length_cons, Nat.succ_mul]; omega
theorem Has.sl_ownO : Has (OwnO e T v xs :: L) (Sl e v xs) := Has.here.imp fun _ _ h => OwnO.sl h
theorem Pick.ownO_sl : Pick (Sl e v xs) (OwnO e T v xs :: L) L := Pick.of Pick.here fun _ _ h => OwnO.sl h
theorem Elem.ownO {i : Nat} {z : α} (hz : xs[i]? = some z) : Elem (OwnO e T v xs :: L) e v i z := by
  intro w O hs
  obtain ⟨O1, O2, s, h, hs2⟩ := hs
  rcases h with ⟨rfl, rfl⟩ | ⟨g, off, cap, cur, f, he, rfl, h2, h3, h4, h5, h6, h7⟩
  · cases hz
  · have hil := cell_in' hz
    have hfl := encF_len he
    refine ⟨f z, ⟨fun _ => 0, O, ⟨fun _ => Nat.zero_le _, fun _ => Nat.le_refl _, fun _ h => by omega, fun _ _ => rfl⟩, (he w _ _ z).2 rfl, O1, O2, s, .inr ⟨g, off, cap, cur, f, he, rfl, h2, h3, h4, h5, h6, h7⟩, hs2⟩, ⟨g, by have := s.l g; omega, rfl⟩, fun j u hj => ?_⟩
    have hjl := cell_in' hj
    rw [hfl] at hjl
    show w.cell? ⟨g, off + i * e.n + j, none⟩ = some u
    rw [blk_cell h3]
    have e1 : ((xs.drop i).flatMap f)[j]? = some u := by
      rw [List.drop_eq_getElem_cons hil, List.flatMap_cons, List.getElem?_append_left (by rw [hfl]; exact hjl)]
      rw [List.getElem?_eq_getElem hil] at hz
      rw [Option.some.inj hz]; exact hj
    rw [← flat_drop hfl, ← h7, List.getElem?_drop, List.getElem?_take] at e1
    split at e1
    · rw [List.getElem?_drop] at e1
      rw [List.getElem?_toArray, Nat.add_assoc]; exact e1
    · cases e1
theorem AndA.fst {a b : A} {w : World} {O : Perm} (h : (AndA a b).h w O) : a.h w O := h.1
theorem AndA.snd {a b : A} {w : World} {O : Perm} (h : (AndA a b).h w O) : b.h w O := h.2
end

section
variable {K : Act → World → Prop} {X : Cx} {kk : List Item} {env : Env} {L L1 L2 : List A} {d : Nat} {T : TypeId} {pos : String} {af : Array Edge} {x y : Operand}
/-- An append behind which the row is as it was, and the longer one is looked at. -/
theorem s_append_look {α : Type} {e : Enc α} {f : α → List Value} {E : TypeId} {v u : Value} {zs ys : List α} {t : TypeId} {z : Value} {nb : Nat} (he : EncF e f) (hu : X.P.underlying t = some (.slice E)) (hE : TI X.P E z e.n nb) (hzs : z.cells.size = e.n) (hn : 0 < e.n)
    (hx : env.eval x = some v) (hy : env.eval y = some u) (hd : d < X.fn.ntmps) (hp : Pick (OwnO e E v zs) L L1) (hq : Pick (Own e E u ys) L1 L2) (hys : ys ≠ []) (hb : (zs.length + ys.length) * nb ≤ 140737488355328)
    (hb2 : zs.length + ys.length ≤ maxLen)
    (k : ∀ v', Kont X ((d, v') :: env) (AndA (OwnO e E v zs) (Sl e v' (zs ++ ys)) :: L2) K) :
    StepK X kk ⟨some d, .call ⟨.builtin .append, #[x, y], #[t, t]⟩, T, pos, af, none⟩ env L K := by
  refine s_main (γ := Value) (V := fun u => u) (pu := fun _ => True) (L' := fun v' => AndA (OwnO e E v zs) (Sl e v' (zs ++ ys)) :: L2) ?_ hd (fun u _ => k u)
  intro a w O ha hst hdom
  obtain ⟨O1, O2, s, hO, hs2⟩ := hp w O hst
  obtain ⟨O3, O4, s3, hU, hs4⟩ := hq w O2 hs2
  obtain ⟨ti, hi, hz0, hsz, hbt⟩ := hE
  have hfl : ∀ x, (f x).length = e.n := encF_len he
  have hcl : (ys.flatMap f).length = ys.length * e.n := flat_len hfl ys
  have hzl : (zs.flatMap f).length = zs.length * e.n := flat_len hfl zs
  have hpos : 0 < ys.length := List.length_pos_iff.2 hys
  obtain ⟨gu, cu, rfl, -⟩ := (Own.form hU).resolve_left fun h => hys h.2
  obtain ⟨_, hu1, hu2, curu, ⟨hu3, hu4⟩, hu5, hu6⟩ := own_open he hU
  have h1 : ∀ c ∈ ys.flatMap f, c.oneCell' = true := Rows.one (e := e) (w := w) (O := O) ((rows_f he).2 rfl)
  have hnews : ∀ j c, (ys.flatMap f)[j]? = some c → w.cell? ((⟨gu, 0, none⟩ : Addr).add j) = some c := fun j c hj => by
    rw [addr_add, blk_cell hu4, Nat.zero_add]
    rw [← hu6, List.getElem?_take] at hj
    split at hj
    · simpa using hj
    · cases hj
  have hdu : O4 gu = 0 := s3.lr gu hu3
  have hml : zs.length + ys.length ≤ 9223372036854775807 := by simp only [maxLen] at hb2; omega
  have hbb : ys.length * ti.bytes ≤ 281474976710656 := by
    have := Nat.mul_le_mul_right nb (show ys.length ≤ zs.length + ys.length by omega)
    rw [hbt]; omega
  -- a new block
  have grow : ∀ (v0 : Value) (cap' : Nat), zs.length + ys.length ≤ cap' → cap' ≤ maxLen → (OwnO e E v0 zs).h w O1 →
      (Builtin.append_ #[t, t] T #[a.eval x, a.eval y]).run X.P w = .ok (.slice (some ⟨w.heap.size, 0, none⟩) (zs.length + ys.length) cap') (w.drew.alloc (.cells ((zs.flatMap f).toArray ++ (ys.flatMap f).toArray ++ Builtin.zeroCells z.cells (cap' - (zs.length + ys.length))) E)) →
      ∃ g w' O', (execOp a.eval ⟨some d, .call ⟨.builtin .append, #[x, y], #[t, t]⟩, T, pos, af, none⟩).run X.P w = .ok (.value g) w' ∧ True ∧ Stars (AndA (OwnO e E v0 zs) (Sl e g (zs ++ ys)) :: L2) w' O' ∧ Rel w O w' O' := by
    intro v0 cap' hc1 hc2 hO1 hrun
    generalize hnew : ((zs.flatMap f).toArray ++ (ys.flatMap f).toArray ++ Builtin.zeroCells z.cells (cap' - (zs.length + ys.length))) = new at hrun
    have hdom' : ∀ b, O b ≠ 0 → b < w.drew.heap.size := hdom
    have hrel := rel_alloc (w := w.drew) (O := O) (.cells new E) hdom'
    have hold : ∀ c, c < w.heap.size → (w.drew.alloc (.cells new E)).heap[c]? = w.heap[c]? := fun c hc => by
      show (w.drew.heap.push _)[c]? = _
      rw [Array.getElem?_push, if_neg (by show ¬ c = w.heap.size; omega)]; rfl
    have hnewb : (w.drew.alloc (.cells new E)).heap[w.heap.size]? = some (.cells new E (0, 0)) := heap_alloc w.drew _
    have hO0 : ∀ P : Perm, (∀ b, P b ≤ O b) → P w.heap.size = 0 := fun P hP => by
      rcases Nat.eq_zero_or_pos (P w.heap.size) with h | h
      · exact h
      · have := hP w.heap.size
        have := hdom w.heap.size (by omega); omega
    refine ⟨.slice (some ⟨w.heap.size, 0, none⟩) (zs.length + ys.length) cap', w.drew.alloc (.cells new E), fresh w O, by simp [execOp, resolve, invoke, builtin, hrun], trivial, ?_, ⟨hrel.os, hrel.tape, hrel.output, hrel.size, hrel.old, hrel.perm, hrel.dom⟩⟩
    have hO2' : ∀ b, O4 b ≤ O b := fun b => Nat.le_trans (s3.r b) (s.r b)
    refine ⟨fresh w O1, O4, ⟨fun b => ?_, fun b => ?_, fun b hb => ?_, fun b hb => ?_⟩, ⟨?_, ?_⟩, hs4.loc fun c hc => hold c (hdom c (by have := hO2' c; omega))⟩
    · simp only [fresh]; split
      · exact Nat.le_refl _
      · exact s.l b
    · simp only [fresh]; split
      · rename_i h; subst h; rw [hO0 O4 hO2']; omega
      · exact hO2' b
    · simp only [fresh] at hb
      split at hb
      · rename_i h; subst h; exact hO0 O4 hO2'
      · have := s.lr b hb; have := s3.r b; omega
    · have h5 := s3.rl b hb
      have h6 := s.rl b (by have := s3.r b; omega)
      simp only [fresh]; split
      · rename_i h; subst h; have := hO0 O4 hO2'; omega
      · exact h6
    · refine (OwnO e E v0 zs).mono ((OwnO e E v0 zs).loc hO1 fun c hc => hold c (hdom c (by have := s.l c; omega))) fun b => ?_
      simp only [fresh]; split
      · rename_i h; subst h; rw [hO0 O1 s.l]; omega
      · exact Nat.le_refl _
    · refine ⟨some ⟨w.heap.size, 0, none⟩, cap', by rw [List.length_append], by rw [List.length_append]; exact hc1, hc2, .inr ⟨w.heap.size, 0, (zs ++ ys).flatMap f, rfl, by simp [fresh], (rows_f he).2 rfl, fun j c hj => ?_⟩⟩
      rw [blk_cell hnewb, Nat.zero_add, ← hnew]
      rw [List.flatMap_append] at hj
      have hjl := cell_in hj
      rw [Array.getElem?_append_left (by simpa using hjl)]
      simpa using hj
  have hge := fun n c => grownCap_ge w n c E
  have hcm := fun n c h => grownCap_le_maxLen w n c E h
  rcases hO with ⟨rfl, rfl⟩ | ⟨g, off, cap, cur, f', he', rfl, hg2, hgh, hzc, hcapm, hfit, hcur⟩
  · have hrun := run_append_nil (P := X.P) w t T E ti z hu hi hz0 ⟨gu, 0, none⟩ ys.length cu (ys.flatMap f) (by rw [hsz]; exact hcl) hnews hpos (by simp at hml; omega) hbb
    rw [← ha.eval hx, ← ha.eval hy] at hrun
    have := grow (.slice none 0 0) (grownCap w ys.length 0 E) (by simpa using hge ys.length 0) (hcm _ _ (by simpa using hb2)) (.inl ⟨rfl, rfl⟩) (by simpa using hrun)
    exact this
  · obtain rfl : f = f' := funext fun x => ((he w O (f' x) x).1 ((he' w O (f' x) x).2 rfl)).symm
    by_cases hroom : zs.length + ys.length ≤ cap
    · have hlen : (zs.length + ys.length) * e.n ≤ cap * e.n := Nat.mul_le_mul_right _ hroom
      rw [Nat.add_mul] at hlen
      have hst := run_storeCells_at X.P g (off + zs.length * e.n) E (ys.flatMap f) 0 cur.toArray w hgh (by simp [hcl]; omega) h1
      have hfc := run_firstCells_some (P := X.P) w e.n ys.length ⟨gu, 0, none⟩ ys.length cu (ys.flatMap f) hcl hnews
      generalize hnew : (cur.toArray.toList.take (off + zs.length * e.n + 0) ++ ys.flatMap f ++ cur.toArray.toList.drop (off + zs.length * e.n + 0 + (ys.flatMap f).length)) = new at hst
      have hadd : (⟨g, off, none⟩ : Addr).add (zs.length * e.n) = ⟨g, off + zs.length * e.n, none⟩ := addr_add _ _ _
      have hrun : (Builtin.append_ #[t, t] T #[a.eval x, a.eval y]).run X.P w = .ok (.slice (some ⟨g, off, none⟩) (zs.length + ys.length) cap) (w.setRow g new.toArray) := by
        rw [ha.eval hx, ha.eval hy]
        simp [Builtin.append_, run_underlying hu, sizeOf, typeInfo, hi, hsz, Builtin.lenOf, hroom, hfc, hadd, hst]
      have hnewl : new.length = cur.length := by
        rw [← hnew]; simp only [List.length_append, List.length_take, List.length_drop, hcl]; omega
      have hnewt : (new.drop off).take ((zs.length + ys.length) * e.n) = zs.flatMap f ++ ys.flatMap f := by
        have e0 : cur.drop off = (cur.drop off).take (zs.length * e.n) ++ (cur.drop off).drop (zs.length * e.n) := (List.take_append_drop _ _).symm
        have e1 : cur.take (off + zs.length * e.n) = cur.take off ++ zs.flatMap f := by rw [List.take_add, hcur]
        rw [← hnew]
        simp only [Nat.add_zero]
        rw [e1, List.append_assoc, List.append_assoc, List.drop_left' (by simp; omega), Nat.add_mul, ← List.append_assoc]
        exact List.take_left' (by simp only [List.length_append, hzl, hcl])
      have hgw : (w.setRow g new.toArray).heap[g]? = some (.cells new.toArray E (0, 0)) := setRow_heap w g _ _ E _ hgh
      have hOg : 2 ≤ O g := Nat.le_trans hg2 (s.l g)
      refine ⟨.slice (some ⟨g, off, none⟩) (zs.length + ys.length) cap, w.setRow g new.toArray, O, by simp [execOp, resolve, invoke, builtin, hrun], trivial, ⟨O1, O4, ⟨s.l, fun b => Nat.le_trans (s3.r b) (s.r b), fun b hb => ?_, fun b hb => ?_⟩, ⟨?_, ?_⟩, hs4.loc fun c hc => ?_⟩, setRow_rel hOg hdom⟩
      · have := s.lr b hb; have := s3.r b; omega
      · exact s.rl b (Nat.le_trans hb (s3.r b))
      · refine Or.inr ⟨g, off, cap, new, f, he, rfl, hg2, hgw, hzc, hcapm, by omega, ?_⟩
        have e3 := congrArg (List.take (zs.length * e.n)) hnewt
        rw [List.take_take, Nat.min_eq_left (Nat.mul_le_mul_right _ (by omega)), List.take_left' hzl] at e3
        exact e3
      · refine ⟨some ⟨g, off, none⟩, cap, by rw [List.length_append], by rw [List.length_append]; exact hroom, hcapm, .inr ⟨g, off, (zs ++ ys).flatMap f, rfl, by omega, (rows_f he).2 rfl, fun j c hj => ?_⟩⟩
        rw [blk_cell hgw]
        rw [List.flatMap_append, ← hnewt, List.getElem?_take] at hj
        split at hj
        · rw [List.getElem?_drop] at hj; simpa using hj
        · cases hj
      · have : c ≠ g := by intro e; subst e; have := s.lr c hg2; have := s3.r c; omega
        rw [setRow_other w g c _ this]
    · have holds : ∀ j c, (zs.flatMap f)[j]? = some c → w.cell? ((⟨g, off, none⟩ : Addr).add j) = some c := fun j c hj => by
        rw [addr_add, blk_cell hgh]
        rw [← hcur, List.getElem?_take] at hj
        split at hj
        · rw [List.getElem?_drop] at hj; simpa using hj
        · cases hj
      have hrun := run_append_grow (P := X.P) w t T E ti z hu hi hz0 ⟨g, off, none⟩ zs.length cap (zs.flatMap f) (by rw [hsz]; exact hzl) holds ⟨gu, 0, none⟩ ys.length cu (ys.flatMap f) (by rw [hsz]; exact hcl) hnews (by omega) (by omega) (growslice_fits (by omega) (by rw [hbt]; exact hb))
      rw [← ha.eval hx, ← ha.eval hy] at hrun
      exact grow _ (grownCap w (zs.length + ys.length) cap E) (hge _ _) (hcm _ _ hb2) (.inr ⟨g, off, cap, cur, f, he, rfl, hg2, hgh, hzc, hcapm, hfit, hcur⟩) hrun
end
section
variable {κ : Type} [DecidableEq κ] (ke : KeyEnc κ)
variable {X : Cx} {env : Env} {L L1 : List A} {T : TypeId} {x y : Operand} {K : Act → World → Prop} {kk : List Item} {pos : String} {af : Array Edge} {d : Nat}
open Classical in
/-- An update at a key that the map has, while the map is gone through. -/
theorem s_mapUpdate_it {t kt et : TypeId} {it b : Nat} {m : List (κ × Value)} {pre : List κ} {k : κ} {u : Value} {z : Operand} (hu : X.P.underlying t = some (.map kt et)) (hk : X.P.underlying kt = some ke.desc) (hsc : ∀ a, (∃ n j, ke.val a = .int j n) ∨ ∃ s, ke.val a = .string s)
    (hx : env.eval x = some (.map (some b))) (hy : env.eval y = some (ke.val k)) (hz : env.eval z = some u) (hp : Pick (MapItO ke it (some b) m pre) L L1) (hin : k ∈ m.map fun p : κ × Value => p.1) (kk' : Kont X env (MapItO ke it (some b) (upd m k u) pre :: L1) K) :
    StepK X kk ⟨none, .mapUpdate t x y z, T, pos, af, none⟩ env L K := by
  refine s_skip (γ := Unit) (pu := fun _ => True) (L' := fun _ => MapItO ke it (some b) (upd m k u) pre :: L1) ?_ (fun _ _ => kk')
  intro a w O ha hst hdom
  obtain ⟨O1, O2, s, hO, hs2⟩ := hp w O hst
  obtain ⟨hne, q1, q2, es, clock, seen, hb, hit, he, hbn, hbc, hnd, ps, hp1, hp2, hp3⟩ := mapItO_some ke hO
  obtain ⟨r, g1, g2, g3, g4⟩ := findNow_of ke (k := k) 0 he
  have hget : (getObj b).run X.P w = .ok (.map es clock) w := by simp [getObj, Sem.run, hb]
  have hfind : (Instr.findKey kt (ke.val k) es.toList).run X.P w = .ok r w := by simp [Instr.findKey, run_underlying hk, g1]
  have hchk : (Instr.checkKey false 10000 kt (ke.val k)).run X.P w = .ok () w := ke.chk X.P w 9999 false kt k hk
  have hset : ∀ o, (setObj b o).run X.P w = .ok () (w.putObj b o) := fun o => by simp [setObj, Sem.run, hb, World.putObj]
  cases r with
  | none => exact absurd hin (g4 rfl)
  | some p =>
    obtain ⟨i, v⟩ := p
    obtain ⟨n, hn, hm⟩ := g3 i v rfl
    rw [Nat.zero_add] at hn
    subst hn
    have hold : ((es[i]?).map (fun e : MapEntry => e.key)).getD (ke.val k) = ke.val k := by
      have := congrArg (fun l => l[i]?) he
      simp only [List.getElem?_map, Array.getElem?_toList] at this
      rw [Option.map_eq_some_iff] at hm
      obtain ⟨q, hq, hqk⟩ := hm
      rw [hq] at this
      cases he2 : es[i]? with
      | none => rfl
      | some e2 =>
        rw [he2] at this
        simp only [Option.map_some, Option.some.injEq, Prod.mk.injEq] at this
        simp [this.1, hqk]
    have hstay : (Instr.keyThatStays (ke.val k) (ke.val k)).run X.P w = .ok (ke.val k) w := by
      simp [Instr.keyThatStays, sameBits_self ke.val hsc k]
    have hrun : (Instr.mapUpdate t (.map (some b)) (ke.val k) u).run X.P w = .ok () (w.putObj b (.map (es.modify i fun e => { e with key := ke.val k, val := u }) clock)) := by
      simp [Instr.mapUpdate, run_underlying hu, hget, hchk, hfind, hset, hold, hstay]
    have hbs : b < w.heap.size := hdom b (by have := s.l b; omega)
    have hdom1 : ∀ c, O1 c ≠ 0 → c < w.heap.size := fun c hc => hdom c (by have := s.l c; omega)
    have hrel1 : Rel w O (w.putObj b (.map (es.modify i fun e => { e with key := ke.val k, val := u }) clock)) O := by
      refine ⟨rfl, rfl, rfl, by simp, fun c hc h => ?_, fun _ _ => Nat.le_refl _, fun c hc => by simpa using hdom c hc⟩
      have : c ≠ b := by intro e; subst e; have := s.l c; omega
      rw [World.putObj_heap_other this]
    let g : MapEntry → MapEntry := fun e => if e.key = ke.val k then { e with key := ke.val k, val := u } else e
    have hkeys : (es.toList.map fun e : MapEntry => e.key).Nodup := ents_keys ke he hnd
    have hmod : (es.toList.modify i fun e => { e with key := ke.val k, val := u }) = es.toList.map g := by
      have hik : ∀ e, es.toList[i]? = some e → e.key = ke.val k := fun e hei => by
        rw [Array.getElem?_toList] at hei
        rw [hei] at hold
        simpa using hold
      apply List.ext_getElem?
      intro j
      rw [List.getElem?_modify, List.getElem?_map]
      cases hj : es.toList[j]? with
      | none => simp
      | some e =>
        simp only [Option.map_some, Option.some.injEq]
        by_cases hij : i = j
        · subst hij
          simp only [Functor.map, Option.map_some, if_true, g, if_pos (hik e hj)]
        · simp only [Functor.map, Option.map_some, if_neg hij, g]
          rw [if_neg]
          · intro hek
            have hil : i < es.toList.length := by
              have := congrArg List.length he
              rw [Option.map_eq_some_iff] at hm
              obtain ⟨q, hq, _⟩ := hm
              have := cell_in' hq
              simp only [List.length_map] at *
              omega
            have h1 := hik _ (List.getElem?_eq_getElem hil)
            have hjl := cell_in' hj
            have h2 : es.toList[j] = e := by rw [List.getElem?_eq_getElem hjl] at hj; exact Option.some.inj hj
            have h3 := List.pairwise_iff_getElem.1 hkeys
            rcases Nat.lt_or_gt_of_ne hij with h | h
            · exact h3 i j (by simpa using hil) (by simpa using hjl) h (by simp only [List.getElem_map, h1, h2, hek])
            · exact h3 j i (by simpa using hjl) (by simpa using hil) h (by simp only [List.getElem_map, h1, h2, hek])
    refine ⟨(), _, O, by simp [execOp, ha.eval hx, ha.eval hy, ha.eval hz, hrun], trivial, ⟨O1, O2, s, mapItO_mk ke hne ⟨q1, q2, es.modify i fun e => { e with key := ke.val k, val := u }, clock, seen, World.putObj_heap_same hbs, ?_, ?_, ?_, ?_, upd_nodup hnd, ps.map g, ?_, ?_, ?_⟩, hs2.loc fun c hc => ?_⟩, hrel1⟩
    · rw [World.putObj_heap_other hne]; exact hit
    · rw [Array.toList_modify]; exact ents_found ke i he hm hnd
    · rw [Array.toList_modify, modify_born]; exact hbn
    · intro e he'
      rw [Array.toList_modify, hmod] at he'
      obtain ⟨e0, he0, rfl⟩ := List.mem_map.1 he'
      have := hbc e0 he0
      simp only [g]; split <;> exact this
    · rw [List.map_map, ← hp1]
      apply List.map_congr_left
      intro e _
      simp only [Function.comp, g]
      split
      · rename_i h; exact h.symm
      · rfl
    · rw [hp2, List.map_map]
      apply List.map_congr_left
      intro e _
      simp only [Function.comp, g]
      split <;> rfl
    · intro e hee
      obtain ⟨e0, he0, rfl⟩ := List.mem_map.1 hee
      rw [Array.toList_modify, hmod]
      exact List.mem_map.2 ⟨e0, hp3 e0 he0, rfl⟩
    · have : c ≠ b := by intro e; subst e; have := s.lr c q2; omega
      rw [World.putObj_heap_other this]
end
section
variable {X : Cx} {ops : Array Oper} {kk : List Item} {env : Env} {L L1 S : List A} {j0 fuel : Nat} {listed : Array Bool}
/-- Two operations may come up, either first. -/
theorem a_two (i j : Nat) {d d' : Option Nat} {op op' : Op} {T T' : TypeId} {pos pos' : String} {af af' : Array Edge} (hi : ops[i]? = some ⟨d, op, T, pos, af, none⟩) (hj : ops[j]? = some ⟨d', op', T', pos', af', none⟩) (hr : Region.ready .any ops listed = [i, j])
    (h : StepK X kk ⟨d, op, T, pos, af, none⟩ env L fun a w => (∃ O, Stars S w O) ∧ wpAnyH X.P .any ops (Qn X kk) (fun w => ∃ O, Stars S w O) fuel (listed.setIfInBounds i true) a w)
    (h' : StepK X kk ⟨d', op', T', pos', af', none⟩ env L fun a w => (∃ O, Stars S w O) ∧ wpAnyH X.P .any ops (Qn X kk) (fun w => ∃ O, Stars S w O) fuel (listed.setIfInBounds j true) a w) : Any X ops S (fuel + 1) listed kk env L := by
  intro a w O ha hst hrel
  refine wpAnyH_all hr (by simp) fun q hq => ?_
  have hq' : q = i ∨ q = j := by simpa using hq
  rcases hq' with rfl | rfl
  · simp only [wpOp, hi, Region.wanted, if_true]
    exact .inl (h a w O ha hst hrel)
  · simp only [wpOp, hj, Region.wanted, if_true]
    exact .inl (h' a w O ha hst hrel)
theorem k_two (i j : Nat) {d d' : Option Nat} {op op' : Op} {T T' : TypeId} {pos pos' : String} {af af' : Array Edge} (hi : ops[i]? = some ⟨d, op, T, pos, af, none⟩) (hj : ops[j]? = some ⟨d', op', T', pos', af', none⟩) (hr : Region.ready .any ops listed = [i, j])
    (h : Closed .any ops (listed.setIfInBounds i true) → StepK X kk ⟨d, op, T, pos, af, none⟩ env L fun a w => ((listed.setIfInBounds i true).getD j0 false = true ∨ ∃ O, Stars S w O) ∧ wpAnyK X.P .any ops (Qn X kk) (fun w => ∃ O, Stars S w O) j0 fuel (listed.setIfInBounds i true) a w)
    (h' : Closed .any ops (listed.setIfInBounds j true) → StepK X kk ⟨d', op', T', pos', af', none⟩ env L fun a w => ((listed.setIfInBounds j true).getD j0 false = true ∨ ∃ O, Stars S w O) ∧ wpAnyK X.P .any ops (Qn X kk) (fun w => ∃ O, Stars S w O) j0 fuel (listed.setIfInBounds j true) a w) : AnyG X ops S j0 (fuel + 1) listed kk env L := by
  intro hc a w O ha hst hrel
  refine ⟨fun h0 => absurd (hr ▸ h0) (by simp), fun q hq => ?_⟩
  have hq' : q = i ∨ q = j := by rw [hr] at hq; simpa using hq
  rcases hq' with rfl | rfl
  · simp only [wpOp, hi, Region.wanted, if_true]
    exact .inl (h (closed_set hc (by rw [hr]; simp)) a w O ha hst hrel)
  · simp only [wpOp, hj, Region.wanted, if_true]
    exact .inl (h' (closed_set hc (by rw [hr]; simp)) a w O ha hst hrel)
theorem Has.and_snd {a b : A} : Has (AndA a b :: L) b := Has.here.imp fun _ _ h => h.2
theorem Has.and_fst {a b : A} : Has (AndA a b :: L) a := Has.here.imp fun _ _ h => h.1
theorem Pick.and_fst {a b : A} : Pick a (AndA a b :: L) L := Pick.of Pick.here fun _ _ h => h.1
end
end Go.SL
/- All of the engine. -/
/- What is taken, kept, read: found by constructors, one after the other (short words for the walks). -/
namespace Go.SL
open Go
inductive HX : List A → A → Prop
  | here {a : A} {L : List A} : HX (a :: L) a
  | apd {α : Type} {e : Enc α} {T : TypeId} {v : Value} {xs : List α} {L : List A} : HX (Apd e T v xs :: L) (Sl e v xs)
  | own {α : Type} {e : Enc α} {T : TypeId} {v : Value} {xs : List α} {L : List A} : HX (Own e T v xs :: L) (Sl e v xs)
  | ownO {α : Type} {e : Enc α} {T : TypeId} {v : Value} {xs : List α} {L : List A} : HX (OwnO e T v xs :: L) (Sl e v xs)
  | and {a b : A} {L : List A} : HX (AndA a b :: L) b
  | blk {b : Nat} {T : TypeId} {cs : List Value} {L : List A} : HX (Blk b T cs :: L) (BlkR b T cs)
  | there {a b : A} {L : List A} (h : HX L a) : HX (b :: L) a
theorem hX {L : List A} {a : A} (h : HX L a) : Has L a := by
  induction h with
  | here => exact Has.here
  | apd => exact Has.sl_apd
  | own => exact Has.sl_own
  | ownO => exact Has.sl_ownO
  | and => exact Has.and_snd
  | blk => exact Has.r_blk
  | there _ ih => exact Has.there ih
inductive PX : A → List A → List A → Prop
  | sl {α : Type} {e : Enc α} {v : Value} {xs : List α} {L : List A} : PX (Sl e v xs) (Sl e v xs :: L) (Sl e v xs :: L)
  | rd {b : Nat} {T : TypeId} {cs : List Value} {L : List A} : PX (BlkR b T cs) (BlkR b T cs :: L) (BlkR b T cs :: L)
  | fld {p : Addr} {u : Value} {L : List A} : PX (FldCell p u) (FldCell p u :: L) (FldCell p u :: L)
  | here {a : A} {L : List A} : PX a (a :: L) L
  | own {α : Type} {e : Enc α} {T : TypeId} {v : Value} {xs : List α} {L : List A} : PX (Sl e v xs) (Own e T v xs :: L) L
  | ownO {α : Type} {e : Enc α} {T : TypeId} {v : Value} {xs : List α} {L : List A} : PX (Sl e v xs) (OwnO e T v xs :: L) L
  | and {a b : A} {L : List A} : PX a (AndA a b :: L) L
  | apd {α : Type} {e : Enc α} {T : TypeId} {v : Value} {xs : List α} {L : List A} : PX (Sl e v xs) (Apd e T v xs :: L) L
  | blk {b : Nat} {T : TypeId} {cs : List Value} {L : List A} : PX (BlkR b T cs) (Blk b T cs :: L) L
  | nil {α : Type} {e : Enc α} {L : List A} : PX (Sl e (.slice none 0 0) []) L L
  | nilO {α : Type} {e : Enc α} {T : TypeId} {L : List A} : PX (Own e T (.slice none 0 0) []) L L
  | map {κ : Type} [DecidableEq κ] {ke : KeyEnc κ} {it : Nat} {o : Option Nat} {m : List (κ × Value)} {pre : List κ} {L : List A} : PX (MapO ke o m) (MapItO ke it o m pre :: L) L
  | there {a b : A} {L L' : List A} (h : PX a L L') : PX a (b :: L) (b :: L')
theorem pX {a : A} {L L' : List A} (h : PX a L L') : Pick a L L' := by
  induction h with
  | sl => exact Pick.keep (Sl.isDup _ _ _)
  | rd => exact Pick.keep (BlkR.isDup _ _ _)
  | fld => exact Pick.keep (FldCell.isDup _ _)
  | here => exact Pick.here
  | own => exact Pick.own_sl
  | ownO => exact Pick.ownO_sl
  | and => exact Pick.and_fst
  | apd => exact Pick.apd_sl
  | blk => exact Pick.r_blk
  | nil => exact Pick.sl_nil
  | nilO => exact Pick.own_nil
  | map => exact Pick.map_itO _
  | there _ ih => exact Pick.there ih
inductive PXs : List A → List A → List A → Prop
  | nil {L : List A} : PXs [] L L
  | cons {a : A} {az L L1 L2 : List A} (h : PX a L L1) (t : PXs az L1 L2) : PXs (a :: az) L L2
theorem pXs {az L L' : List A} (h : PXs az L L') : Picks az L L' := by
  induction h with
  | nil => exact .nil
  | cons h _ ih => exact .cons (pX h) ih
theorem eX {az L L' : List A} (h : PXs az L L') : Ent L az := (pXs h).ent
inductive PB : A → List A → List A → Prop
  | here {a : A} {L : List A} : PB a (a :: L) L
  | nil {α : Type} {e : Enc α} {T : TypeId} {L : List A} : PB (Own e T (.slice none 0 0) []) L L
  | there {a b : A} {L L' : List A} (h : PB a L L') : PB a (b :: L) (b :: L')
theorem pB {a : A} {L L' : List A} (h : PB a L L') : Pick a L L' := by
  induction h with
  | here => exact Pick.here
  | nil => exact Pick.own_nil
  | there _ ih => exact Pick.there ih
inductive RX (L : List A) : List A → Prop
  | nil : RX L []
  | sl {α : Type} {e : Enc α} {v : Value} {xs : List α} {az : List A} (h : HX L (Sl e v xs)) (t : RX L az) : RX L (Sl e v xs :: az)
  | blk {b : Nat} {T : TypeId} {cs : List Value} {az : List A} (h : HX L (BlkR b T cs)) (t : RX L az) : RX L (BlkR b T cs :: az)
  | rd {α : Type} {e : Enc α} {cs : List Value} {x : α} {az : List A} (h : HX L (Rd e cs x)) (t : RX L az) : RX L (Rd e cs x :: az)
  | pu {p : Prop} {az : List A} (h : HX L (Pu p)) (t : RX L az) : RX L (Pu p :: az)
  | fld {p : Addr} {u : Value} {az : List A} (h : HX L (FldCell p u)) (t : RX L az) : RX L (FldCell p u :: az)
theorem rX {L az : List A} (h : RX L az) : Reads L az := by
  induction h with
  | nil => exact .nil
  | sl h _ ih => exact .cons (Sl.isDup _ _ _) (hX h) ih
  | blk h _ ih => exact .cons (BlkR.isDup _ _ _) (hX h) ih
  | rd h _ ih => exact .cons (Rd.isDup _ _ _) (hX h) ih
  | pu h _ ih => exact .cons (Pu.isDup _) (hX h) ih
  | fld h _ ih => exact .cons (FldCell.isDup _ _) (hX h) ih
section
variable {α : Type} {e : Enc α} {T : TypeId} {v : Value} {zs : List α} {L : List A} {i : Nat}
theorem el1 (h : i < zs.length) : Elem (Sl e v zs :: L) e v i zs[i] := Elem.sl (List.getElem?_eq_getElem h)
theorem el2 (h : i < zs.length) : Elem (Own e T v zs :: L) e v i zs[i] := Elem.own (List.getElem?_eq_getElem h)
theorem el3 (h : i < zs.length) : Elem (OwnO e T v zs :: L) e v i zs[i] := Elem.ownO (List.getElem?_eq_getElem h)
end
theorem dd {a b : Nat} (h : Nat.ble a b = true) : a ≤ b := Nat.le_of_ble_eq_true h
/-- Encodings whose reading hangs on nothing else. -/
class PureC {α : Type} (e : Enc α) : Prop where
  h : e.Pure
instance {k : IntKind} : PureC (eInt k) := ⟨eInt_pure k⟩
instance : PureC eStr := ⟨eStr_pure⟩
instance : PureC eBool := ⟨eBool_pure⟩
instance : PureC eByte := ⟨eByte_pure⟩
instance : PureC eRaw := ⟨eRaw_pure⟩
instance {α β : Type} {e : Enc α} {f : Enc β} [PureC e] [PureC f] : PureC (ePair e f) := ⟨ePair_pure PureC.h PureC.h⟩
instance {α β : Type} {g : α → β} {e : Enc β} [PureC e] : PureC (eMap g e) := ⟨eMap_pure PureC.h⟩
theorem puX {α : Type} {e : Enc α} [PureC e] : e.Pure := PureC.h
/-- What stands by itself. -/
class SepC (a : A) : Prop where
  h : a.Sep
instance {b : Nat} {T : TypeId} {cs : List Value} : SepC (Blk b T cs) := ⟨Blk.sep⟩
instance {b : Nat} {o : Obj} : SepC (ObjA b o) := ⟨ObjA.sep⟩
instance {p : Prop} : SepC (Pu p) := ⟨Pu.sep p⟩
instance {κ : Type} [DecidableEq κ] {ke : KeyEnc κ} {b : Nat} {m : List (κ × Value)} : SepC (MapA ke b m) := ⟨MapA.sep⟩
instance {κ : Type} [DecidableEq κ] {ke : KeyEnc κ} {o : Option Nat} {m : List (κ × Value)} : SepC (MapO ke o m) := ⟨by cases o with | none => exact Pu.sep _ | some b => exact MapA.sep⟩
instance {α : Type} {e : Enc α} {T : TypeId} {v : Value} {xs : List α} : SepC (OwnO e T v xs) := ⟨OwnO.sep⟩
instance {α : Type} {e : Enc α} [PureC e] {T : TypeId} {v : Value} {xs : List α} : SepC (Own e T v xs) := ⟨Own.sep PureC.h⟩
class SepsC (l : List A) : Prop where
  h : Seps l
instance : SepsC [] := ⟨.nil⟩
instance {a : A} {l : List A} [SepC a] [SepsC l] : SepsC (a :: l) := ⟨.cons SepC.h SepsC.h⟩
instance {l : List A} [SepsC l] : SepC (AllA l) := ⟨AllA.sep SepsC.h⟩
instance {γ : Type} {f : γ → A} [∀ g, SepC (f g)] : SepC (ExA f) := ⟨ExA.sep fun _ => SepC.h⟩
theorem sX {l : List A} [SepsC l] : Seps l := SepsC.h
theorem results_tct {fn : Func} {t s r : Nat} {ty : TypeId} {tmps : Array Value} {P : Program} {w : World} {v u x : Value} {p : Addr} (h : fn.results = #[.tmp s, .cell t ty, .tmp r]) (hv : tmps[t]? = some (.pointer (some p))) (hl : (loadVar ty p).run P w = .ok v w) (hu : tmps[s]? = some u) (hx : tmps[r]? = some x) : (results fn tmps).run P w = .ok (.tuple #[u, v, x]) w := by
  have h1 : tmps[t]?.getD undef = .pointer (some p) := by rw [hv]; rfl
  have h2 : tmps[s]?.getD undef = u := by rw [hu]; rfl
  have h3 : tmps[r]?.getD undef = x := by rw [hx]; rfl
  simp [results, h, asAddr, hl, h1, h2, h3]
theorem c_ret_tct {X : Cx} {k : List Item} {env : Env} {L : List A} {t s r b : Nat} {ty bt : TypeId} {cs : List Value} {z u x : Value} {nb : Nat} (hf : X.P.funcs[X.f]? = some X.fn) (h : X.fn.results = #[.tmp s, .cell t ty, .tmp r]) (hu : ∃ fs, X.P.underlying ty = some (.struct fs)) (ht : TI X.P ty z cs.length nb)
    (hv : env.look t = some (.pointer (some ⟨b, 0, none⟩))) (hs' : env.look s = some u) (hr' : env.look r = some x) (hb : Has L (BlkR b bt cs)) (fin : ∀ w O, Stars L w O → X.R (.tuple #[u, .agg cs.toArray, x]) w O) (hrd : X.rd = none := by rfl) (hdf : X.defs = [] := by rfl) : Cfg X (.code .ret :: k) env L :=
  c_ret_any (fun a w O ha hs _ => by
    obtain ⟨_, fz, hh⟩ := hb w O hs
    obtain ⟨ti, hi, _, hsz, _⟩ := ht
    exact ⟨_, results_tct h (ha.look t _ hv) (run_loadAgg hu hi hsz fun j u hj => by rw [add_off, blk_cell hh]; simpa using hj) (ha.look s _ hs') (ha.look r _ hr'), fin w O hs⟩) hf hrd hdf fun _ _ _ _ _ hb => steps_ret hb
end Go.SL
/-
  DERIVED: THE SHELF's CONTRACTS AT THIS DUMP, IN PLAIN WORDS (tools/lay-plain.mjs out of 'TryShelf.lean', which tools/lay-shelf.mjs wrote): THE SAME DECLARATIONS UNDER THE SAME NAMES: 'import', 'namespace', 'open', 'def', 'theorem' AND NOTHING ELSE: no command of the shelf's: FOR A HAND-IN. Each laying: the table of numbers ('.._ren') and one theorem, a field a fact of the dump's own or the kernel's comparison; each contract: ONE APPLICATION.
-/
namespace Go.Proofs
open Go.Shelf
def Try.lays128_ren : Go.Shelf.Ren := ⟨fun | 128 => 129 | n => n, fun | 51 => 190 | 3 => 3 | 4 => 4 | 46 => 175 | 5 => 5 | 9 => 9 | n => n, fun | n => n⟩
theorem Try.lays128 : Go.Proofs.Lays.n128 Try.prog Try.lays128_ren := {
  mixed := by kernel_rfl
  f128 := Try.func129.trans (congrArg some (by kernel_rfl))
  t3 := Try.underlying3
  a3 := Try.isAgg3
  z3 := Try.sizeOf3
  v3 := Try.zeroValue3
  t4 := Try.underlying4
  a4 := Try.isAgg4
  z4 := Try.sizeOf4
  v4 := Try.zeroValue4
  t5 := Try.underlying5
  a5 := Try.isAgg5
  z5 := Try.sizeOf5
  v5 := Try.zeroValue5
  t9 := Try.underlying9
  a9 := Try.isAgg9
  z9 := Try.sizeOf9
  v9 := Try.zeroValue9
  t46 := Try.underlying175
  a46 := Try.isAgg175
  z46 := Try.sizeOf175
  v46 := Try.zeroValue175
  t51 := Try.underlying190
  a51 := Try.isAgg190
  z51 := Try.sizeOf190
  v51 := Try.zeroValue190 }
/-- bits.Len32: "Len32 returns the minimum number of bits required to represent x; the result is 0 for x == 0.": IT RETURNS 'Lib.bitLen x'; the world is as it was. ('h0', 'h1': x is a uint32.) (LAID: no walk: one application.) -/
theorem Try.bits_Len32 (x : Int) (w : World) (h0 : 0 ≤ x) (h1 : x ≤ 4294967295) :
    Calls Try.prog 129 #[.int .u32 x] w fun e w' => e = .returned (.int .i64 (Lib.bitLen x.toNat)) ∧ w' = w := Any.bits_Len32 Try.lays128 x w h0 h1
def Try.lays125_ren : Go.Shelf.Ren := ⟨fun | 125 => 111 | 128 => 129 | 129 => 130 | n => n, fun | 46 => 175 | 3 => 3 | 51 => 190 | 53 => 192 | 4 => 4 | 5 => 5 | 9 => 9 | n => n, fun | n => n⟩
theorem Try.lays125 : Go.Proofs.Lays.n125 Try.prog Try.lays125_ren := {
  mixed := by kernel_rfl
  f125 := Try.func111.trans (congrArg some (by kernel_rfl))
  f128 := Try.func129.trans (congrArg some (by kernel_rfl))
  f129 := Try.func130.trans (congrArg some (by kernel_rfl))
  t3 := Try.underlying3
  a3 := Try.isAgg3
  z3 := Try.sizeOf3
  v3 := Try.zeroValue3
  t4 := Try.underlying4
  a4 := Try.isAgg4
  z4 := Try.sizeOf4
  v4 := Try.zeroValue4
  t5 := Try.underlying5
  a5 := Try.isAgg5
  z5 := Try.sizeOf5
  v5 := Try.zeroValue5
  t9 := Try.underlying9
  a9 := Try.isAgg9
  z9 := Try.sizeOf9
  v9 := Try.zeroValue9
  t46 := Try.underlying175
  a46 := Try.isAgg175
  z46 := Try.sizeOf175
  v46 := Try.zeroValue175
  t51 := Try.underlying190
  a51 := Try.isAgg190
  z51 := Try.sizeOf190
  v51 := Try.zeroValue190
  t53 := Try.underlying192
  a53 := Try.isAgg192
  z53 := Try.sizeOf192
  v53 := Try.zeroValue192 }
/-- bits.Len: "Len returns the minimum number of bits required to represent x; the result is 0 for x == 0.": IT RETURNS 'Lib.bitLen x'; the world is as it was. (A uint has 64 bits in the model.) ITS CALLEE bits.Len64 IS MET BY ITS OWN CONTRACT OFF THE SHELF (lay that first). (LAID: no walk: one application.) -/
theorem Try.bits_Len (x : Int) (w : World) (h0 : 0 ≤ x) (h1 : x ≤ 18446744073709551615) :
    Calls Try.prog 111 #[.int .u64 x] w fun e w' => e = .returned (.int .i64 (Lib.bitLen x.toNat)) ∧ w' = w := Any.bits_Len Try.lays125 x w h0 h1
def Try.lays215_ren : Go.Shelf.Ren := ⟨fun | 215 => 146 | n => n, fun | 3 => 3 | 4 => 4 | n => n, fun | n => n⟩
theorem Try.lays215 : Go.Proofs.Lays.n215 Try.prog Try.lays215_ren := {
  mixed := by kernel_rfl
  f215 := Try.func146.trans (congrArg some (by kernel_rfl))
  t3 := Try.underlying3
  a3 := Try.isAgg3
  z3 := Try.sizeOf3
  v3 := Try.zeroValue3
  t4 := Try.underlying4
  a4 := Try.isAgg4
  z4 := Try.sizeOf4
  v4 := Try.zeroValue4 }
open Go.RowKit in
/-- cmp.isNaN at int: 'x != x': false. (LAID: no walk: one application.) -/
theorem Try.cmp_isNaN_int (x : Int) (w : World) :
    Calls Try.prog 146 #[.int .i64 x] w fun e w' => e = .returned (.bool false) ∧ w' = w := Any.cmp_isNaN_int Try.lays215 x w
def Try.lays129_ren : Go.Shelf.Ren := ⟨fun | 129 => 130 | n => n, fun | 53 => 192 | 3 => 3 | 4 => 4 | 46 => 175 | 5 => 5 | 9 => 9 | n => n, fun | n => n⟩
theorem Try.lays129 : Go.Proofs.Lays.n129 Try.prog Try.lays129_ren := {
  mixed := by kernel_rfl
  f129 := Try.func130.trans (congrArg some (by kernel_rfl))
  t3 := Try.underlying3
  a3 := Try.isAgg3
  z3 := Try.sizeOf3
  v3 := Try.zeroValue3
  t4 := Try.underlying4
  a4 := Try.isAgg4
  z4 := Try.sizeOf4
  v4 := Try.zeroValue4
  t5 := Try.underlying5
  a5 := Try.isAgg5
  z5 := Try.sizeOf5
  v5 := Try.zeroValue5
  t9 := Try.underlying9
  a9 := Try.isAgg9
  z9 := Try.sizeOf9
  v9 := Try.zeroValue9
  t46 := Try.underlying175
  a46 := Try.isAgg175
  z46 := Try.sizeOf175
  v46 := Try.zeroValue175
  t53 := Try.underlying192
  a53 := Try.isAgg192
  z53 := Try.sizeOf192
  v53 := Try.zeroValue192 }
/-- bits.Len64: "Len64 returns the minimum number of bits required to represent x; the result is 0 for x == 0.": IT RETURNS 'Lib.bitLen x'; the world is as it was. ('h0', 'h1': x is a uint64.) (LAID: no walk: one application.) -/
theorem Try.bits_Len64 (x : Int) (w : World) (h0 : 0 ≤ x) (h1 : x ≤ 18446744073709551615) :
    Calls Try.prog 130 #[.int .u64 x] w fun e w' => e = .returned (.int .i64 (Lib.bitLen x.toNat)) ∧ w' = w := Any.bits_Len64 Try.lays129 x w h0 h1
def Try.lays189_ren : Go.Shelf.Ren := ⟨fun | 189 => 79 | 125 => 111 | 257 => 110 | 128 => 129 | 129 => 130 | 294 => 120 | 295 => 121 | 296 => 122 | 297 => 123 | 298 => 124 | 299 => 125 | 216 => 126 | 300 => 127 | 301 => 128 | 328 => 141 | 329 => 142 | 330 => 143 | 331 => 144 | 332 => 145 | 215 => 146 | 343 => 152 | n => n, fun | 28 => 35 | 3 => 3 | 46 => 175 | 0 => 0 | 51 => 190 | 53 => 192 | 4 => 4 | 183 => 184 | 182 => 183 | 131 => 85 | 5 => 5 | 9 => 9 | 218 => 198 | 222 => 202 | 228 => 207 | 229 => 208 | n => n, fun | n => n⟩
theorem Try.lays189 : Go.Proofs.Lays.n189 Try.prog Try.lays189_ren := {
  mixed := by kernel_rfl
  f125 := Try.func111.trans (congrArg some (by kernel_rfl))
  f128 := Try.func129.trans (congrArg some (by kernel_rfl))
  f129 := Try.func130.trans (congrArg some (by kernel_rfl))
  f189 := Try.func79.trans (congrArg some (by kernel_rfl))
  f215 := Try.func146.trans (congrArg some (by kernel_rfl))
  f216 := Try.func126.trans (congrArg some (by kernel_rfl))
  f257 := Try.func110.trans (congrArg some (by kernel_rfl))
  f294 := Try.func120.trans (congrArg some (by kernel_rfl))
  f295 := Try.func121.trans (congrArg some (by kernel_rfl))
  f296 := Try.func122.trans (congrArg some (by kernel_rfl))
  f297 := Try.func123.trans (congrArg some (by kernel_rfl))
  f298 := Try.func124.trans (congrArg some (by kernel_rfl))
  f299 := Try.func125.trans (congrArg some (by kernel_rfl))
  f300 := Try.func127.trans (congrArg some (by kernel_rfl))
  f301 := Try.func128.trans (congrArg some (by kernel_rfl))
  f328 := Try.func141.trans (congrArg some (by kernel_rfl))
  f329 := Try.func142.trans (congrArg some (by kernel_rfl))
  f330 := Try.func143.trans (congrArg some (by kernel_rfl))
  f331 := Try.func144.trans (congrArg some (by kernel_rfl))
  f332 := Try.func145.trans (congrArg some (by kernel_rfl))
  f343 := Try.func152.trans (congrArg some (by kernel_rfl))
  t0 := Try.underlying0
  a0 := Try.isAgg0
  z0 := Try.sizeOf0
  v0 := Try.zeroValue0
  t3 := Try.underlying3
  a3 := Try.isAgg3
  z3 := Try.sizeOf3
  v3 := Try.zeroValue3
  t4 := Try.underlying4
  a4 := Try.isAgg4
  z4 := Try.sizeOf4
  v4 := Try.zeroValue4
  t5 := Try.underlying5
  a5 := Try.isAgg5
  z5 := Try.sizeOf5
  v5 := Try.zeroValue5
  t9 := Try.underlying9
  a9 := Try.isAgg9
  z9 := Try.sizeOf9
  v9 := Try.zeroValue9
  t28 := Try.underlying35
  a28 := Try.isAgg35
  z28 := Try.sizeOf35
  v28 := Try.zeroValue35
  t46 := Try.underlying175
  a46 := Try.isAgg175
  z46 := Try.sizeOf175
  v46 := Try.zeroValue175
  t51 := Try.underlying190
  a51 := Try.isAgg190
  z51 := Try.sizeOf190
  v51 := Try.zeroValue190
  t53 := Try.underlying192
  a53 := Try.isAgg192
  z53 := Try.sizeOf192
  v53 := Try.zeroValue192
  t131 := Try.underlying85
  a131 := Try.isAgg85
  z131 := Try.sizeOf85
  v131 := Try.zeroValue85
  t182 := Try.underlying183
  a182 := Try.isAgg183
  z182 := Try.sizeOf183
  v182 := Try.zeroValue183
  t183 := Try.underlying184
  a183 := Try.isAgg184
  z183 := Try.sizeOf184
  v183 := Try.zeroValue184
  t218 := Try.underlying198
  a218 := Try.isAgg198
  z218 := Try.sizeOf198
  v218 := Try.zeroValue198
  t222 := Try.underlying202
  a222 := Try.isAgg202
  z222 := Try.sizeOf202
  v222 := Try.zeroValue202
  t228 := Try.underlying207
  a228 := Try.isAgg207
  z228 := Try.sizeOf207
  v228 := Try.zeroValue207
  t229 := Try.underlying208
  a229 := Try.isAgg208
  z229 := Try.sizeOf208
  v229 := Try.zeroValue208 }
open Go.Sort Go.RowKit in
theorem Try.slices_Sort_int (blk off cap : Nat) (zs : List Int) (w : World) (hH : Holds (Value.int .i64) w blk off zs.toArray) (hblk : blk < w.heap.size) (hsz : zs.length < 4611686018427387904) :
    Calls Try.prog 79 #[.slice (some ⟨blk, off, none⟩) zs.length cap] w fun e w' =>
      e = .returned (.tuple #[]) ∧ ∃ n os, w' = grow (putRow (Value.int .i64) (Sort.ahead w n) blk off (zs.mergeSort fun x y => decide (x ≤ y)).toArray) os := Any.slices_Sort_int Try.lays189 blk off cap zs w hH hblk hsz
def Try.lays190_ren : Go.Shelf.Ren := ⟨fun | 190 => 108 | 125 => 111 | 258 => 119 | 128 => 129 | 129 => 130 | 302 => 132 | 303 => 133 | 304 => 134 | 305 => 135 | 306 => 136 | 307 => 137 | 308 => 138 | 309 => 139 | 310 => 140 | 333 => 148 | 329 => 142 | 330 => 143 | 334 => 149 | 335 => 150 | 336 => 151 | 344 => 153 | n => n, fun | 31 => 30 | 9 => 9 | 3 => 3 | 46 => 175 | 0 => 0 | 51 => 190 | 53 => 192 | 4 => 4 | 183 => 184 | 182 => 183 | 131 => 85 | 5 => 5 | 218 => 198 | 222 => 202 | 228 => 207 | 229 => 208 | n => n, fun | n => n⟩
theorem Try.lays190 : Go.Proofs.Lays.n190 Try.prog Try.lays190_ren := {
  mixed := by kernel_rfl
  f125 := Try.func111.trans (congrArg some (by kernel_rfl))
  f128 := Try.func129.trans (congrArg some (by kernel_rfl))
  f129 := Try.func130.trans (congrArg some (by kernel_rfl))
  f190 := Try.func108.trans (congrArg some (by kernel_rfl))
  f258 := Try.func119.trans (congrArg some (by kernel_rfl))
  f302 := Try.func132.trans (congrArg some (by kernel_rfl))
  f303 := Try.func133.trans (congrArg some (by kernel_rfl))
  f304 := Try.func134.trans (congrArg some (by kernel_rfl))
  f305 := Try.func135.trans (congrArg some (by kernel_rfl))
  f306 := Try.func136.trans (congrArg some (by kernel_rfl))
  f307 := Try.func137.trans (congrArg some (by kernel_rfl))
  f308 := Try.func138.trans (congrArg some (by kernel_rfl))
  f309 := Try.func139.trans (congrArg some (by kernel_rfl))
  f310 := Try.func140.trans (congrArg some (by kernel_rfl))
  f329 := Try.func142.trans (congrArg some (by kernel_rfl))
  f330 := Try.func143.trans (congrArg some (by kernel_rfl))
  f333 := Try.func148.trans (congrArg some (by kernel_rfl))
  f334 := Try.func149.trans (congrArg some (by kernel_rfl))
  f335 := Try.func150.trans (congrArg some (by kernel_rfl))
  f336 := Try.func151.trans (congrArg some (by kernel_rfl))
  f344 := Try.func153.trans (congrArg some (by kernel_rfl))
  t0 := Try.underlying0
  a0 := Try.isAgg0
  z0 := Try.sizeOf0
  v0 := Try.zeroValue0
  t3 := Try.underlying3
  a3 := Try.isAgg3
  z3 := Try.sizeOf3
  v3 := Try.zeroValue3
  t4 := Try.underlying4
  a4 := Try.isAgg4
  z4 := Try.sizeOf4
  v4 := Try.zeroValue4
  t5 := Try.underlying5
  a5 := Try.isAgg5
  z5 := Try.sizeOf5
  v5 := Try.zeroValue5
  t9 := Try.underlying9
  a9 := Try.isAgg9
  z9 := Try.sizeOf9
  v9 := Try.zeroValue9
  t31 := Try.underlying30
  a31 := Try.isAgg30
  z31 := Try.sizeOf30
  v31 := Try.zeroValue30
  t46 := Try.underlying175
  a46 := Try.isAgg175
  z46 := Try.sizeOf175
  v46 := Try.zeroValue175
  t51 := Try.underlying190
  a51 := Try.isAgg190
  z51 := Try.sizeOf190
  v51 := Try.zeroValue190
  t53 := Try.underlying192
  a53 := Try.isAgg192
  z53 := Try.sizeOf192
  v53 := Try.zeroValue192
  t131 := Try.underlying85
  a131 := Try.isAgg85
  z131 := Try.sizeOf85
  v131 := Try.zeroValue85
  t182 := Try.underlying183
  a182 := Try.isAgg183
  z182 := Try.sizeOf183
  v182 := Try.zeroValue183
  t183 := Try.underlying184
  a183 := Try.isAgg184
  z183 := Try.sizeOf184
  v183 := Try.zeroValue184
  t218 := Try.underlying198
  a218 := Try.isAgg198
  z218 := Try.sizeOf198
  v218 := Try.zeroValue198
  t222 := Try.underlying202
  a222 := Try.isAgg202
  z222 := Try.sizeOf202
  v222 := Try.zeroValue202
  t228 := Try.underlying207
  a228 := Try.isAgg207
  z228 := Try.sizeOf207
  v228 := Try.zeroValue207
  t229 := Try.underlying208
  a229 := Try.isAgg208
  z229 := Try.sizeOf208
  v229 := Try.zeroValue208 }
open Go.Sort Go.RowKit in
theorem Try.slices_Sort_string (blk off cap : Nat) (ss : List (List UInt8)) (w : World) (hH : Holds encStr w blk off ss.toArray) (hblk : blk < w.heap.size) (hsz : ss.length < 4611686018427387904) :
    Calls Try.prog 108 #[.slice (some ⟨blk, off, none⟩) ss.length cap] w fun e w' =>
      e = .returned (.tuple #[]) ∧ ∃ n os, w' = grow (putRow encStr (Sort.ahead w n) blk off (ss.mergeSort fun x y => decide (x ≤ y)).toArray) os := Any.slices_Sort_string Try.lays190 blk off cap ss w hH hblk hsz
def Try.lays206_ren : Go.Shelf.Ren := ⟨fun | 206 => 117 | n => n, fun | 9 => 9 | 4 => 4 | 3 => 3 | n => n, fun | n => n⟩
theorem Try.lays206 : Go.Proofs.Lays.n206 Try.prog Try.lays206_ren := {
  mixed := by kernel_rfl
  f206 := Try.func117.trans (congrArg some (by kernel_rfl))
  t3 := Try.underlying3
  a3 := Try.isAgg3
  z3 := Try.sizeOf3
  v3 := Try.zeroValue3
  t4 := Try.underlying4
  a4 := Try.isAgg4
  z4 := Try.sizeOf4
  v4 := Try.zeroValue4
  t9 := Try.underlying9
  a9 := Try.isAgg9
  z9 := Try.sizeOf9
  v9 := Try.zeroValue9 }
open Go.RowKit Go.Lib in
/-- internal/stringslite.HasPrefix (what strings.HasPrefix calls). (LAID: no walk: one application.) -/
theorem Try.stringslite_HasPrefix (s p : ByteArray) (w : World) :
    Calls Try.prog 117 #[.string s, .string p] w fun e w' => e = .returned (.bool (Lib.hasPrefix s.data.toList p.data.toList)) ∧ w' = w := Any.stringslite_HasPrefix Try.lays206 s p w
def Try.lays99_ren : Go.Shelf.Ren := ⟨fun | 99 => 95 | 206 => 117 | n => n, fun | 9 => 9 | 4 => 4 | 3 => 3 | n => n, fun | n => n⟩
theorem Try.lays99 : Go.Proofs.Lays.n99 Try.prog Try.lays99_ren := {
  mixed := by kernel_rfl
  f99 := Try.func95.trans (congrArg some (by kernel_rfl))
  f206 := Try.func117.trans (congrArg some (by kernel_rfl))
  t3 := Try.underlying3
  a3 := Try.isAgg3
  z3 := Try.sizeOf3
  v3 := Try.zeroValue3
  t4 := Try.underlying4
  a4 := Try.isAgg4
  z4 := Try.sizeOf4
  v4 := Try.zeroValue4
  t9 := Try.underlying9
  a9 := Try.isAgg9
  z9 := Try.sizeOf9
  v9 := Try.zeroValue9 }
open Go.RowKit Go.Lib in
/-- strings.HasPrefix: "HasPrefix reports whether the string s begins with prefix.": IT RETURNS 'Lib.hasPrefix s prefix'; the world is as it was. (LAID: no walk: one application.) -/
theorem Try.strings_HasPrefix (s p : ByteArray) (w : World) :
    Calls Try.prog 95 #[.string s, .string p] w fun e w' => e = .returned (.bool (Lib.hasPrefix s.data.toList p.data.toList)) ∧ w' = w := Any.strings_HasPrefix Try.lays99 s p w
def Try.laysNm216_ren : Go.Shelf.Ren := ⟨fun | 16 => 93 | n => n, fun | 24 => 30 | 9 => 9 | 4 => 4 | n => n, fun | n => n⟩
theorem Try.laysNm216 : Go.Proofs.Lays2.n16 Try.prog Try.laysNm216_ren := {
  mixed := by kernel_rfl
  f16 := Try.func93.trans (congrArg some (by kernel_rfl))
  t4 := Try.underlying4
  a4 := Try.isAgg4
  z4 := Try.sizeOf4
  v4 := Try.zeroValue4
  t9 := Try.underlying9
  a9 := Try.isAgg9
  z9 := Try.sizeOf9
  v9 := Try.zeroValue9
  t24 := Try.underlying30
  a24 := Try.isAgg30
  z24 := Try.sizeOf30
  v24 := Try.zeroValue30
  i9 := by kernel_rfl }
open Go.RowKit Go.Lib in
/-- slices.Clone at []string: "Clone returns a copy of the slice. The elements are copied using assignment, so this is a shallow clone. The result may have additional unused capacity. The result preserves the nilness of s.": OF A SLICE THAT IS NOT nil IT RETURNS A SLICE THAT IS NOT nil, OF THE SAME ELEMENTS, IN MEMORY OF THE CALL's OWN: in the how-to's words (6f): 'w'.ownsRow B e 1 v' n cells': v' begins at the head of a row among the blocks from B on (B: the heap's size at the call), not frozen, whose first cells are the elements · 'Below B w w'': below B all is as it was. The capacity is whatever the run-time gives. 'zs': what the cells behind the slice's address hold; 'zs.take n': its elements. (LAID: no walk: one application.) -/
theorem Try.slices_Clone_string (b off n c : Nat) (zs : List ByteArray) (w : World) (hz : n ≤ zs.length) (hbig : n * 16 ≤ 140737488355328) (hc : ∀ j, j < zs.length → w.cell? ⟨b, off + j, none⟩ = some (.string (zs.getD j ByteArray.empty))) :
    Calls Try.prog 93 #[.slice (some ⟨b, off, none⟩) n c] w fun e w' => ∃ v', e = .returned v' ∧ w'.ownsRow w.heap.size 9 1 v' n ((zs.take n).map (Value.string)) ∧ v' ≠ .slice none 0 0 ∧ Below w.heap.size w w' := Any.slices_Clone_string Try.laysNm216 b off n c zs w hz hbig hc
open Go.RowKit Go.Lib in
/-- The same at nil: nil comes back; the world is as it was. (LAID: no walk: one application.) -/
theorem Try.slices_Clone_string_nil (n c : Nat) (w : World) :
    Calls Try.prog 93 #[.slice none n c] w fun e w' => e = .returned (.slice none 0 0) ∧ w' = w := Any.slices_Clone_string_nil Try.laysNm216 n c w
open Go.RowKit Go.Lib in
/-- The same at a slice of length 0 that is not nil, WHATEVER ITS ADDRESS (no cell is asked for): a slice that is not nil and owns nothing comes back. (LAID: no walk: one application.) -/
theorem Try.slices_Clone_string_zero (a : Addr) (c : Nat) (w : World) :
    Calls Try.prog 93 #[.slice (some a) 0 c] w fun e w' => ∃ v', e = .returned v' ∧ w'.ownsRow w.heap.size 9 1 v' 0 [] ∧ v' ≠ .slice none 0 0 ∧ Below w.heap.size w w' := Any.slices_Clone_string_zero Try.laysNm216 a c w
def Try.laysNm220_ren : Go.Shelf.Ren := ⟨fun | 20 => 80 | n => n, fun | 22 => 35 | 3 => 3 | 4 => 4 | 0 => 0 | n => n, fun | n => n⟩
theorem Try.laysNm220 : Go.Proofs.Lays2.n20 Try.prog Try.laysNm220_ren := {
  mixed := by kernel_rfl
  f20 := Try.func80.trans (congrArg some (by kernel_rfl))
  t0 := Try.underlying0
  a0 := Try.isAgg0
  z0 := Try.sizeOf0
  v0 := Try.zeroValue0
  t3 := Try.underlying3
  a3 := Try.isAgg3
  z3 := Try.sizeOf3
  v3 := Try.zeroValue3
  t4 := Try.underlying4
  a4 := Try.isAgg4
  z4 := Try.sizeOf4
  v4 := Try.zeroValue4
  t22 := Try.underlying35
  a22 := Try.isAgg35
  z22 := Try.sizeOf35
  v22 := Try.zeroValue35
  i3 := by kernel_rfl }
open Go.RowKit Go.Lib Go.Sort in
/-- slices.Compact at []int, over an array: the library's two loops are walked. (LAID: no walk: one application.) -/
theorem Try.slices_Compact_int_arr (blk off cap : Nat) (d : Array Int) (w : World) (hH : Holds encI w blk off d) (hsz : d.size ≤ 9223372036854775807) (hcap : d.size ≤ cap) :
    Calls Try.prog 80 #[.slice (some ⟨blk, off, none⟩) d.size cap] w fun e w' => e = .returned (.slice (some ⟨blk, off, none⟩) (compactUpTo d d.size).length cap) ∧ ∃ q, w' = putRow encI (Sort.ahead w q) blk off (compactUpTo d d.size ++ List.replicate (d.size - (compactUpTo d d.size).length) 0).toArray := Any.slices_Compact_int_arr Try.laysNm220 blk off cap d w hH hsz hcap
open Go.RowKit Go.Lib Go.Sort in
/-- slices.Compact at []int: "Compact replaces consecutive runs of equal elements with a single copy. This is like the uniq command found on Unix. Compact modifies the contents of the slice s and returns the modified slice, which may have a smaller length. Compact zeroes the elements between the new length and the original length. The result preserves the nilness of s.": IT RETURNS THE SLICE CUT TO 'Lib.compact zs'; ITS CELLS HOLD 'Lib.compact zs', THEN ZERO VALUES up to the old length; all else is as it was, but for the count of draws. IN THE WORDS OF slices.Sort's CONTRACT ('Holds', 'putRow'): so the everyday 'slices.Sort(xs); xs = slices.Compact(xs)' goes from the one contract to the other. It asks 'zs.length ≤ cap' (every slice's: the reslicing 's[:k]' looks at it). Length 0, nil: '.._empty'. (LAID: no walk: one application.) -/
theorem Try.slices_Compact_int (blk off cap : Nat) (zs : List Int) (w : World) (hH : Holds (Value.int .i64) w blk off zs.toArray) (hsz : zs.length ≤ 9223372036854775807) (hcap : zs.length ≤ cap) :
    Calls Try.prog 80 #[.slice (some ⟨blk, off, none⟩) zs.length cap] w fun e w' => e = .returned (.slice (some ⟨blk, off, none⟩) (Lib.compact zs).length cap) ∧ ∃ q, w' = putRow (Value.int .i64) (Sort.ahead w q) blk off (Lib.compact zs ++ List.replicate (zs.length - (Lib.compact zs).length) 0).toArray := Any.slices_Compact_int Try.laysNm220 blk off cap zs w hH hsz hcap
open Go.RowKit Go.Lib Go.Sort in
/-- The same at a slice of length 0, a nil one too: it comes back as it is. (LAID: no walk: one application.) -/
theorem Try.slices_Compact_int_empty (a : Option Addr) (cap : Nat) (w : World) :
    Calls Try.prog 80 #[.slice a 0 cap] w fun e w' => e = .returned (.slice a 0 cap) ∧ w' = w := Any.slices_Compact_int_empty Try.laysNm220 a cap w
def Try.lays194_ren : Go.Shelf.Ren := ⟨fun | 194 => 89 | n => n, fun | 31 => 30 | 9 => 9 | 3 => 3 | 4 => 4 | 0 => 0 | n => n, fun | n => n⟩
theorem Try.lays194 : Go.Proofs.Lays.n194 Try.prog Try.lays194_ren := {
  mixed := by kernel_rfl
  f194 := Try.func89.trans (congrArg some (by kernel_rfl))
  t0 := Try.underlying0
  a0 := Try.isAgg0
  z0 := Try.sizeOf0
  v0 := Try.zeroValue0
  t3 := Try.underlying3
  a3 := Try.isAgg3
  z3 := Try.sizeOf3
  v3 := Try.zeroValue3
  t4 := Try.underlying4
  a4 := Try.isAgg4
  z4 := Try.sizeOf4
  v4 := Try.zeroValue4
  t9 := Try.underlying9
  a9 := Try.isAgg9
  z9 := Try.sizeOf9
  v9 := Try.zeroValue9
  t31 := Try.underlying30
  a31 := Try.isAgg30
  z31 := Try.sizeOf30
  v31 := Try.zeroValue30 }
open Go.RowKit Go.Lib Go.Sort in
/-- slices.Compact at []string, over an array: the library's two loops are walked. (LAID: no walk: one application.) -/
theorem Try.slices_Compact_string_arr (blk off cap : Nat) (d : Array (List UInt8)) (w : World) (hH : Holds encStr w blk off d) (hsz : d.size ≤ 9223372036854775807) (hcap : d.size ≤ cap) :
    Calls Try.prog 89 #[.slice (some ⟨blk, off, none⟩) d.size cap] w fun e w' => e = .returned (.slice (some ⟨blk, off, none⟩) (compactUpTo d d.size).length cap) ∧ ∃ q, w' = putRow encStr (Sort.ahead w q) blk off (compactUpTo d d.size ++ List.replicate (d.size - (compactUpTo d d.size).length) []).toArray := Any.slices_Compact_string_arr Try.lays194 blk off cap d w hH hsz hcap
open Go.RowKit Go.Lib Go.Sort in
/-- slices.Compact at []string: "Compact replaces consecutive runs of equal elements with a single copy. This is like the uniq command found on Unix. Compact modifies the contents of the slice s and returns the modified slice, which may have a smaller length. Compact zeroes the elements between the new length and the original length. The result preserves the nilness of s.": IT RETURNS THE SLICE CUT TO 'Lib.compact zs'; ITS CELLS HOLD 'Lib.compact zs', THEN ZERO VALUES up to the old length; all else is as it was, but for the count of draws. IN THE WORDS OF slices.Sort's CONTRACT ('Holds', 'putRow'): so the everyday 'slices.Sort(xs); xs = slices.Compact(xs)' goes from the one contract to the other. It asks 'zs.length ≤ cap' (every slice's: the reslicing 's[:k]' looks at it). Length 0, nil: '.._empty'. (LAID: no walk: one application.) -/
theorem Try.slices_Compact_string (blk off cap : Nat) (zs : List (List UInt8)) (w : World) (hH : Holds encStr w blk off zs.toArray) (hsz : zs.length ≤ 9223372036854775807) (hcap : zs.length ≤ cap) :
    Calls Try.prog 89 #[.slice (some ⟨blk, off, none⟩) zs.length cap] w fun e w' => e = .returned (.slice (some ⟨blk, off, none⟩) (Lib.compact zs).length cap) ∧ ∃ q, w' = putRow encStr (Sort.ahead w q) blk off (Lib.compact zs ++ List.replicate (zs.length - (Lib.compact zs).length) []).toArray := Any.slices_Compact_string Try.lays194 blk off cap zs w hH hsz hcap
open Go.RowKit Go.Lib Go.Sort in
/-- The same at a slice of length 0, a nil one too: it comes back as it is. (LAID: no walk: one application.) -/
theorem Try.slices_Compact_string_empty (a : Option Addr) (cap : Nat) (w : World) :
    Calls Try.prog 89 #[.slice a 0 cap] w fun e w' => e = .returned (.slice a 0 cap) ∧ w' = w := Any.slices_Compact_string_empty Try.lays194 a cap w
def Try.laysNm237_ren : Go.Shelf.Ren := ⟨fun | 37 => 146 | n => n, fun | 3 => 3 | 4 => 4 | n => n, fun | n => n⟩
theorem Try.laysNm237 : Go.Proofs.Lays2.n37 Try.prog Try.laysNm237_ren := {
  mixed := by kernel_rfl
  f37 := Try.func146.trans (congrArg some (by kernel_rfl))
  t3 := Try.underlying3
  a3 := Try.isAgg3
  z3 := Try.sizeOf3
  v3 := Try.zeroValue3
  t4 := Try.underlying4
  a4 := Try.isAgg4
  z4 := Try.sizeOf4
  v4 := Try.zeroValue4 }
open Go.RowKit Go.Lib in
/-- cmp.isNaN[int]: 'x != x': false. (LAID: no walk: one application.) -/
theorem Try.cmp_isNaN_int2 (x : Int) (w : World) :
    Calls Try.prog 146 #[.int .i64 x] w fun e w' => e = .returned (.bool false) ∧ w' = w := Any.cmp_isNaN_int2 Try.laysNm237 x w
def Try.laysNm231_ren : Go.Shelf.Ren := ⟨fun | 31 => 126 | 37 => 146 | n => n, fun | 3 => 3 | 4 => 4 | n => n, fun | n => n⟩
theorem Try.laysNm231 : Go.Proofs.Lays2.n31 Try.prog Try.laysNm231_ren := {
  mixed := by kernel_rfl
  f31 := Try.func126.trans (congrArg some (by kernel_rfl))
  f37 := Try.func146.trans (congrArg some (by kernel_rfl))
  t3 := Try.underlying3
  a3 := Try.isAgg3
  z3 := Try.sizeOf3
  v3 := Try.zeroValue3
  t4 := Try.underlying4
  a4 := Try.isAgg4
  z4 := Try.sizeOf4
  v4 := Try.zeroValue4 }
open Go.RowKit Go.Lib in
/-- cmp.Less[int]: "Less reports whether x is less than y.": 'x < y'; the world is as it was. (LAID: no walk: one application.) -/
theorem Try.cmp_Less_int2 (x y : Int) (w : World) :
    Calls Try.prog 126 #[.int .i64 x, .int .i64 y] w fun e w' => e = .returned (.bool (decide (x < y))) ∧ w' = w := Any.cmp_Less_int2 Try.laysNm231 x y w
open Go.RowKit Go.Lib Go.Sort in
/-- slices.Compact at []int, of an argument: the slice cut to 'Lib.compact (elements)'; the n cells hold that, then zeros. (LAID: no walk: one application.) -/
theorem Try.slices_Compact_int_cells (b off n c : Nat) (zs : List Int) (w : World) (hz : n ≤ zs.length) (hbig : n ≤ 9223372036854775807) (hcap : n ≤ c) (hc : ∀ j, j < zs.length → w.cell? ⟨b, off + j, none⟩ = some (.int .i64 (zs.getD j 0))) (hf : ∀ j, j < n → w.frozen? ⟨b, off + j, none⟩ = false) :
    Calls Try.prog 80 #[.slice (some ⟨b, off, none⟩) n c] w fun e w' => e = .returned (.slice (some ⟨b, off, none⟩) (Lib.compact (zs.take n)).length c) ∧ ∃ q, w' = (w.drewN q).setCells b off ((Lib.compact (zs.take n) ++ List.replicate (n - (Lib.compact (zs.take n)).length) 0).map (Value.int .i64)) := Any.slices_Compact_int_cells Try.laysNm220 b off n c zs w hz hbig hcap hc hf
open Go.RowKit Go.Lib Go.Sort in
/-- slices.Compact at []string, of an argument. (LAID: no walk: one application.) -/
theorem Try.slices_Compact_string_cells (b off n c : Nat) (Sx : Nat → ByteArray) (w : World) (hbig : n ≤ 9223372036854775807) (hcap : n ≤ c) (hc : ∀ i, i < n → w.cell? ⟨b, off + i, none⟩ = some (.string (Sx i))) (hf : ∀ j, j < n → w.frozen? ⟨b, off + j, none⟩ = false) :
    Calls Try.prog 89 #[.slice (some ⟨b, off, none⟩) n c] w fun e w' => e = .returned (.slice (some ⟨b, off, none⟩) (Lib.compact (Lib.strsOf Sx n)).length c) ∧ ∃ q, w' = (w.drewN q).setCells b off ((Lib.compact (Lib.strsOf Sx n) ++ List.replicate (n - (Lib.compact (Lib.strsOf Sx n)).length) []).map encStr) := Any.slices_Compact_string_cells Try.lays194 b off n c Sx w hbig hcap hc hf
open Go.RowKit Go.Sort in
/-- .. and plain. (LAID: no walk: one application.) -/
theorem Try.slices_Sort_string_none (p : Option Addr) (cap : Nat) (w : World) :
    Calls Try.prog 108 #[.slice p 0 cap] w fun e w' => e = .returned (.tuple #[]) ∧ w' = w := Any.slices_Sort_string_none Try.lays190 p cap w
open Go.RowKit Go.Sort in
/-- .. and plain. (LAID: no walk: one application.) -/
theorem Try.slices_Sort_int_none (p : Option Addr) (cap : Nat) (w : World) :
    Calls Try.prog 79 #[.slice p 0 cap] w fun e w' => e = .returned (.tuple #[]) ∧ w' = w := Any.slices_Sort_int_none Try.lays189 p cap w
end Go.Proofs

/- Structs that are built; stores into rows and blocks; calls that keep all; maps that may be nil; results in cells. -/
import Derived.Test.YtnamhhmfnokfiaaQK
import Derived.Lib.SliceRun
import Derived.Laws.StructEq
namespace Go.SL
open Go

/-! ### values of one cell -/
def OneC (L : List A) (v : Value) : Prop := ∀ w O, Stars L w O → v.oneCell' = true
theorem OneC.lit {L : List A} {v : Value} (h : v.oneCell' = true) : OneC L v := fun _ _ _ => h
theorem OneC.sl {L : List A} {α : Type} {e : Enc α} {v : Value} {zs : List α} (h : Has L (Sl e v zs)) : OneC L v := fun w O hs => by obtain ⟨a, cap, rfl, _⟩ := h w O hs; rfl
def OneAll (L : List A) (vs : List Value) : Prop := ∀ w O, Stars L w O → ∀ v ∈ vs, v.oneCell' = true
theorem OneAll.nil {L : List A} : OneAll L [] := fun _ _ _ _ h => by cases h
theorem OneAll.cons {L : List A} {v : Value} {vs : List Value} (h : OneC L v) (t : OneAll L vs) : OneAll L (v :: vs) := fun w O hs u hu => by
  rcases List.mem_cons.1 hu with rfl | hu
  · exact h w O hs
  · exact t w O hs u hu
theorem cells_one {v : Value} (h : v.oneCell' = true) : v.cells = #[v] := by cases v <;> first | rfl | cases h
/-- What a value's cells are. -/
def CellsV (L : List A) (u : Value) (new : List Value) : Prop := ∀ w O, Stars L w O → u.cells.toList = new
theorem CellsV.lit {L : List A} {u : Value} {new : List Value} (h : u.cells.toList = new) : CellsV L u new := fun _ _ _ => h
theorem CellsV.one {L : List A} {u : Value} (h : OneC L u) : CellsV L u [u] := fun w O hs => by rw [cells_one (h w O hs)]
/-- Cells that are one by one. -/
theorem OneAll.rd {L : List A} {α : Type} {e : Enc α} {cs : List Value} {z : α} (h : Has L (Rd e cs z)) : OneAll L cs := fun w O hs => e.one (h w O hs)

/-! ### structs that are built -/
def fillC (place : Nat → Option (Nat × Nat)) (cells : List Value) : List (Nat × List Value) → Option (List Value)
  | [] => some cells
  | (i, c) :: rest => match place i with
    | none => none
    | some (off, size) => if Nat.beq c.length size && Nat.ble (off + c.length) cells.length then fillC place (cells.take off ++ c ++ cells.drop (off + c.length)) rest else none
theorem fill_of (place : Nat → Option (Nat × Nat)) : ∀ (vs : List (Nat × Value)) (cells : List Value) (out : List Value), fillC place cells (vs.map fun p => (p.1, p.2.cells.toList)) = some out → Instr.fill place cells.toArray vs = some out.toArray
  | [], cells, out, h => by simp [fillC] at h; simp [Instr.fill, h]
  | (i, v) :: rest, cells, out, h => by
    simp only [List.map_cons, fillC] at h
    rw [Instr.fill]
    cases hp : place i with
    | none => rw [hp] at h; cases h
    | some p =>
      obtain ⟨off, size⟩ := p
      rw [hp] at h
      simp only at h
      split at h
      · rename_i hc
        simp only [Bool.and_eq_true, Nat.ble_eq] at hc
        have h1 : v.cells.size = size := by rw [← Nat.eq_of_beq_eq_true hc.1]; simp
        have h2 : off + v.cells.size ≤ cells.length := by simpa using hc.2
        simp only
        rw [if_neg (by simp [h1]; omega)]
        have hf := fold_set off v.cells.toList 0 cells.toArray (by simp; omega)
        have hcon : (v.cells.zipIdx.foldl (fun cs (x : Value × Nat) => cs.setIfInBounds (off + x.2) x.1) cells.toArray) = (cells.take off ++ v.cells.toList ++ cells.drop (off + v.cells.toList.length)).toArray := by
          rw [← Array.foldl_toList]
          simpa using hf
        exact (congrArg (fun q => Instr.fill place q rest) hcon).trans (fill_of place rest _ _ h)
      · cases h
def builtC (P : Program) (t : TypeId) (parts : List (Nat × List Value)) : Option (List Value) :=
  match P.info? t, P.underlying t with
  | some it, some (.array _ e) =>
    match it.zero, P.info? e with
    | some z, some ie => fillC (fun i => some (i * ie.size, ie.size)) z.cells.toList parts
    | _, _ => none
  | some it, some (.struct fields) =>
    match it.zero, fields.toList.mapM (fun f => (P.info? f.type).map fun i => (f.offset, i.size)) with
    | some z, some places => fillC (places.toArray[·]?) z.cells.toList parts
    | _, _ => none
  | _, _ => none
theorem built_of {P : Program} {t : TypeId} {vs : List (Nat × Value)} {out : List Value} (h : builtC P t (vs.map fun p => (p.1, p.2.cells.toList)) = some out) : P.built t vs = some out.toArray := by
  unfold builtC at h
  unfold Program.built
  split at h
  · rename_i it _ e h1 h2
    simp only [h1, h2]
    cases hz : it.zero with
    | none => simp [hz] at h
    | some z =>
      cases he : P.info? e with
      | none => simp [hz, he] at h
      | some ie =>
        simp only [hz, he] at h
        have := fill_of _ vs z.cells.toList out h
        simpa using this
  · rename_i it fields h1 h2
    simp only [h1, h2]
    cases hz : it.zero with
    | none => simp [hz] at h
    | some z =>
      cases he : fields.toList.mapM (fun f => (P.info? f.type).map fun i => (f.offset, i.size)) with
      | none => simp [hz, he] at h
      | some places =>
        simp only [hz, he] at h
        have := fill_of _ vs z.cells.toList out h
        simpa using this
  · cases h
def evalP (env : Env) : List (Nat × Operand) → Option (List (Nat × Value))
  | [] => some []
  | (i, x) :: ps => match env.eval x, evalP env ps with
    | some v, some vs => some ((i, v) :: vs)
    | _, _ => none
theorem evalP_map {X : Cx} {env : Env} {a : Act} (ha : Holds X env a) : ∀ {ps : List (Nat × Operand)} {vs : List (Nat × Value)}, evalP env ps = some vs → ps.map (fun (x : Nat × Operand) => (x.1, a.eval x.2)) = vs
  | [], vs, h => by simp [evalP] at h; simp [h]
  | (i, x) :: ps, vs, h => by
    unfold evalP at h
    split at h
    · rename_i v vs' h1 h2
      cases h
      simp [ha.eval h1, evalP_map ha h2]
    · cases h
def PartsC (L : List A) (vs : List (Nat × Value)) (css : List (Nat × List Value)) : Prop := ∀ w O, Stars L w O → vs.map (fun p => (p.1, p.2.cells.toList)) = css
theorem PartsC.nil {L : List A} : PartsC L [] [] := fun _ _ _ => rfl
theorem PartsC.one {L : List A} {i : Nat} {v : Value} {vs : List (Nat × Value)} {css : List (Nat × List Value)} (h : OneC L v) (t : PartsC L vs css) : PartsC L ((i, v) :: vs) ((i, [v]) :: css) := fun w O hs => by
  rw [List.map_cons, t w O hs, cells_one (h w O hs)]
theorem PartsC.lit {L : List A} {i : Nat} {v : Value} {c : List Value} {vs : List (Nat × Value)} {css : List (Nat × List Value)} (h : v.cells.toList = c) (t : PartsC L vs css) : PartsC L ((i, v) :: vs) ((i, c) :: css) := fun w O hs => by
  rw [List.map_cons, t w O hs, h]

section
variable {K : Act → World → Prop} {X : Cx} {ops : Array Oper} {rest : List Oper} {kk : List Item} {env : Env} {L L1 L2 : List A} {d : Nat} {T : TypeId} {pos : String} {af : Array Edge} {x y : Operand}
variable {α : Type} {e : Enc α} {v u : Value} {zs ys : List α} {E : TypeId}

theorem v_build {t : TypeId} {ps : List (Nat × Operand)} {vs : List (Nat × Value)} {css : List (Nat × List Value)} {cells : List Value} (hp : evalP env ps = some vs) (hc : PartsC L vs css) (hb : builtC X.P t css = some cells) : Val X env L (.build t ps.toArray) T (.agg cells.toArray) :=
  fun _ _ _ _ a w O ha hst => by
    have h1 := evalP_map ha hp
    have hrun := run_build (P := X.P) w t vs.toArray cells.toArray (built_of (by rw [hc w O hst]; exact hb))
    have h2 : (ps.toArray.map fun (x : Nat × Operand) => (x.1, a.eval x.2)) = vs.toArray := by simp [h1]
    have h3 : (Instr.build t (ps.toArray.map fun (x : Nat × Operand) => (x.1, a.eval x.2))).run X.P w = .ok (.agg cells.toArray) w := by rw [h2]; exact hrun
    simp only [execOp]
    have h4 : (Array.map (fun x => match x with | (i, x) => (i, a.eval x)) ps.toArray) = (ps.toArray.map fun (x : Nat × Operand) => (x.1, a.eval x.2)) := by
      congr 1
    rw [h4]
    simp [h1, hrun]
/-- A field that is a struct. -/
theorem v_field_agg {i : Nat} {cs : List Value} {xT : TypeId} {fs fs' : Array Field} {f : Field} {z : Value} {n nb : Nat} (hu : X.P.underlying xT = some (.struct fs)) (hf : fs[i]? = some f) (hv : X.P.underlying f.type = some (.struct fs')) (ht : TI X.P f.type z n nb)
    (hx : env.eval x = some (.agg cs.toArray)) (hl : f.offset + n ≤ cs.length) : Val X env L (.field xT x i) T (.agg ((cs.drop f.offset).take n).toArray) :=
  fun _ _ _ _ a w O ha _ => by
    obtain ⟨ti, hi, _, hsz, _⟩ := ht
    have hia : (isAgg f.type).run X.P w = .ok true w := by simp [isAgg, run_underlying hv]
    have hex : cs.toArray.extract f.offset (f.offset + n) = ((cs.drop f.offset).take n).toArray := by
      simp [List.extract_eq_take_drop]
    simp [execOp, ha.eval hx, Instr.field, run_underlying hu, hf, part, hia, asAgg, sizeOf, typeInfo, hi, hsz, hex]

/-! ### stores -/
theorem setRow_rel {w : World} {O : Perm} {g : Nat} {arr : Array Value} (hb : 2 ≤ O g) (hdom : ∀ b, O b ≠ 0 → b < w.heap.size) : Rel w O (w.setRow g arr) O := by
  refine ⟨rfl, rfl, rfl, by simp, fun c _ hlt => setRow_other w g c _ (by intro h; subst h; omega), fun _ _ => Nat.le_refl _, fun c hc => ?_⟩
  have := hdom c hc; simpa using this
/-- A struct (or any cells) is stored into a block of one's own. -/
theorem s_store_cells {t : TypeId} {b off n : Nat} {bt : TypeId} {cs cs' new : List Value} {z : Value} {nb : Nat} (ht : TI X.P t z n nb) (hx : env.eval x = some (.pointer (some ⟨b, off, none⟩))) (hy : env.eval y = some u) (hc : CellsV L u new) (h1 : OneAll L new) (hn : new.length = n)
    (hp : Pick (Blk b bt cs) L L1) (hlt : off + n ≤ cs.length) (hset : cs.take off ++ new ++ cs.drop (off + n) = cs') (k : Kont X env (Blk b bt cs' :: L1) K) : StepK X kk ⟨none, .store t x y, T, pos, af, none⟩ env L K := by
  refine s_skip (γ := Unit) (pu := fun _ => True) (L' := fun _ => Blk b bt cs' :: L1) ?_ (fun _ _ => k)
  intro a w O ha hst hdom
  obtain ⟨O1, O2, s, ⟨hb2, hh⟩, hs2⟩ := hp w O hst
  have hdom1 : ∀ b, O1 b ≠ 0 → b < w.heap.size := fun b hb => hdom b (by have := s.l b; omega)
  have hcl := hc w O hst
  have hrun := run_storeCells_at X.P b off bt new 0 cs.toArray w hh (by simp; omega) (h1 w O hst)
  have harr : (cs.toArray.toList.take (off + 0) ++ new ++ cs.toArray.toList.drop (off + 0 + new.length)).toArray = cs'.toArray := by simp only [Nat.add_zero, hn]; rw [← hset]
  rw [harr] at hrun
  obtain ⟨P, hP, hrel⟩ := step_at hdom s hs2 (setRow_rel (arr := cs'.toArray) hb2 hdom1) (L' := [Blk b bt cs']) ⟨O1, fun _ => 0, ⟨fun _ => Nat.le_refl _, fun _ => Nat.zero_le _, fun _ _ => rfl, fun _ h => by omega⟩, ⟨hb2, setRow_heap w b _ _ bt _ hh⟩, trivial⟩
  refine ⟨(), _, P, ?_, trivial, hP, hrel⟩
  obtain ⟨ti, hi, _, hsz, _⟩ := ht
  have hsize : u.cells.size = n := by rw [← hn, ← hcl]; simp
  simp [execOp, ha.eval hx, ha.eval hy, Instr.storeAt, Instr.sureAddr, storeVar, sizeOf, typeInfo, hi, hsz, hsize, hcl, hrun]

/-- Cells of a row of one's own are written. -/
theorem own_put {w : World} {O O1 O2 P1 P2 R1 R2 : Perm} {cs : List Value} {ws : List α} {new : List Value} {i : Nat} (hdom : ∀ b, O b ≠ 0 → b < w.heap.size) (s : Split O O1 O2) (t1 : Split O1 P1 P2) (g1 : w.ownsRow 0 E e.n v zs.length cs) (g2 : ∀ k, v.ownBlock = some k → 2 ≤ P1 k) (g3 : Rows e w P2 cs zs) (s2 : Split O2 R1 R2) (hr : Rows e w (fun b => max (P2 b) (R1 b)) new ws) (hL : Stars L1 w R2)
    (hi : i + ws.length ≤ zs.length) (h0 : 0 < zs.length) : ∃ g cap cur, v = .slice (some ⟨g, 0, none⟩) zs.length cap ∧ w.heap[g]? = some (.cells cur E (0, 0)) ∧ i * e.n + new.length ≤ cur.size ∧
      ∃ P, Stars (Own e E v (zs.take i ++ ws ++ zs.drop (i + ws.length)) :: L1) (w.setRow g (cur.toList.take (i * e.n) ++ new ++ cur.toList.drop (i * e.n + new.length)).toArray) P ∧ Rel w O (w.setRow g (cur.toList.take (i * e.n) ++ new ++ cur.toList.drop (i * e.n + new.length)).toArray) P := by
  rcases g1.2 with ⟨rfl, h⟩ | ⟨g, cap, cur, rfl, _, hg, hle, hmx, hsz, htk⟩
  · omega
  have hnew : new.length = ws.length * e.n := hr.length
  have hpg := g2 g rfl
  have hfit : i * e.n + new.length ≤ cur.size := by
    rw [hnew, hsz, ← Nat.add_mul]; exact Nat.mul_le_mul_right _ (by omega)
  refine ⟨g, cap, cur, rfl, hg, hfit, ?_⟩
  generalize hw' : w.setRow g (cur.toList.take (i * e.n) ++ new ++ cur.toList.drop (i * e.n + new.length)).toArray = w'
  have hO1g : 2 ≤ O1 g := Nat.le_trans hpg (t1.l g)
  have hOg : 2 ≤ O g := Nat.le_trans hO1g (s.l g)
  have hoth : ∀ c, c ≠ g → w'.heap[c]? = w.heap[c]? := fun c hc => by rw [← hw']; exact setRow_other w g c _ hc
  have hheap : w'.heap[g]? = some (.cells (cur.toList.take (i * e.n) ++ new ++ cur.toList.drop (i * e.n + new.length)).toArray E (0, 0)) := by rw [← hw']; exact setRow_heap w g _ _ E _ hg
  have hP2g : P2 g = 0 := t1.lr g hpg
  have hO2g : O2 g = 0 := s.lr g hO1g
  have hR1g : R1 g = 0 := by have := s2.l g; omega
  have hR2g : R2 g = 0 := by have := s2.r g; omega
  have hcl : cs.length = zs.length * e.n := g1.1
  have hlen : (zs.take i ++ ws ++ zs.drop (i + ws.length)).length = zs.length := by simp; omega
  have hcs' : (cs.take (i * e.n) ++ new ++ cs.drop ((i + ws.length) * e.n)).length = zs.length * e.n := by
    rw [← hlen]
    simp only [List.length_append, List.length_take, List.length_drop, hcl, hnew, Nat.add_mul]
    have a1 := Nat.mul_le_mul_right e.n hi
    have a2 := Nat.mul_le_mul_right e.n (show i ≤ zs.length by omega)
    rw [Nat.add_mul] at a1
    rw [Nat.min_eq_left a2, Nat.min_eq_left (show i ≤ zs.length by omega), Nat.sub_mul, Nat.add_mul]
  have hrow : w'.ownsRow 0 E e.n (.slice (some ⟨g, 0, none⟩) zs.length cap) (zs.take i ++ ws ++ zs.drop (i + ws.length)).length (cs.take (i * e.n) ++ new ++ cs.drop ((i + ws.length) * e.n)) := by
    rw [hlen]
    refine ⟨hcs', .inr ⟨g, cap, _, rfl, Nat.zero_le _, hheap, hle, hmx, ?_, ?_⟩⟩
    · simp only [List.size_toArray, List.length_append, List.length_take, List.length_drop, Array.length_toList]
      omega
    · have a1 : i * e.n ≤ zs.length * e.n := Nat.mul_le_mul_right _ (by omega)
      have a2 : (i + ws.length) * e.n ≤ zs.length * e.n := Nat.mul_le_mul_right _ hi
      have a4 := Nat.mul_le_mul_right e.n hle
      have e1 : cs.take (i * e.n) = cur.toList.take (i * e.n) := by rw [← htk, List.take_take, Nat.min_eq_left a1]
      have e2 : cs.drop ((i + ws.length) * e.n) = (cur.toList.drop (i * e.n + new.length)).take (zs.length * e.n - (i + ws.length) * e.n) := by
        rw [← htk, List.drop_take, hnew, ← Nat.add_mul]
      have e3 : ((cur.toList.take (i * e.n) ++ new).length) = (i + ws.length) * e.n := by
        rw [List.length_append, List.length_take, Array.length_toList, hnew, Nat.add_mul, Nat.min_eq_left (by omega)]
      rw [e1, e2, List.take_append, e3, List.take_of_length_le (by rw [e3]; exact a2)]
  have m1 : ∀ b, min (P2 b) 1 ≠ 0 → b ≠ g := fun b hb h => by subst h; rw [hP2g] at hb; exact hb rfl
  have m2 : ∀ b, min (max (P2 b) (R1 b)) 1 ≠ 0 → b ≠ g := fun b hb h => by subst h; rw [hR1g, hP2g] at hb; exact hb rfl
  have r1 : Rows e w' (fun b => max (min (P2 b) 1) (min (R1 b) 1)) cs zs := (g3.dup.loc fun b hb => hoth b (m1 b hb)).mono fun b => Nat.le_max_left _ _
  have r2 : Rows e w' (fun b => max (min (P2 b) 1) (min (R1 b) 1)) new ws := (hr.dup.loc fun b hb => hoth b (m2 b hb)).mono fun b => by show min (max (P2 b) (R1 b)) 1 ≤ max (min (P2 b) 1) (min (R1 b) 1); omega
  have hown : (Own e E (.slice (some ⟨g, 0, none⟩) zs.length cap) (zs.take i ++ ws ++ zs.drop (i + ws.length))).h w' (fun b => max (O1 b) (min (R1 b) 1)) := by
    refine Own.of_row hrow (((r1.take i).append r2).append (r1.drop (i + ws.length))) (fun b hb => ?_) (fun b => ?_) (fun b => ?_) (fun b hb => ?_)
    · simp only [Value.ownBlock, Option.some.injEq] at hb
      subst hb
      show max _ _ = 0; rw [hP2g, hR1g]; rfl
    · exact Nat.max_le.2 ⟨Nat.min_le_right _ _, Nat.min_le_right _ _⟩
    · have := t1.r b; show max _ _ ≤ max _ _; omega
    · simp only [Value.ownBlock, Option.some.injEq] at hb
      subst hb
      show 2 ≤ max _ _; omega
  refine ⟨O, ⟨fun b => max (O1 b) (min (R1 b) 1), R2, ⟨fun b => ?_, fun b => ?_, fun b hb => ?_, fun b hb => ?_⟩, hown, hL.loc fun b hb => hoth b (fun h => hb (by rw [h]; exact hR2g))⟩, ?_⟩
  · have := s.l b; have := s.r b; have := s2.l b; show max _ _ ≤ _; omega
  · have := s.r b; have := s2.r b; omega
  · have h2 : 2 ≤ O1 b := by have h' : 2 ≤ max (O1 b) (min (R1 b) 1) := hb; omega
    have := s.lr b h2; have := s2.r b; omega
  · have h3 := s2.rl b hb
    have h4 := s.rl b (by have := s2.r b; omega)
    show max _ _ = 0; omega
  · rw [← hw']; exact setRow_rel hOg hdom
/-- An element of a row of one's own is written. -/
theorem s_store_elem {t : TypeId} {i : Nat} {z : α} {new : List Value} {z0 : Value} {nb : Nat} (ht : TI X.P t z0 e.n nb) (hx : env.eval x = some (.pointer (some (elemAddr v i e.n)))) (hy : env.eval y = some u) (hc : CellsV L u new)
    (hp : Pick (Own e E v zs) L L1) (hz : Beside (Rd e new z) L1) (hi : i < zs.length) (k : Kont X env (Own e E v (zs.set i z) :: L1) K) : StepK X kk ⟨none, .store t x y, T, pos, af, none⟩ env L K := by
  refine s_skip (γ := Unit) (pu := fun _ => True) (L' := fun _ => Own e E v (zs.set i z) :: L1) ?_ (fun _ _ => k)
  intro a w O ha hst hdom
  obtain ⟨O1, O2, s, hO, hs2⟩ := hp w O hst
  obtain ⟨R1, R2, s2, hr, hL⟩ := hz w O2 hs2
  have hcl := hc w O hst
  have hnl : new.length = e.n := e.len hr
  obtain ⟨P1, P2, cs, t1, g1, g2, g3⟩ := hO
  have hr' : Rows e w (fun b => max (P2 b) (R1 b)) new [z] := ⟨new, [], by simp, e.mono hr fun b => Nat.le_max_right _ _, rfl⟩
  obtain ⟨g, cap, cur, rfl, hg, hfit, P, hP, hrel⟩ := own_put hdom s t1 g1 g2 g3 s2 hr' hL (i := i) (by simp; omega) (by omega)
  have hrun := run_storeCells_at X.P g (i * e.n) E new 0 cur w hg (by simpa using hfit) (e.one hr)
  have hset : zs.take i ++ [z] ++ zs.drop (i + 1) = zs.set i z := by
    rw [List.set_eq_take_append_cons_drop, if_pos hi]; simp
  simp only [List.length_singleton, hset] at hP
  refine ⟨(), _, P, ?_, trivial, hP, hrel⟩
  obtain ⟨ti, hti, _, hsz, _⟩ := ht
  have hsize : u.cells.size = e.n := by rw [← hnl, ← hcl]; simp
  have hea : elemAddr (.slice (some ⟨g, 0, none⟩) zs.length cap) i e.n = ⟨g, i * e.n, none⟩ := by simp [elemAddr]
  rw [hea] at hx
  simp only [Nat.add_zero] at hrun
  simp [execOp, ha.eval hx, ha.eval hy, Instr.storeAt, Instr.sureAddr, storeVar, sizeOf, typeInfo, hti, hsz, hsize, hcl, hrun]
/-- clear(v[k:]). -/
theorem s_clear_tail {t : TypeId} {g l cap k0 : Nat} {z : Value} {z0 : α} {nb : Nat} {ts : Array TypeId} (hts : ts[0]? = some t) (hu : X.P.underlying t = some (.slice E)) (hE : TI X.P E z e.n nb) (hzc : z.cells.size = e.n) (hz0 : ∀ w O, e.rd w O z.cells.toList z0) (hn : 0 < e.n)
    (hl : l = zs.length) (hx : env.eval x = some (cutV (some ⟨g, 0, none⟩) k0 l cap e.n)) (hk : k0 ≤ zs.length) (hcap : zs.length ≤ cap)
    (hp : Pick (Own e E (.slice (some ⟨g, 0, none⟩) zs.length cap) zs) L L1) (k : ∀ ws : List α, ws.length = zs.length - k0 → Kont X env (Own e E (.slice (some ⟨g, 0, none⟩) zs.length cap) (zs.take k0 ++ ws) :: L1) K) :
    StepK X kk ⟨none, .call ⟨.builtin .clear, #[x], ts⟩, T, pos, af, none⟩ env L K := by
  subst hl
  refine s_main0 (γ := List α) (V := fun _ => .tuple #[]) (pu := fun ws => ws.length = zs.length - k0) (L' := fun ws => Own e E (.slice (some ⟨g, 0, none⟩) zs.length cap) (zs.take k0 ++ ws) :: L1) ?_ (fun ws h => k ws h)
  intro a w O ha hst hdom
  obtain ⟨O1, O2, s, hO, hs2⟩ := hp w O hst
  obtain ⟨ti, hti, hz1, hsz, _⟩ := hE
  by_cases hlt : k0 < zs.length
  · have hrows : ∀ m : Nat, Rows e w (fun _ => 0) (List.replicate m z.cells.toList).flatten (List.replicate m z0) := by
      intro m
      induction m with
      | zero => rfl
      | succ m ih => exact ⟨z.cells.toList, _, by simp [List.replicate_succ], hz0 _ _, ih⟩
    obtain ⟨P1, P2, cs, t1, g1, g2, g3⟩ := hO
    obtain ⟨g', cap', cur, hv, hg, hfit, P, hP, hrel⟩ := own_put (L1 := L1) hdom s t1 g1 g2 g3 (R1 := fun _ => 0) (R2 := O2) ⟨fun _ => Nat.zero_le _, fun _ => Nat.le_refl _, fun _ h => by omega, fun _ _ => rfl⟩ ((hrows (zs.length - k0)).mono fun b => Nat.zero_le _) hs2 (i := k0) (by simp; omega) (by omega)
    simp only [Value.slice.injEq, Option.some.injEq, Addr.mk.injEq, and_true, true_and] at hv
    obtain ⟨rfl, rfl⟩ := hv
    have hzone : ∀ u ∈ (List.replicate (zs.length - k0) z.cells.toList).flatten, u.oneCell' = true := (hrows _).one
    have hrun := run_storeCells_at X.P g (k0 * e.n) E _ 0 cur w hg (by simpa using hfit) hzone
    have hzero : (Builtin.zeroCells z.cells (zs.length - k0)).toList = (List.replicate (zs.length - k0) z.cells.toList).flatten := by
      simp only [Builtin.zeroCells]
      apply List.ext_getElem
      · simp
      · intro i h1 h2
        simp only [Array.getElem_toList, Array.getElem_map, Array.getElem_range]
        have hlen : i < (zs.length - k0) * z.cells.size := by simpa using h1
        have hpos : 0 < z.cells.size := by omega
        have hmod : i % z.cells.size < z.cells.size := Nat.mod_lt _ hpos
        rw [getElem!_pos z.cells (i % z.cells.size) hmod]
        have key : ∀ (m i : Nat) (h : i < (List.replicate m z.cells.toList).flatten.length), (List.replicate m z.cells.toList).flatten[i] = z.cells[i % z.cells.size]'(Nat.mod_lt _ hpos) := by
          intro m
          induction m with
          | zero => intro i h; simp at h
          | succ m ih =>
            intro i h
            simp only [List.replicate_succ, List.flatten_cons] at h ⊢
            by_cases hi : i < z.cells.size
            · rw [List.getElem_append_left (by simpa using hi)]
              simp [Nat.mod_eq_of_lt hi]
            · rw [List.getElem_append_right (by simp; omega)]
              rw [ih]
              congr 1
              simp only [Array.length_toList]
              rw [← Nat.mod_eq_sub_mod (by omega)]
        exact (key _ i h2).symm
    refine ⟨List.replicate (zs.length - k0) z0, _, P, ?_, by simp, ?_, hrel⟩
    · have hx' : a.eval x = .slice (some ⟨g, k0 * e.n, none⟩) (zs.length - k0) (cap - k0) := by
        rw [ha.eval hx]
        simp only [Go.SL.cutV]
        rw [if_neg (by omega)]
        simp [add_off]
      obtain ⟨m, hm⟩ : ∃ m, zs.length - k0 = m + 1 := ⟨zs.length - k0 - 1, by omega⟩
      simp only [Nat.add_zero] at hrun
      rw [hm] at hrun hzero hx' ⊢
      simp [execOp, resolve, invoke, builtin, hx', Builtin.clear_, hts, run_underlying hu, zeroValue, typeInfo, hti, hz1, hzero, hrun]
    · have : zs.drop (k0 + (List.replicate (zs.length - k0) z0).length) = [] := List.drop_eq_nil_of_le (by simp; omega)
      rw [this, List.append_nil] at hP
      exact hP
  · have hk0 : k0 = zs.length := by omega
    subst hk0
    refine ⟨[], w, O, ?_, by simp, ⟨O1, O2, s, by simpa using hO, hs2⟩, Rel.refl hdom⟩
    have hx' : ∃ a0, a.eval x = .slice (some a0) 0 (cap - zs.length) := by
      rw [ha.eval hx]
      simp only [Go.SL.cutV, Nat.sub_self]
      split
      · exact ⟨_, rfl⟩
      · exact ⟨_, rfl⟩
    obtain ⟨a0, hx'⟩ := hx'
    simp [execOp, resolve, invoke, builtin, hx', Builtin.clear_, hts, run_underlying hu]
/-- The head of a row of one's own. -/
theorem Own.cut {w : World} {O : Perm} {g cap k0 : Nat} (h : (Own e E (.slice (some ⟨g, 0, none⟩) zs.length cap) zs).h w O) (hk : k0 ≤ zs.length) : (Own e E (.slice (some ⟨g, 0, none⟩) k0 cap) (zs.take k0)).h w O := by
  obtain ⟨P1, P2, cs, t1, g1, g2, g3⟩ := h
  rcases g1.2 with ⟨h, _⟩ | ⟨g', cap', cur, hv, _, hg, hle, hmx, hsz, htk⟩
  · cases h
  · cases hv
    refine ⟨P1, P2, cs.take (k0 * e.n), t1, ⟨?_, .inr ⟨g, cap, cur, ?_, Nat.zero_le _, hg, ?_, hmx, hsz, ?_⟩⟩, fun k hk => g2 k (by simpa [Value.ownBlock] using hk), g3.take k0⟩
    · have := Nat.mul_le_mul_right e.n hk
      rw [List.length_take, g1.1, List.length_take, Nat.min_eq_left this, Nat.min_eq_left hk]
    · simp [Nat.min_eq_left hk]
    · simp; omega
    · have := Nat.mul_le_mul_right e.n hk
      rw [← htk, List.take_take, List.length_take, Nat.min_eq_left hk, Nat.min_eq_left this]

/-! ### calls that keep what is there -/
inductive Reads (L : List A) : List A → Prop
  | nil : Reads L []
  | cons {a : A} {l : List A} (hd : a.Dup) (hh : Has L a) (t : Reads L l) : Reads L (a :: l)
theorem Reads.stars {Lp : List A} (h : Reads L Lp) {w : World} {O : Perm} (hs : Stars L w O) : Stars Lp w fun b => min (O b) 1 := by
  induction h with
  | nil => trivial
  | cons hd hh _ ih =>
    exact ⟨fun b => min (O b) 1, fun b => min (O b) 1, ⟨fun _ => Nat.le_refl _, fun _ => Nat.le_refl _, fun b hb => absurd (Nat.le_trans hb (Nat.min_le_right _ _)) (by omega), fun b hb => absurd (Nat.le_trans hb (Nat.min_le_right _ _)) (by omega)⟩, hd w O (hh w O hs), ih⟩
def A.Sep (a : A) : Prop := ∀ w O, a.h w O → a.h w fun b => if 2 ≤ O b then O b else 0
inductive Seps : List A → Prop
  | nil : Seps []
  | cons {a : A} {l : List A} (h : a.Sep) (t : Seps l) : Seps (a :: l)
theorem Seps.stars {l : List A} (h : Seps l) : ∀ {w : World} {O : Perm}, Stars l w O → Stars l w fun b => if 2 ≤ O b then O b else 0 := by
  induction h with
  | nil => exact fun _ => trivial
  | cons hd _ ih =>
    intro w O ⟨O1, O2, s, h1, h2⟩
    refine ⟨fun b => if 2 ≤ O1 b then O1 b else 0, fun b => if 2 ≤ O2 b then O2 b else 0, ⟨fun b => ?_, fun b => ?_, fun b hb => ?_, fun b hb => ?_⟩, hd w O1 h1, ih h2⟩ <;> try simp only at *
    · have := s.l b; split <;> split <;> omega
    · have := s.r b; split <;> split <;> omega
    · split at hb
      · have := s.lr b hb; simp [this]
      · omega
    · split at hb
      · have := s.rl b hb; simp [this]
      · omega
/-- Behind a call that only reads: what it hands out lies beside all that was there. -/
theorem keep_frame {w w' : World} {O O' : Perm} {l : List A} (hdom : ∀ b, O b ≠ 0 → b < w.heap.size) (hs : Stars L w O) (hr : Rel w (fun b => min (O b) 1) w' O') (hl : Stars l w' O') (hsep : Seps l) :
    ∃ P, Stars (l ++ L) w' P ∧ Rel w O w' P := by
  have hl' := hsep.stars hl
  have hz : ∀ b, b < w.heap.size → ¬ 2 ≤ O' b := fun b hb h => by
    have := hr.perm b hb; have := Nat.min_le_right (O b) 1; omega
  refine ⟨fun b => max (if 2 ≤ O' b then O' b else 0) (O b), Stars.app ⟨fun b => Nat.le_max_left _ _, fun b => Nat.le_max_right _ _, fun b hb => ?_, fun b hb => ?_⟩ hl' (hs.loc fun b hb => hr.old b (hdom b hb) ?_), ⟨hr.os, hr.tape, hr.output, hr.size, fun b hb _ => hr.old b hb ?_, fun b hb => ?_, fun b hb => ?_⟩⟩
  · split at hb
    · rename_i h
      rcases Nat.eq_zero_or_pos (O b) with h0 | h0
      · exact h0
      · exact absurd h (hz b (hdom b (by omega)))
    · omega
  · show (if _ then _ else _) = 0
    rw [if_neg (hz b (hdom b (by omega)))]
  · exact Nat.lt_of_le_of_lt (Nat.min_le_right _ _) (by omega)
  · exact Nat.lt_of_le_of_lt (Nat.min_le_right _ _) (by omega)
  · show max _ _ ≤ _
    rw [if_neg (hz b hb)]; omega
  · have hb' : max (if 2 ≤ O' b then O' b else 0) (O b) ≠ 0 := hb
    by_cases h : 2 ≤ O' b
    · exact hr.dom b (by omega)
    · rw [if_neg h] at hb'
      have := hdom b (by omega); have := hr.size; omega
theorem s_call_keep {γ : Type} {ret : γ → Value} {pu : γ → Prop} {L' : γ → List A} {f : Operand} {g : FuncId} {first cap : List Value} {xs : List Operand} {args vs : List Value} {ts : Array TypeId} {Lp : List A}
    (hc : Callable X.P g) (spec : Con X.P g args Lp ret pu L')
    (hf : env.eval f = some (.func (.func g) first.toArray cap.toArray)) (hx : evalAll env xs = some vs) (hv : args = first ++ vs ++ cap) (hd : d < X.fn.ntmps) (hp : Reads L Lp) (hsep : ∀ g, Seps (L' g))
    (k : ∀ g, pu g → Kont X ((d, ret g) :: env) (L' g ++ L) K) :
    StepK X kk ⟨some d, .call ⟨.value f, xs.toArray, ts⟩, T, pos, af, none⟩ env L K := by
  intro a w O ha hs hr
  have hrun : (execOp a.eval ⟨some d, .call ⟨.value f, xs.toArray, ts⟩, T, pos, af, none⟩).run X.P w = .ok (.enter g args.toArray) w := by
    have h1 := ha.all hx
    have hargs : first.toArray ++ (xs.map a.eval).toArray ++ cap.toArray = args.toArray := by rw [h1, hv]; simp
    simp only [execOp, resolve, ha.eval hf, Deferred.ofValue, pure_bind, invoke, List.map_toArray]
    rw [hargs]
    exact hc _ _
  simp only [Oper.wp, hrun, Oper.upon]
  refine (spec w _ (hp.stars hs) (fun b hb => hr.dom b (by intro h; rw [h] at hb; exact hb rfl))).mono ?_
  rintro e w' ⟨g, O', rfl, hpu, hL, hrel⟩
  obtain ⟨P, hP, hR⟩ := keep_frame hr.dom hs hrel hL (hsep g)
  exact k g hpu _ w' P (ha.put hd _) hP (hr.trans hR)
theorem s_callf_keep {γ : Type} {ret : γ → Value} {pu : γ → Prop} {L' : γ → List A} {g : FuncId} {xs : List Operand} {args : List Value} {ts : Array TypeId} {Lp : List A}
    (hc : Callable X.P g) (spec : Con X.P g args Lp ret pu L') (hx : evalAll env xs = some args) (hd : d < X.fn.ntmps) (hp : Reads L Lp) (hsep : ∀ g, Seps (L' g))
    (k : ∀ g, pu g → Kont X ((d, ret g) :: env) (L' g ++ L) K) :
    StepK X kk ⟨some d, .call ⟨.value (.func g), xs.toArray, ts⟩, T, pos, af, none⟩ env L K :=
  s_call_keep hc spec (first := []) (cap := []) rfl hx (by simp) hd hp hsep k
theorem q_call_keep {γ : Type} {ret : γ → Value} {pu : γ → Prop} {f : Operand} {g : FuncId} {first cap : List Value} {xs : List Operand} {args vs : List Value} {ts : Array TypeId} {Lp : List A} {v : Value}
    (hc : Callable X.P g) (spec : Con X.P g args Lp ret pu fun _ => []) (hf : env.eval f = some (.func (.func g) first.toArray cap.toArray)) (hv : ∀ g, pu g → ret g = v) (hx : evalAll env xs = some vs) (ha : args = first ++ vs ++ cap) (hd : d < X.fn.ntmps) (hp : Reads L Lp)
    (k : Qops X ops rest kk ((d, v) :: env) L) :
    Qops X ops (⟨some d, .call ⟨.value f, xs.toArray, ts⟩, T, pos, af, none⟩ :: rest) kk env L := by
  intro a hac
  simp only [wpQuiet, Region.wanted, if_true]
  refine ⟨v, fun w ⟨O, hs, hr⟩ => ?_, k _ (hac.put hd v)⟩
  have hrun : (execOp a.eval ⟨some d, .call ⟨.value f, xs.toArray, ts⟩, T, pos, af, none⟩).run X.P w = .ok (.enter g args.toArray) w := by
    have h1 := hac.all hx
    have hargs : first.toArray ++ (xs.map a.eval).toArray ++ cap.toArray = args.toArray := by rw [h1, ha]; simp
    simp only [execOp, resolve, hac.eval hf, Deferred.ofValue, pure_bind, invoke, List.map_toArray]
    rw [hargs]
    exact hc _ _
  simp only [Oper.quietAt, hrun, Oper.quietUpon, true_and]
  refine (spec w _ (hp.stars hs) (fun b hb => hr.dom b (by intro h; rw [h] at hb; exact hb rfl))).mono ?_
  rintro e w' ⟨g, O', rfl, hpu, hL, hrel⟩
  obtain ⟨P, hP, hR⟩ := keep_frame (l := []) hr.dom hs hrel hL Seps.nil
  exact ⟨by rw [hv g hpu], P, hP, hr.trans hR⟩
end

/-! ### what may be read, what lies apart -/
theorem Pu.isDup (p : Prop) : (Pu p).Dup := fun _ _ h => h
/-- An encoding that leads nowhere. -/
def Enc.Pure {α : Type} (e : Enc α) : Prop := ∀ w O w' O' cs x, e.rd w O cs x → e.rd w' O' cs x
theorem eInt_pure (k : IntKind) : (eInt k).Pure := fun _ _ _ _ _ _ h => h
theorem eBool_pure : eBool.Pure := fun _ _ _ _ _ _ h => h
theorem eStr_pure : eStr.Pure := fun _ _ _ _ _ _ h => h
theorem eMap_pure {α β : Type} {g : α → β} {e : Enc β} (h : e.Pure) : (eMap g e).Pure := fun _ _ _ _ _ _ k => h _ _ _ _ _ _ k
theorem eByte_pure : eByte.Pure := eMap_pure (eInt_pure _)
theorem ePair_pure {α β : Type} {e : Enc α} {f : Enc β} (h : e.Pure) (k : f.Pure) : (ePair e f).Pure := fun _ _ _ _ _ _ ⟨c1, c2, h0, h1, h2⟩ => ⟨c1, c2, h0, h _ _ _ _ _ _ h1, k _ _ _ _ _ _ h2⟩
/-- A cell, as it is. -/
def eRaw : Enc Value where
  n := 1
  rd := fun _ _ cs x => cs = [x] ∧ x.oneCell' = true
  len := fun h => by rw [h.1]; rfl
  one := fun h u hu => by rw [h.1] at hu; simp at hu; rw [hu]; exact h.2
  mono := fun h _ => h
  loc := fun h _ => h
  dup := fun h => h
theorem eRaw_pure : eRaw.Pure := fun _ _ _ _ _ _ h => h
theorem rows_pure {α : Type} {e : Enc α} (he : e.Pure) {w w' : World} {O O' : Perm} : ∀ {cs : List Value} {xs : List α}, Rows e w O cs xs → Rows e w' O' cs xs
  | _, [], h => h
  | _, _ :: _, ⟨c1, c2, h0, h1, h2⟩ => ⟨c1, c2, h0, he _ _ _ _ _ _ h1, rows_pure he h2⟩
theorem Own.sep {α : Type} {e : Enc α} (he : e.Pure) {T : TypeId} {v : Value} {xs : List α} : (Own e T v xs).Sep := by
  rintro w O ⟨O1, O2, cs, s, h1, h2, h3⟩
  refine ⟨fun b => if 2 ≤ O1 b then O1 b else 0, fun _ => 0, cs, ⟨fun b => ?_, fun _ => Nat.zero_le _, fun _ _ => rfl, fun _ h => by omega⟩, h1, fun k hk => ?_, rows_pure he h3⟩
  · have := s.l b; show (if _ then _ else _) ≤ (if _ then _ else _); split <;> split <;> omega
  · have := h2 k hk; show 2 ≤ (if _ then _ else _); rw [if_pos this]; exact this
theorem Blk.sep {b : Nat} {T : TypeId} {cs : List Value} : (Blk b T cs).Sep := fun w O ⟨h1, h2⟩ => ⟨by show 2 ≤ (if _ then _ else _); rw [if_pos h1]; exact h1, h2⟩
theorem ObjA.sep {b : Nat} {o : Obj} : (ObjA b o).Sep := fun w O ⟨h1, h2⟩ => ⟨by show 2 ≤ (if _ then _ else _); rw [if_pos h1]; exact h1, h2⟩
theorem Pu.sep (p : Prop) : (Pu p).Sep := fun _ _ h => h
theorem MapA.sep {κ : Type} [DecidableEq κ] {ke : KeyEnc κ} {b : Nat} {m : List (κ × Value)} : (MapA ke b m).Sep := fun w O ⟨h1, h2⟩ => ⟨by show 2 ≤ (if _ then _ else _); rw [if_pos h1]; exact h1, h2⟩
theorem ExA.sep {γ : Type} {f : γ → A} (h : ∀ g, (f g).Sep) : (ExA f).Sep := fun w O ⟨g, k⟩ => ⟨g, h g w O k⟩
theorem AllA.sep {l : List A} (h : Seps l) : (AllA l).Sep := fun w O k => h.stars k

/-! ### maps that may be nil -/
section
variable {κ : Type} [DecidableEq κ] (ke : KeyEnc κ)
def MapO (o : Option Nat) (m : List (κ × Value)) : A := match o with
  | none => Pu (m = [])
  | some b => MapA ke b m
variable {K : Act → World → Prop} {X : Cx} {kk : List Item} {env : Env} {L L1 : List A} {d : Nat} {T : TypeId} {pos : String} {af : Array Edge} {x y : Operand}
theorem v_lookupO {t kt et : TypeId} {o : Option Nat} {m : List (κ × Value)} {k : κ} {z : Value} {n nb : Nat} (hu : X.P.underlying t = some (.map kt et)) (hk : X.P.underlying kt = some ke.desc) (hz : TI X.P et z n nb)
    (hx : env.eval x = some (.map o)) (hy : env.eval y = some (ke.val k)) (hm : Has L (MapO ke o m)) : Val X env L (.lookup t x y false) T ((look m k).getD z) := by
  cases o with
  | some b => exact v_lookup ke hu hk hz hx hy hm
  | none =>
    intro _ _ _ _ a w O ha hs
    have h0 : m = [] := hm w O hs
    subst h0
    obtain ⟨ti, hi, hz0, _⟩ := hz
    have hzero : (zeroValue et).run X.P w = .ok z w := by simp [zeroValue, typeInfo, hi, hz0]
    have hchk : (Instr.checkKey true 10000 kt (ke.val k)).run X.P w = .ok () w := ke.chk X.P w 9999 true kt k hk
    have hfind : (Instr.findKey kt (ke.val k) []).run X.P w = .ok none w := by simp [Instr.findKey, run_underlying hk, Instr.findNow]
    have hl : (Instr.lookup t (.map none) (ke.val k) false).run X.P w = .ok z w := by
      simp [Instr.lookup, run_underlying hu, hzero, hchk, hfind]
    simp [execOp, ha.eval hx, ha.eval hy, hl, look_nil]
/-- v, is := m[k] -/
theorem v_lookupO2 {t kt et : TypeId} {o : Option Nat} {m : List (κ × Value)} {k : κ} {z : Value} {n nb : Nat} (hu : X.P.underlying t = some (.map kt et)) (hk : X.P.underlying kt = some ke.desc) (hz : TI X.P et z n nb)
    (hx : env.eval x = some (.map o)) (hy : env.eval y = some (ke.val k)) (hm : Has L (MapO ke o m)) : Val X env L (.lookup t x y true) T (.tuple #[(look m k).getD z, .bool (look m k).isSome]) := by
  intro _ _ _ _ a w O ha hs
  obtain ⟨ti, hi, hz0, _⟩ := hz
  have hzero : (zeroValue et).run X.P w = .ok z w := by simp [zeroValue, typeInfo, hi, hz0]
  cases o with
  | none =>
    have h0 : m = [] := hm w O hs
    subst h0
    have hchk : (Instr.checkKey true 10000 kt (ke.val k)).run X.P w = .ok () w := ke.chk X.P w 9999 true kt k hk
    have hfind : (Instr.findKey kt (ke.val k) []).run X.P w = .ok none w := by simp [Instr.findKey, run_underlying hk, Instr.findNow]
    have hl : (Instr.lookup t (.map none) (ke.val k) true).run X.P w = .ok (.tuple #[z, .bool false]) w := by
      simp [Instr.lookup, run_underlying hu, hzero, hchk, hfind]
    simp [execOp, ha.eval hx, ha.eval hy, hl, look_nil]
  | some b =>
    obtain ⟨_, es, clock, hh, he, _⟩ := (show (MapA ke b m).h w O from hm w O hs)
    obtain ⟨r, g1, g2, _⟩ := findNow_of ke (k := k) 0 he
    have hget : (getObj b).run X.P w = .ok (.map es clock) w := by simp [getObj, Sem.run, hh]
    have hfind : (Instr.findKey kt (ke.val k) es.toList).run X.P w = .ok r w := by simp [Instr.findKey, run_underlying hk, g1]
    have hchk : (Instr.checkKey es.isEmpty 10000 kt (ke.val k)).run X.P w = .ok () w := ke.chk X.P w 9999 es.isEmpty kt k hk
    have hl : (Instr.lookup t (.map (some b)) (ke.val k) true).run X.P w = .ok (.tuple #[(look m k).getD z, .bool (look m k).isSome]) w := by
      cases r with
      | none => simp [Instr.lookup, run_underlying hu, hget, hchk, hfind, ← g2, hzero]
      | some p => obtain ⟨i, v⟩ := p; simp [Instr.lookup, run_underlying hu, hget, hchk, hfind, ← g2]
    simp [execOp, ha.eval hx, ha.eval hy, hl]
theorem v_len_mapO {t kt et : TypeId} {o : Option Nat} {m : List (κ × Value)} (hu : X.P.underlying t = some (.map kt et)) (hx : env.eval x = some (.map o)) (hm : Has L (MapO ke o m)) : Val X env L (.call ⟨.builtin .len, #[x], #[t]⟩) T (.int .i64 m.length) := by
  cases o with
  | some b => exact v_len_map ke hu hx hm
  | none =>
    intro _ _ _ _ a w O ha hs
    have h0 : m = [] := hm w O hs
    subst h0
    simp [execOp, resolve, invoke, builtin, Builtin.len_, ha.eval hx, run_underlying hu, goInt]
theorem s_deleteO {t kt et : TypeId} {o : Option Nat} {m : List (κ × Value)} {k : κ} {ts : Array TypeId} (hts : ts[0]? = some t) (hu : X.P.underlying t = some (.map kt et)) (hk : X.P.underlying kt = some ke.desc)
    (hx : env.eval x = some (.map o)) (hy : env.eval y = some (ke.val k)) (hp : Pick (MapO ke o m) L L1) (kk' : Kont X env (MapO ke o (del m k) :: L1) K) :
    StepK X kk ⟨none, .call ⟨.builtin .delete, #[x, y], ts⟩, T, pos, af, none⟩ env L K := by
  cases o with
  | some b => exact s_delete ke hts hu hk hx hy hp kk'
  | none =>
    refine s_main0 (γ := Unit) (V := fun _ => .tuple #[]) (pu := fun _ => True) (L' := fun _ => MapO ke none (del m k) :: L1) ?_ (fun _ _ => kk')
    intro a w O ha hst hdom
    obtain ⟨O1, O2, s, h0, hs2⟩ := hp w O hst
    have h0' : m = [] := h0
    subst h0'
    have hchk : (Instr.checkKey true 10000 kt (ke.val k)).run X.P w = .ok () w := ke.chk X.P w 9999 true kt k hk
    have hrun : (Builtin.delete_ ts T #[.map none, ke.val k]).run X.P w = .ok (.tuple #[]) w := by
      simp [Builtin.delete_, hts, run_underlying hu, hchk]
    exact ⟨(), w, O, by simp [execOp, resolve, invoke, builtin, ha.eval hx, ha.eval hy, hrun], trivial, ⟨O1, O2, s, rfl, hs2⟩, Rel.refl hdom⟩
/-- A map that may be nil and is being gone through. -/
def MapItO (it : Nat) (o : Option Nat) (m : List (κ × Value)) (pre : List κ) : A := match o with
  | none => AllA [ObjA it (.mapIter none 0 #[] 0), Pu (m = [] ∧ pre = [])]
  | some b => AllA [Pu (it ≠ b), MapIt ke it b m pre]
theorem s_range_mapO {t kt et : TypeId} {o : Option Nat} {m : List (κ × Value)} (hu : X.P.underlying t = some (.map kt et)) (hx : env.eval x = some (.map o)) (hd : d < X.fn.ntmps) (hp : Pick (MapO ke o m) L L1)
    (k : ∀ it, Kont X ((d, .pointer (some ⟨it, 0, none⟩)) :: env) (MapItO ke it o m [] :: L1) K) : StepK X kk ⟨some d, .range t x, T, pos, af, none⟩ env L K := by
  cases o with
  | some b =>
    refine s_range_map ke hu hx hd hp fun it hit a w O ha hs hr => k it a w O ha ?_ hr
    refine Ent.head (fun w O h => ?_) w O hs
    exact ⟨fun _ => 0, O, ⟨fun _ => Nat.zero_le _, fun _ => Nat.le_refl _, fun _ h => by omega, fun _ _ => rfl⟩, hit, O, fun _ => 0, ⟨fun _ => Nat.le_refl _, fun _ => Nat.zero_le _, fun _ _ => rfl, fun _ h => by omega⟩, h, trivial⟩
  | none =>
    refine s_main (γ := Nat) (V := fun it => .pointer (some ⟨it, 0, none⟩)) (pu := fun _ => True) (L' := fun it => MapItO ke it none m [] :: L1) ?_ hd (fun it _ => k it)
    intro a w O ha hst hdom
    obtain ⟨O1, O2, s, h0, hs2⟩ := hp w O hst
    have h0' : m = [] := h0
    have hrun : (Instr.range t (.map none)).run X.P w = .ok (.pointer (some ⟨w.heap.size, 0, none⟩)) (w.alloc (.mapIter none 0 #[] 0)) := by
      simp [Instr.range, run_underlying hu]
    refine ⟨w.heap.size, w.alloc (.mapIter none 0 #[] 0), fresh w O, by simp [execOp, ha.eval hx, hrun], trivial, ?_, rel_alloc _ hdom⟩
    refine stars_alloc _ hdom (hs2.mono s.r) ?_
    refine ⟨_, fun _ => 0, ⟨fun _ => Nat.le_refl _, fun _ => Nat.zero_le _, fun _ _ => rfl, fun _ h => by omega⟩, ⟨by simp, heap_alloc w _⟩, fun _ => 0, fun _ => 0, ⟨fun _ => Nat.le_refl _, fun _ => Nat.zero_le _, fun _ _ => rfl, fun _ h => by omega⟩, ⟨h0', rfl⟩, trivial⟩
theorem mapItO_some {it b : Nat} {m : List (κ × Value)} {pre : List κ} {w : World} {O : Perm} (h : (MapItO ke it (some b) m pre).h w O) : it ≠ b ∧ (MapIt ke it b m pre).h w O := by
  obtain ⟨O1, O2, s, h1, P1, P2, t, h2, _⟩ := h
  exact ⟨h1, (MapIt ke it b m pre).mono h2 fun c => Nat.le_trans (t.l c) (s.r c)⟩
theorem mapItO_mk {it b : Nat} {m : List (κ × Value)} {pre : List κ} {w : World} {O : Perm} (hne : it ≠ b) (h : (MapIt ke it b m pre).h w O) : (MapItO ke it (some b) m pre).h w O :=
  ⟨fun _ => 0, O, ⟨fun _ => Nat.zero_le _, fun _ => Nat.le_refl _, fun _ h => by omega, fun _ _ => rfl⟩, hne, O, fun _ => 0, ⟨fun _ => Nat.le_refl _, fun _ => Nat.zero_le _, fun _ _ => rfl, fun _ h => by omega⟩, h, trivial⟩
theorem v_entryO {it : Nat} {o : Option Nat} {m : List (κ × Value)} {pre : List κ} {k : κ} {v : Value} (hx : env.eval x = some (.pointer (some ⟨it, 0, none⟩))) (hkv : (k, v) ∈ m) (hm : Has L (MapItO ke it o m (pre ++ [k]))) : Val X env L (.entry x) T (.tuple #[ke.val k, v]) := by
  cases o with
  | some b => exact v_entry ke hx hkv (hm.imp fun w O h => (mapItO_some ke h).2)
  | none =>
    intro _ _ _ _ a w O ha hs
    obtain ⟨O1, O2, s, _, P1, P2, t, ⟨h2, _⟩, _⟩ := hm w O hs
    rw [h2] at hkv; cases hkv
theorem s_nextO {it : Nat} {o : Option Nat} {m : List (κ × Value)} {pre : List κ} (hx : env.eval x = some (.pointer (some ⟨it, 0, none⟩))) (hd : d < X.fn.ntmps) (hp : Pick (MapItO ke it o m pre) L L1)
    (kt : ∀ k v, (k, v) ∈ m → k ∉ pre → Kont X ((d, .tuple #[.bool true, ke.val k, v]) :: env) (MapItO ke it o m (pre ++ [k]) :: L1) K)
    (kf : (∀ k ∈ m.map (fun p : κ × Value => p.1), k ∈ pre) → Kont X ((d, .tuple #[.bool false]) :: env) (MapItO ke it o m pre :: L1) K) :
    StepK X kk ⟨some d, .next x false, T, pos, af, none⟩ env L K := by
  cases o with
  | some b =>
    intro a w O ha hst hrel
    have hst' : Stars (MapItO ke it (some b) m pre :: L1) w O := hp w O hst
    obtain ⟨O1, O2, s, h1, h2⟩ := id hst'
    obtain ⟨hne, h1'⟩ := mapItO_some ke h1
    refine s_next ke (L := MapIt ke it b m pre :: L1) hx hne hd Pick.here (fun k v hk hn a w O ha hs hr => kt k v hk hn a w O ha (Ent.head (fun w O h => mapItO_mk ke hne h) w O hs) hr)
      (fun h a w O ha hs hr => kf h a w O ha (Ent.head (fun w O h => mapItO_mk ke hne h) w O hs) hr) a w O ha ⟨O1, O2, s, h1', h2⟩ hrel
  | none =>
    refine s_main (γ := Unit) (V := fun _ => .tuple #[.bool false]) (pu := fun _ => m = []) (L' := fun _ => MapItO ke it none m pre :: L1) ?_ hd (fun _ h => kf (by rw [h]; simp))
    intro a w O ha hst hdom
    obtain ⟨O1, O2, s, h1, hs2⟩ := hp w O hst
    obtain ⟨P1, P2, t, ⟨h2, hh⟩, Q1, Q2, t2, ⟨h3, h4⟩, _⟩ := id h1
    have hrun : (Instr.next (.pointer (some ⟨it, 0, none⟩)) false T).run X.P w = .ok (.tuple #[.bool false]) w := by
      simp [Instr.next, getObj, Sem.run, hh]
    exact ⟨(), w, O, by simp [execOp, ha.eval hx, hrun], h3, ⟨O1, O2, s, h1, hs2⟩, Rel.refl hdom⟩
theorem Pick.map_itO {it : Nat} {o : Option Nat} {m : List (κ × Value)} {pre : List κ} {L : List A} : Pick (MapO ke o m) (MapItO ke it o m pre :: L) L :=
  Pick.of Pick.here fun w O h => by
    cases o with
    | some b =>
      obtain ⟨_, h2⟩ := mapItO_some ke h
      obtain ⟨_, h2, es, clock, _, h3, _, h4, h5, h6, h7, _⟩ := h2
      exact ⟨h2, es, clock, h3, h4, h5, h6, h7⟩
    | none =>
      obtain ⟨P1, P2, t, _, Q1, Q2, t2, ⟨h3, _⟩, _⟩ := h
      exact h3
theorem v_eq_map_nil {xT yT kt et : TypeId} {o : Option Nat} (hu : X.P.underlying xT = some (.map kt et)) (hx : env.eval x = some (.map o)) (hy : env.eval y = some (.map none)) : Val X env L (.binOp .eql xT x y yT) T (.bool o.isNone) :=
  v_eql_any hx hy (fun op => by cases op <;> cases o <;> rfl) (fun op => by cases op <;> rfl) fun w O _ => by
    rw [equal_succ hu, Op.equalIn]
    simp only [Sem.run_bind, run_underlying hu, Result.andThen_ok]
    cases o <;> rfl
theorem v_ne_map_nil {xT yT kt et : TypeId} {o : Option Nat} (hu : X.P.underlying xT = some (.map kt et)) (hx : env.eval x = some (.map o)) (hy : env.eval y = some (.map none)) : Val X env L (.binOp .neq xT x y yT) T (.bool (!o.isNone)) :=
  v_neq_any hx hy (fun op => by cases op <;> cases o <;> rfl) (fun op => by cases op <;> rfl) fun w O _ => by
    rw [equal_succ hu, Op.equalIn]
    simp only [Sem.run_bind, run_underlying hu, Result.andThen_ok]
    cases o <;> rfl
end

/-! ### results in cells -/
theorem results_cell {fn : Func} {t : Nat} {ty : TypeId} {tmps : Array Value} {P : Program} {w : World} {v : Value} {p : Addr} (h : fn.results = #[.cell t ty]) (hv : tmps[t]? = some (.pointer (some p))) (hl : (loadVar ty p).run P w = .ok v w) : (results fn tmps).run P w = .ok v w := by
  have h1 : tmps[t]?.getD undef = .pointer (some p) := by rw [hv]; rfl
  simp [results, h, asAddr, hl, h1]
theorem c_ret_cell {X : Cx} {k : List Item} {env : Env} {L : List A} {t b : Nat} {ty bt : TypeId} {cs : List Value} {z : Value} {nb : Nat} (hf : X.P.funcs[X.f]? = some X.fn) (h : X.fn.results = #[.cell t ty]) (hu : ∃ fs, X.P.underlying ty = some (.struct fs)) (ht : TI X.P ty z cs.length nb)
    (hv : env.look t = some (.pointer (some ⟨b, 0, none⟩))) (hb : Has L (BlkR b bt cs)) (fin : ∀ w O, Stars L w O → X.R (.agg cs.toArray) w O) (hrd : X.rd = none := by rfl) (hdf : X.defs = [] := by rfl) : Cfg X (.code .ret :: k) env L :=
  c_ret_any (fun a w O ha hs _ => by
    obtain ⟨_, fz, hh⟩ := hb w O hs
    obtain ⟨ti, hi, _, hsz, _⟩ := ht
    exact ⟨_, results_cell h (ha.look t _ hv) (run_loadAgg hu hi hsz fun j u hj => by rw [add_off, blk_cell hh]; simpa using hj), fin w O hs⟩) hf hrd hdf fun _ _ _ _ _ hb => steps_ret hb
end Go.SL
namespace Go.SL
open Go
theorem Beside.rd {α : Type} {e : Enc α} {cs : List Value} {z : α} {L : List A} (h : ∀ w O, e.rd w O cs z) : Beside (Rd e cs z) L := Beside.pure fun w => h w _
/-! ### encodings of known cells -/
def PEnc {α : Type} (e : Enc α) (f : α → List Value) : Prop := ∀ w O cs x, e.rd w O cs x → cs = f x
theorem PEnc.int (k : IntKind) : PEnc (eInt k) fun x => [.int k x] := fun _ _ _ _ h => h
theorem PEnc.bool : PEnc eBool fun x => [.bool x] := fun _ _ _ _ h => h
theorem PEnc.str : PEnc eStr fun x => [.string x] := fun _ _ _ _ h => h
theorem PEnc.byte : PEnc eByte fun x => [.int .u8 x.toNat] := fun _ _ _ _ h => h
theorem PEnc.raw : PEnc eRaw fun x => [x] := fun _ _ _ _ h => h.1
theorem PEnc.pair {α β : Type} {e : Enc α} {f : Enc β} {g : α → List Value} {k : β → List Value} (h1 : PEnc e g) (h2 : PEnc f k) : PEnc (ePair e f) fun x => g x.1 ++ k x.2 := fun _ _ _ _ ⟨_, _, h0, a, b⟩ => by rw [h0, h1 _ _ _ _ a, h2 _ _ _ _ b]
theorem PEnc.map {α β : Type} {g : α → β} {e : Enc β} {f : β → List Value} (h : PEnc e f) : PEnc (eMap g e) fun x => f (g x) := fun _ _ _ _ k => h _ _ _ _ k
theorem kInt_sc : ∀ a : Int, (∃ n j, kInt.val a = .int j n) ∨ ∃ s, kInt.val a = .string s := fun a => .inl ⟨a, .i64, rfl⟩
theorem kStr_sc : ∀ a : ByteArray, (∃ n j, kStr.val a = .int j n) ∨ ∃ s, kStr.val a = .string s := fun a => .inr ⟨a, rfl⟩
section
variable {K : Act → World → Prop} {X : Cx} {kk : List Item} {env : Env} {L L1 : List A} {d : Nat} {T : TypeId} {pos : String} {af : Array Edge} {x y : Operand} {α : Type} {e : Enc α} {v u : Value} {zs : List α} {E : TypeId}
/-- An element that is a struct of known cells. -/
theorem v_load_p {i : Nat} {z : α} {t : TypeId} {f : α → List Value} {z0 : Value} {bt : Nat} (hf : PEnc e f) (ht : ∃ fs, X.P.underlying t = some (.struct fs)) (hE : TI X.P t z0 e.n bt) (hx : env.eval x = some (.pointer (some (elemAddr v i e.n))))
    (he : Elem L e v i z) : Val X env L (.load t x) T (.agg (f z).toArray) := by
  intro _ _ _ _ a w O ha hst
  obtain ⟨c, hs, _, hc⟩ := he w O hst
  obtain ⟨O1, O2, s, h, _⟩ := hs
  have hl : c.length = e.n := e.len h
  have hcf : c = f z := hf _ _ _ _ h
  obtain ⟨ti, hi, _, hsz, _⟩ := hE
  have hca : CellsAt w (elemAddr v i e.n) c := fun j u hj => by
    have := hc j u hj
    have hsp : (elemAddr v i e.n).spot = none := by unfold elemAddr; split <;> rfl
    unfold Addr.add
    split
    · rename_i h0
      subst h0
      cases hh : elemAddr v i e.n
      rw [hh] at hsp this
      simp only at hsp this
      rw [hsp]; simpa using this
    · exact this
  have := run_loadAgg ht hi (by rw [hsz, hl]) hca
  simp [execOp, ha.eval hx, Instr.loadAt, Instr.sureAddr, this, hcf]
/-- A struct in a block of its own is read. -/
theorem v_load_all {t : TypeId} {b n : Nat} {bt : TypeId} {cs : List Value} {z0 : Value} {nb : Nat} (ht : ∃ fs, X.P.underlying t = some (.struct fs)) (hE : TI X.P t z0 n nb) (hx : env.eval x = some (.pointer (some ⟨b, 0, none⟩)))
    (hb : Has L (BlkR b bt cs)) (hn : cs.length = n) : Val X env L (.load t x) T (.agg cs.toArray) := by
  have := v_load_blk_agg (X := X) (env := env) (L := L) (T := T) (off := 0) ht hE hx hb (by omega)
  rw [List.drop_zero, List.take_of_length_le (by omega)] at this
  exact this
/-- A struct in a block of its own is written. -/
theorem s_store_all {t : TypeId} {b n : Nat} {bt : TypeId} {cs new : List Value} {z : Value} {nb : Nat} (ht : TI X.P t z n nb) (hx : env.eval x = some (.pointer (some ⟨b, 0, none⟩))) (hy : env.eval y = some u) (hc : CellsV L u new) (h1 : OneAll L new) (hn : new.length = n)
    (hp : Pick (Blk b bt cs) L L1) (hl : cs.length = n) (k : Kont X env (Blk b bt new :: L1) K) : StepK X kk ⟨none, .store t x y, T, pos, af, none⟩ env L K :=
  s_store_cells ht hx hy hc h1 hn hp (by omega) (by rw [List.take_zero, List.nil_append, List.drop_of_length_le (by omega), List.append_nil]) k
/-- A cell of a block is written. -/
theorem s_store1 {t : TypeId} {b off : Nat} {bt : TypeId} {cs cs' : List Value} {z : Value} {nb : Nat} (ht : TI X.P t z 1 nb) (hx : env.eval x = some (.pointer (some ⟨b, off, none⟩))) (hy : env.eval y = some u) (h1 : OneC L u)
    (hp : Pick (Blk b bt cs) L L1) (hlt : off < cs.length) (hset : cs.set off u = cs') (k : Kont X env (Blk b bt cs' :: L1) K) : StepK X kk ⟨none, .store t x y, T, pos, af, none⟩ env L K := by
  intro a w O ha hst hrel
  exact s_store ht hx hy (h1 w O hst) hp hlt hset k a w O ha hst hrel
theorem v_buildS {t : TypeId} {fs : Array Field} {ps : List (Nat × Operand)} {vs : List (Nat × Value)} {css : List (Nat × List Value)} {cells : List Value} {places : List (Nat × Nat)} {z : Value} {n nb : Nat} (hu : X.P.underlying t = some (.struct fs)) (hz : TI X.P t z n nb)
    (hpl : fs.toList.mapM (fun f => (X.P.info? f.type).map fun i => (f.offset, i.size)) = some places) (hp : evalP env ps = some vs) (hc : PartsC L vs css) (hb : fillC (places.toArray[·]?) z.cells.toList css = some cells) : Val X env L (.build t ps.toArray) T (.agg cells.toArray) := by
  refine v_build hp hc ?_
  obtain ⟨i, hi, hz0, _⟩ := hz
  unfold builtC
  rw [hi, hu]
  simp only [hz0, hpl]
  exact hb
end
end Go.SL
namespace Go.SL
open Go
/-! ### fields of elements -/
/-- Cell j of what reads as x is g x. -/
def FldS {α : Type} (e : Enc α) (j : Nat) (g : α → Value) : Prop := ∀ w O cs x, e.rd w O cs x → cs[j]? = some (g x)
theorem FldS.int (k : IntKind) : FldS (eInt k) 0 (.int k) := fun _ _ _ _ h => by rw [show _ = _ from h]; rfl
theorem FldS.bool : FldS eBool 0 .bool := fun _ _ _ _ h => by rw [show _ = _ from h]; rfl
theorem FldS.str : FldS eStr 0 .string := fun _ _ _ _ h => by rw [show _ = _ from h]; rfl
theorem FldS.raw : FldS eRaw 0 fun x => x := fun _ _ _ _ h => by rw [h.1]; rfl
theorem FldS.map {α β : Type} {f : α → β} {e : Enc β} {j : Nat} {g : β → Value} (h : FldS e j g) : FldS (eMap f e) j fun x => g (f x) := fun _ _ _ _ k => h _ _ _ _ k
theorem FldS.fst {α β : Type} {e : Enc α} {f : Enc β} {j : Nat} {g : α → Value} (h : FldS e j g) : FldS (ePair e f) j fun x => g x.1 := fun w O cs x ⟨c1, c2, h0, h1, h2⟩ => by
  have := h w O c1 x.1 h1
  rw [h0, List.getElem?_append_left (cell_in this), this]
theorem FldS.snd {α β : Type} {e : Enc α} {f : Enc β} {j k : Nat} {g : β → Value} (hj : k = e.n + j) (h : FldS f j g) : FldS (ePair e f) k fun x => g x.2 := fun w O cs x ⟨c1, c2, h0, h1, h2⟩ => by
  have := h w O c2 x.2 h2
  rw [hj, h0, ← e.len h1, List.getElem?_append_right (by omega), Nat.add_sub_cancel_left, this]
/-- Cell j of what reads as x is a slice that reads as g x. -/
def FldL {α β : Type} (e : Enc α) (j : Nat) (e' : Enc β) (g : α → List β) : Prop := ∀ w O cs x, e.rd w O cs x → ∃ v, cs[j]? = some v ∧ SlP e' w O v (g x)
theorem FldL.sl {β : Type} {e' : Enc β} : FldL (eSl e') 0 e' fun x => x := fun _ _ _ _ ⟨v, h, h1⟩ => ⟨v, by rw [h]; rfl, h1⟩
theorem FldL.map {α β γ : Type} {f : α → β} {e : Enc β} {e' : Enc γ} {j : Nat} {g : β → List γ} (h : FldL e j e' g) : FldL (eMap f e) j e' fun x => g (f x) := fun _ _ _ _ k => h _ _ _ _ k
theorem FldL.fst {α β γ : Type} {e : Enc α} {f : Enc β} {e' : Enc γ} {j : Nat} {g : α → List γ} (h : FldL e j e' g) : FldL (ePair e f) j e' fun x => g x.1 := fun w O cs x ⟨c1, c2, h0, h1, h2⟩ => by
  obtain ⟨v, hv, hs⟩ := h w O c1 x.1 h1
  exact ⟨v, by rw [h0, List.getElem?_append_left (cell_in hv), hv], hs⟩
theorem FldL.snd {α β γ : Type} {e : Enc α} {f : Enc β} {e' : Enc γ} {j k : Nat} {g : β → List γ} (hj : k = e.n + j) (h : FldL f j e' g) : FldL (ePair e f) k e' fun x => g x.2 := fun w O cs x ⟨c1, c2, h0, h1, h2⟩ => by
  obtain ⟨v, hv, hs⟩ := h w O c2 x.2 h2
  exact ⟨v, by rw [hj, h0, ← e.len h1, List.getElem?_append_right (by omega), Nat.add_sub_cancel_left, hv], hs⟩
section
variable {K : Act → World → Prop} {X : Cx} {ops : Array Oper} {rest : List Oper} {k kk : List Item} {env : Env} {L L1 : List A} {d : Nat} {T : TypeId} {pos : String} {af : Array Edge} {x y : Operand} {α β : Type} {e : Enc α} {e' : Enc β} {v u : Value} {zs : List α} {E : TypeId}
theorem elem_add (v : Value) (i n off : Nat) : (elemAddr v i n).add off = ⟨(elemAddr v i n).block, (elemAddr v i n).off + off, none⟩ := by
  have hsp : (elemAddr v i n).spot = none := by unfold elemAddr; split <;> rfl
  unfold Addr.add
  split
  · rename_i h0
    subst h0
    cases hh : elemAddr v i n
    rw [hh] at hsp; simp only at hsp; rw [hsp]; simp
  · rfl
theorem v_load_fld {i off : Nat} {z : α} {t : TypeId} {g : α → Value} (ht : Lone X.P t) (hx : env.eval x = some (.pointer (some ((elemAddr v i e.n).add off)))) (he : Elem L e v i z) (hf : FldS e off g) : Val X env L (.load t x) T (g z) := by
  intro _ _ _ _ a w O ha hst
  obtain ⟨c, hs, _, hc⟩ := he w O hst
  obtain ⟨O1, O2, s, h, _⟩ := hs
  have hcell := hc off _ (hf _ _ _ _ h)
  rw [elem_add] at hx
  simp [execOp, ha.eval hx, Instr.loadAt, Instr.sureAddr, run_loadLone ht hcell]
/-- A field of an element that is a slice. -/
theorem s_load_fldl {i off : Nat} {z : α} {t : TypeId} {g : α → List β} (ht : Lone X.P t) (hx : env.eval x = some (.pointer (some ((elemAddr v i e.n).add off)))) (hd : d < X.fn.ntmps) (he : Elem L e v i z) (hf : FldL e off e' g)
    (k : ∀ u, Kont X ((d, u) :: env) (Sl e' u (g z) :: L) K) : StepK X kk ⟨some d, .load t x, T, pos, af, none⟩ env L K := by
  refine s_main (γ := Value) (V := fun u => u) (pu := fun _ => True) (L' := fun u => Sl e' u (g z) :: L) ?_ hd (fun u _ => k u)
  intro a w O ha hst hdom
  obtain ⟨c, hs, _, hc⟩ := he w O hst
  obtain ⟨O1, O2, s, h, h2⟩ := hs
  obtain ⟨u, hu, hsl⟩ := hf _ _ _ _ h
  have hcell := hc off u hu
  rw [elem_add] at hx
  exact ⟨u, w, O, by simp [execOp, ha.eval hx, Instr.loadAt, Instr.sureAddr, run_loadLone ht hcell], trivial, ⟨O1, O2, s, hsl, h2⟩, Rel.refl hdom⟩
/-- An element that is read as cells, which read as it. -/
theorem s_load_rd {i : Nat} {z : α} {t : TypeId} {z0 : Value} {bt : Nat} (ht : ∃ fs, X.P.underlying t = some (.struct fs)) (hE : TI X.P t z0 e.n bt) (hx : env.eval x = some (.pointer (some (elemAddr v i e.n)))) (hd : d < X.fn.ntmps)
    (he : Elem L e v i z) (k : ∀ c : List Value, c.length = e.n → Kont X ((d, .agg c.toArray) :: env) (Rd e c z :: L) K) : StepK X kk ⟨some d, .load t x, T, pos, af, none⟩ env L K :=
  s_load_agg ht hE hx hd he fun c a w O ha hs hr => k c (e.len (show e.rd w O c z from Has.here w O hs)) a w O ha hs hr

/-- A cell that may be read. -/
def FldCell (p : Addr) (u : Value) : A where
  h := fun w O => 1 ≤ O p.block ∧ w.cell? p = some u
  mono := fun ⟨h1, h2⟩ hO => ⟨Nat.le_trans h1 (hO _), h2⟩
  loc := fun {w w' O} ⟨h1, h2⟩ hw => ⟨h1, by
    have := hw p.block (by omega)
    obtain ⟨b, off, sp⟩ := p
    simp only [World.cell?] at h2 ⊢
    simp only at this
    rw [this]; exact h2⟩
theorem FldCell.isDup (p : Addr) (u : Value) : (FldCell p u).Dup := fun _ _ ⟨h1, h2⟩ => ⟨by show 1 ≤ min _ 1; omega, h2⟩
theorem open_fldl {i off : Nat} {z : α} {g : α → List β} (hp : Pick (Sl e v zs) L L1) (hf : FldL e off e' g) (hz : zs[i]? = some z) : Ent L ((ExA fun u => AllA [FldCell ((elemAddr v i e.n).add off) u, Sl e' u (g z)]) :: Sl e v zs :: L1) := by
  intro w O hs
  obtain ⟨O1, O2, s, h1, h2⟩ := hp w O hs
  have hd := SlP.dup h1
  obtain ⟨c, hc, hb, hcell⟩ := SlP.elem hd hz
  obtain ⟨u, hu, hsl⟩ := hf _ _ _ _ hc
  refine Lend.pick (L' := L1) Pick.here (b := ExA fun u => AllA [FldCell ((elemAddr v i e.n).add off) u, Sl e' u (g z)]) (fun w0 O0 h0 => ?_) w O ⟨O1, O2, s, h1, h2⟩
  have hd := SlP.dup h0
  obtain ⟨c, hc, hb, hcell⟩ := SlP.elem hd hz
  obtain ⟨u, hu, hsl⟩ := hf _ _ _ _ hc
  have nn : ∀ b, ¬ 2 ≤ min (O0 b) 1 := fun b h => by have := Nat.min_le_right (O0 b) 1; omega
  refine ⟨fun b => min (O0 b) 1, fun b => min (O0 b) 1, ⟨fun b => Nat.min_le_left _ _, fun b => Nat.min_le_left _ _, fun b h => absurd h (nn b), fun b h => absurd h (nn b)⟩, hd, ⟨u, fun b => min (O0 b) 1, fun b => min (O0 b) 1, ⟨fun _ => Nat.le_refl _, fun _ => Nat.le_refl _, fun b h => absurd h (nn b), fun b h => absurd h (nn b)⟩, ?_, fun b => min (O0 b) 1, fun _ => 0, ⟨fun _ => Nat.le_refl _, fun _ => Nat.zero_le _, fun _ _ => rfl, fun _ h => by omega⟩, hsl, trivial⟩, fun b => Nat.min_le_right _ _⟩
  rw [elem_add]
  exact ⟨hb, hcell off u hu⟩
theorem c_open_fldl {i off : Nat} {z : α} {g : α → List β} (hp : Pick (Sl e v zs) L L1) (hz : zs[i]? = some z) (hf : FldL e off e' g) (h : ∀ u, Cfg X k env (FldCell ((elemAddr v i e.n).add off) u :: Sl e' u (g z) :: Sl e v zs :: L1)) : Cfg X k env L := by
  refine c_ent (open_fldl hp hf hz) (c_ex fun u => c_ent ?_ (h u))
  intro w O hs
  exact stars_join hs
theorem v_load_cell {t : TypeId} {p : Addr} (ht : Lone X.P t) (hx : env.eval x = some (.pointer (some p))) (hh : Has L (FldCell p u)) : Val X env L (.load t x) T u := by
  intro _ _ _ _ a w O ha hst
  simp [execOp, ha.eval hx, Instr.loadAt, Instr.sureAddr, run_loadLone ht (hh w O hst).2]

/-- An element whose cells have a known shape. -/
theorem s_load_shape {i : Nat} {z : α} {t : TypeId} {z0 : Value} {bt : Nat} {γ : Type} {cf : γ → List Value} {Lf : γ → List A} (ht : ∃ fs, X.P.underlying t = some (.struct fs)) (hE : TI X.P t z0 e.n bt) (hx : env.eval x = some (.pointer (some (elemAddr v i e.n)))) (hd : d < X.fn.ntmps)
    (he : Elem L e v i z) (ho : ∀ w O c, e.rd w O c z → ∃ g, c = cf g ∧ Stars (Lf g) w O) (k : ∀ g, Kont X ((d, .agg (cf g).toArray) :: env) (Lf g ++ L) K) : StepK X kk ⟨some d, .load t x, T, pos, af, none⟩ env L K := by
  refine s_main (γ := γ) (V := fun g => .agg (cf g).toArray) (pu := fun _ => True) (L' := fun g => Lf g ++ L) ?_ hd (fun u _ => k u)
  intro a w O ha hst hdom
  obtain ⟨c, hs, _, hc⟩ := he w O hst
  obtain ⟨O1, O2, s, h, h2⟩ := hs
  have hl : c.length = e.n := e.len h
  obtain ⟨g, rfl, hg⟩ := ho _ _ _ h
  obtain ⟨ti, hi, _, hsz, _⟩ := hE
  have hca : CellsAt w (elemAddr v i e.n) (cf g) := fun j u hj => by
    have := hc j u hj
    rw [elem_add]
    exact this
  have := run_loadAgg ht hi (by rw [hsz, hl]) hca
  exact ⟨g, w, O, by simp [execOp, ha.eval hx, Instr.loadAt, Instr.sureAddr, this], trivial, Stars.app s hg h2, Rel.refl hdom⟩
theorem beside_of {Lp : List A} {cs : List Value} {z : α} (hp : Picks Lp L L) (h : ∀ w O, Stars Lp w O → e.rd w O cs z) : Beside (Rd e cs z) L := fun w O hs => by
  obtain ⟨O1, O2, s, h1, h2⟩ := hp.split w O hs
  exact ⟨O1, O2, s, h w O1 h1, h2⟩
theorem beside_agg1 {cs : List Value} {z : α} (h : Beside (Rd e cs z) L) : Beside (RowsA e [.agg cs.toArray] [z]) L := fun w O hs => by
  obtain ⟨O1, O2, s, h1, h2⟩ := h w O hs
  have h1' : e.rd w O1 cs z := h1
  refine ⟨O1, O2, s, ⟨⟨cs, [], by simp [Value.cells], h1', rfl⟩, fun v hv => ?_⟩, h2⟩
  rw [List.mem_singleton.1 hv]
  simpa [Value.cells] using e.len h1'

theorem v_fieldAddrC {t ft : TypeId} {fs : Array Field} {i : Nat} {p : Addr} {z : Value} {n bt : Nat} (off : Nat) (hu : X.P.underlying t = some (.struct fs)) (hf : (fs[i]?).map (fun f => (f.offset, f.type)) = some (off, ft)) (ht : TI X.P ft z n bt) (hn : n ≠ 0)
    (hx : env.eval x = some (.pointer (some p))) : Val X env L (.fieldAddr t x i) T (.pointer (some (p.add off))) := by
  cases hfi : fs[i]? with
  | none => rw [hfi] at hf; cases hf
  | some f =>
    rw [hfi] at hf
    simp only [Option.map_some, Option.some.injEq, Prod.mk.injEq] at hf
    rw [← hf.1]
    exact v_fieldAddr hu hfi (by rw [hf.2]; exact ht) hn hx

/-- A guard that was itself passed over. -/
theorem o_offu {j s : Nat} {want : Bool} {d : Nat} {op : Op} {af : Array Edge} (hj : (ops[j]?).bind (·.dst) = some s) (ht : env.look s = some undef) (hd : d < X.fn.ntmps)
    (h : Ops X ops rest kk ((d, undef) :: env) L) : Ops X ops (⟨some d, op, T, pos, af, some (j, want)⟩ :: rest) kk env L := by
  intro a w O ha hs hr
  have hy1 : yielded ops a.tmps j = none := by simp [yielded, hj, ha.look s _ ht, undef]
  have hw : ((none : Option Bool) == some want) = false := rfl
  simp only [wpl, Region.wanted, hy1, hw, Bool.false_eq_true, if_false]
  exact h _ w O (ha.put hd _) hs hr
theorem q_offu {j s : Nat} {want : Bool} {d : Nat} {op : Op} {af : Array Edge} (hj : (ops[j]?).bind (·.dst) = some s) (ht : env.look s = some undef) (hd : d < X.fn.ntmps)
    (h : Qops X ops rest kk ((d, undef) :: env) L) : Qops X ops (⟨some d, op, T, pos, af, some (j, want)⟩ :: rest) kk env L := by
  intro a ha
  have hy1 : yielded ops a.tmps j = none := by simp [yielded, hj, ha.look s _ ht, undef]
  have hw : ((none : Option Bool) == some want) = false := rfl
  simp only [wpQuiet, Region.wanted, hy1, hw, Bool.false_eq_true, if_false]
  exact h _ (ha.put hd _)

theorem Con.post {P : Program} {f : FuncId} {args : List Value} {L : List A} {γ : Type} {ret : γ → Value} {pu : γ → Prop} {L' L'' : γ → List A} (h : Con P f args L ret pu L') (he : ∀ g, Ent (L' g) (L'' g)) : Con P f args L ret pu L'' := fun w O hs hd =>
  (h w O hs hd).mono fun _ _ ⟨g, O', h1, h2, h3, h4⟩ => ⟨g, O', h1, h2, he g _ _ h3, h4⟩
theorem ent_own_sl {T : TypeId} : Ent (Own e T v zs :: L) (Sl e v zs :: L) := Ent.head fun _ _ h => Own.sl h

theorem list_set_mid {β : Type} (l : List β) (a n off : Nat) (u : β) (hoff : off < n) (hl : a + n ≤ l.length) : l.take a ++ ((l.drop a).take n).set off u ++ l.drop (a + n) = l.set (a + off) u := by
  have e1 : l = l.take a ++ ((l.drop a).take n ++ l.drop (a + n)) := by
    rw [← List.drop_drop, List.take_append_drop, List.take_append_drop]
  have h1 : (l.take a).length = a := by simp; omega
  have h2 : ((l.drop a).take n).length = n := by simp; omega
  conv => rhs; rw [e1]
  rw [List.set_append_right _ _ (by omega), h1, Nat.add_sub_cancel_left, List.set_append_left _ _ (by omega), List.append_assoc]
/-- A field of an element of a row of one's own is written. -/
theorem s_store_fld {t : TypeId} {i off : Nat} {z' : α} {Lu : List A} {z0 : Value} {nb : Nat} (ht : TI X.P t z0 1 nb) (hx : env.eval x = some (.pointer (some ((elemAddr v i e.n).add off)))) (hy : env.eval y = some u) (h1 : OneC L u)
    (hp : Pick (Own e E v zs) L L1) (hq : Picks Lu L1 L1) (hi : i < zs.length) (hoff : off < e.n) (hz : ∀ w O c, e.rd w O c (zs[i]'hi) → Stars Lu w O → e.rd w O (c.set off u) z')
    (k : Kont X env (Own e E v (zs.set i z') :: L1) K) : StepK X kk ⟨none, .store t x y, T, pos, af, none⟩ env L K := by
  refine s_skip (γ := Unit) (pu := fun _ => True) (L' := fun _ => Own e E v (zs.set i z') :: L1) ?_ (fun _ _ => k)
  intro a w O ha hst hdom
  obtain ⟨O1, O2, s, hO, hs2⟩ := hp w O hst
  obtain ⟨R1, R2, s2, hu, hL⟩ := hq.split w O2 hs2
  have h1' := h1 w O hst
  obtain ⟨P1, P2, cs, t1, g1, g2, g3⟩ := hO
  obtain ⟨c, hc, hcj⟩ := g3.get (List.getElem?_eq_getElem hi)
  have hcl : c.length = e.n := e.len hc
  have hnew := hz w (fun b => max (P2 b) (R1 b)) c (e.mono hc fun b => Nat.le_max_left _ _) (hu.mono fun b => Nat.le_max_right _ _)
  have hr' : Rows e w (fun b => max (P2 b) (R1 b)) (c.set off u) [z'] := ⟨_, [], by simp, hnew, rfl⟩
  obtain ⟨g, cap, cur, rfl, hg, hfit, P, hP, hrel⟩ := own_put hdom s t1 g1 g2 g3 s2 hr' hL (i := i) (by simp; omega) (by omega)
  have hset : zs.take i ++ [z'] ++ zs.drop (i + 1) = zs.set i z' := by
    rw [List.set_eq_take_append_cons_drop, if_pos hi]; simp
  simp only [List.length_singleton, hset, List.length_set, hcl] at hP hrel hfit
  have hcc : c = (cur.toList.drop (i * e.n)).take e.n := by
    rcases g1.2 with ⟨h, _⟩ | ⟨g', cap', cur', hv, _, hg', hle, hmx, hsz, htk⟩
    · cases h
    · cases hv
      rw [hg] at hg'; cases hg'
      apply List.ext_getElem?
      intro j
      by_cases hj : j < e.n
      · have h2 := hcj j (c[j]'(by omega)) (List.getElem?_eq_getElem (by omega))
        rw [List.getElem?_eq_getElem (show j < c.length by omega), ← h2, ← htk]
        have h3 : i * e.n + j < zs.length * e.n := by
          have := Nat.mul_le_mul_right e.n (show i + 1 ≤ zs.length by omega)
          rw [Nat.add_mul] at this; omega
        rw [List.getElem?_take_of_lt h3, List.getElem?_take_of_lt hj, List.getElem?_drop]
      · rw [List.getElem?_eq_none (by omega), List.getElem?_take_eq_none (by omega)]
  have hmid := list_set_mid cur.toList (i * e.n) e.n off u hoff (by simpa using hfit)
  rw [← hcc] at hmid
  rw [hmid] at hP hrel
  have hrun := run_storeCells_at X.P g (i * e.n + off) E [u] 0 cur w hg (by simp only [List.length_singleton]; omega) (by intro v hv; rw [List.mem_singleton.1 hv]; exact h1')
  have hmid2 : cur.toList.take (i * e.n + off + 0) ++ [u] ++ cur.toList.drop (i * e.n + off + 0 + [u].length) = cur.toList.set (i * e.n + off) u := by
    rw [List.set_eq_take_append_cons_drop, if_pos (by simp; omega)]; simp
  rw [hmid2] at hrun
  refine ⟨(), _, P, ?_, trivial, hP, hrel⟩
  obtain ⟨ti, hti, _, hsz, _⟩ := ht
  rw [elem_add] at hx
  have hea : (elemAddr (.slice (some ⟨g, 0, none⟩) zs.length cap) i e.n).block = g ∧ (elemAddr (.slice (some ⟨g, 0, none⟩) zs.length cap) i e.n).off = i * e.n := by simp [elemAddr]
  rw [hea.1, hea.2] at hx
  have hcu : u.cells = #[u] := cells_one h1'
  simp [execOp, ha.eval hx, ha.eval hy, Instr.storeAt, Instr.sureAddr, storeVar, sizeOf, typeInfo, hti, hsz, hcu, hrun]

/-- append to an empty row. -/
theorem s_append_nil {L2 : List A} {ys : List α} {t : TypeId} {z : Value} {nb sz : Nat} (hu : X.P.underlying t = some (.slice E)) (hE : TI X.P E z sz nb) (hzs : z.cells.size = sz) (hn : 0 < sz)
    (hx : env.eval x = some v) (hy : env.eval y = some u) (hd : d < X.fn.ntmps) (hp : Pick (Own e E v []) L L1) (hq : Pick (Sl e u ys) L1 L2) (hsz0 : e.n = sz) (hb : ys.length * nb ≤ 140737488355328)
    (hb2 : ys.length ≤ maxLen)
    (k : ∀ v', Kont X ((d, v') :: env) (Own e E v' ys :: Sl e u ys :: L2) K) :
    StepK X kk ⟨some d, .call ⟨.builtin .append, #[x, y], #[t, t]⟩, T, pos, af, none⟩ env L K :=
  s_append hu hE hzs hn hx hy hd hp hq hsz0 (by simpa using hb) (by simpa using hb2) k

theorem c_pu {p : Prop} (ha : Has L (Pu p)) (h : p → Cfg X k env L) : Cfg X k env L := c_fact ha (fun _ _ h => h) h
theorem c_swap {a b : A} (h : Cfg X k env (b :: a :: L)) : Cfg X k env (a :: b :: L) := c_ent (Ent.perm (List.Perm.swap _ _ _)) h
theorem c_perm {L' : List A} (hp : L.Perm L') (h : Cfg X k env L') : Cfg X k env L := c_ent (Ent.perm hp) h
theorem Ent.pu {p : Prop} (h : p) : Ent L (Pu p :: L) := Ent.beside fun _ _ _ => h
theorem pu_has {p : Prop} {w : World} {O : Perm} (h : (Pu p).h w O) : p := h

theorem ent_all {l : List A} : Ent (l ++ L) (AllA l :: L) := fun _ _ hs => stars_split hs

theorem beside_pure {a : A} {cs : List Value} {z : α} (he : e.Pure) (hh : Has L a) (h : ∀ w O, a.h w O → e.rd w O cs z) : Beside (Rd e cs z) L := fun w O hs =>
  ⟨fun _ => 0, O, ⟨fun _ => Nat.zero_le _, fun _ => Nat.le_refl _, fun _ h => by omega, fun _ _ => rfl⟩, he _ _ _ _ _ _ (h w O (hh w O hs)), hs⟩

theorem Pick.of_ent {a : A} {as L' : List A} (h : Ent as [a]) (hp : Picks as L L') : Pick a L L' := fun w O hs => by
  obtain ⟨O1, O2, s, h1, h2⟩ := hp.split w O hs
  obtain ⟨P1, P2, t, g1, _⟩ := h w O1 h1
  exact ⟨O1, O2, s, a.mono g1 t.l, h2⟩
theorem c_mk {a : A} {as L' : List A} (h : Ent as [a]) (hp : Picks as L L') (hc : Cfg X k env (a :: L')) : Cfg X k env L := c_ent (Pick.of_ent h hp).ent hc
theorem o_mk {a : A} {as L' : List A} (h : Ent as [a]) (hp : Picks as L L') (hc : Ops X ops rest kk env (a :: L')) : Ops X ops rest kk env L := o_ent (Pick.of_ent h hp).ent hc
theorem stars_mk {a : A} {as L' : List A} {w : World} {O : Perm} (h : Ent as [a]) (hp : Picks as L L') (hs : Stars L w O) : Stars (a :: L') w O := (Pick.of_ent h hp).ent w O hs

theorem all_mk {l : List A} : Ent l [AllA l] := fun w O hs => by
  have := ent_all (l := l) (L := []) w O (by rw [List.append_nil]; exact hs)
  exact this
theorem o_all {As : List A} (h : Ops X ops rest kk env (As ++ L)) : Ops X ops rest kk env (AllA As :: L) := o_ent (fun _ _ hs => stars_join hs) h

/-! ### ways that meet again -/
theorem c_joinb {i : Item} {d : Nat} (b : Bool) (hk : Cfg X k ((d, .bool b) :: env) L) (h : Cfg X k ((d, .bool b) :: env) L → Cfg X (i :: k) env L) : Cfg X (i :: k) env L := h hk
theorem c_joinv {i : Item} {d : Nat} (v : Value) (hk : Cfg X k ((d, v) :: env) L) (h : Cfg X k ((d, v) :: env) L → Cfg X (i :: k) env L) : Cfg X (i :: k) env L := h hk
/-- Where ways meet again: V tells the slots that turn. -/
theorem c_joinR {γ : Type} {i : Item} (rest : Env) (J : γ → Prop) (V : γ → Env) (LL : γ → List A) (hE : Env.Le rest env) (hj : ∀ g, J g → Cfg X k (V g ++ rest) (LL g)) (h : (∀ g, J g → Cfg X k (V g ++ rest) (LL g)) → Cfg X (i :: k) env L) : Cfg X (i :: k) env L := h hj
theorem c_joinR2 {γ : Type} {i j : Item} (rest : Env) (J : γ → Prop) (V : γ → Env) (LL : γ → List A) (hE : Env.Le rest env) (hj : ∀ g, J g → Cfg X k (V g ++ rest) (LL g)) (h : (∀ g, J g → Cfg X k (V g ++ rest) (LL g)) → Cfg X (i :: j :: k) env L) : Cfg X (i :: j :: k) env L := h hj
/-- A loop: V tells the slots that turn; the others stay. -/
theorem c_loopV {c : Code} {γ : Type} (μ : γ → Nat) (J : γ → Prop) (V : γ → Env) (LL : γ → List A) (g : γ) (hJ : J g) (hE : Env.Le (V g ++ env) env) (hL : Ent L (LL g))
    (round : ∀ g, J g → (∀ g', μ g' < μ g → J g' → Cfg X (.inLoop c :: k) (V g' ++ env) (LL g')) → Cfg X (.code c :: .inLoop c :: k) (V g ++ env) (LL g)) : Cfg X (.code (.loop c) :: k) env L :=
  c_loop μ J (fun g => V g ++ env) LL g hJ hE hL round
theorem c_loopR {c : Code} {γ : Type} (rest : Env) (μ : γ → Nat) (J : γ → Prop) (V : γ → Env) (LL : γ → List A) (g : γ) (hJ : J g) (hE : Env.Le (V g ++ rest) env) (hL : Ent L (LL g))
    (round : ∀ g, J g → (∀ g', μ g' < μ g → J g' → Cfg X (.inLoop c :: k) (V g' ++ rest) (LL g')) → Cfg X (.code c :: .inLoop c :: k) (V g ++ rest) (LL g)) : Cfg X (.code (.loop c) :: k) env L :=
  c_loop μ J (fun g => V g ++ rest) LL g hJ hE hL round
theorem c_loopQ {c : Code} {γ : Type} (rest : Env) (μ : γ → Nat) (J : γ → Prop) (V : γ → Env) (g : γ) (hJ : J g) (hE : Env.Le (V g ++ rest) env)
    (round : ∀ g, J g → (∀ g', μ g' < μ g → J g' → Cfg X (.inLoop c :: k) (V g' ++ rest) L) → Cfg X (.code c :: .inLoop c :: k) (V g ++ rest) L) : Cfg X (.code (.loop c) :: k) env L :=
  c_loop μ J (fun g => V g ++ rest) (fun _ => L) g hJ hE (Ent.refl _) round
theorem c_loopS {c : Code} {γ : Type} (μ : γ → Nat) (J : γ → Prop) (V : γ → Env) (g : γ) (hJ : J g) (hE : Env.Le (V g ++ env) env)
    (round : ∀ g, J g → (∀ g', μ g' < μ g → J g' → Cfg X (.inLoop c :: k) (V g' ++ env) L) → Cfg X (.code c :: .inLoop c :: k) (V g ++ env) L) : Cfg X (.code (.loop c) :: k) env L :=
  c_loop μ J (fun g => V g ++ env) (fun _ => L) g hJ hE (Ent.refl _) round
end
end Go.SL

/- Blocks: variables in memory; made slices; append. -/
import Derived.Test.YtnamhhmfnokfiaaQ4
import Derived.Lib.AppendStr
import Derived.ArgAppend
namespace Go.SL
open Go

theorem dom_zero {w : World} {O : Perm} (hdom : ∀ b, O b ≠ 0 → b < w.heap.size) : O w.heap.size = 0 := by
  rcases Nat.eq_zero_or_pos (O w.heap.size) with h | h
  · exact h
  · have := hdom w.heap.size (by omega); omega

/-- Behind an append or a make: one row of one's own may have turned. -/
theorem rel_grown {w w' : World} {O : Perm} {row : Option Nat} (hg : w.grownBy w' row) (hrow : ∀ k, row = some k → 2 ≤ O k) (new : Nat → Nat)
    (hnew : ∀ b, new b ≠ 0 → w.heap.size ≤ b ∧ b < w'.heap.size) : Rel w O w' fun b => if b < w.heap.size then O b else new b := by
  refine ⟨hg.os, hg.tape, hg.output, hg.size, fun b hb hlt => hg.block b hb fun h => ?_, fun b hb => ?_, fun b hb => ?_⟩
  · have := hrow b h.symm; omega
  · simp only [if_pos hb]; exact Nat.le_refl _
  · by_cases h : b < w.heap.size
    · have := hg.size; omega
    · simp only [if_neg h] at hb; exact (hnew b hb).2

section
variable {K : Act → World → Prop} {X : Cx} {ops : Array Oper} {rest : List Oper} {kk : List Item} {env : Env} {L L1 L2 : List A} {d : Nat} {T : TypeId} {pos : String} {af : Array Edge} {x y : Operand}

theorem blk_new (w : World) (cs : List Value) (t : TypeId) : (Blk w.heap.size t cs).h (w.alloc (.cells cs.toArray t)) fun b => if b = w.heap.size then 2 else 0 :=
  ⟨by simp, heap_alloc w _⟩

/-- A new variable. -/
theorem s_alloc {t : TypeId} {z : Value} {n bt : Nat} (ht : TI X.P t z n bt) (hd : d < X.fn.ntmps)
    (k : ∀ b, Kont X ((d, .pointer (some ⟨b, 0, none⟩)) :: env) (Blk b t z.cells.toList :: L) K) : StepK X kk ⟨some d, .alloc t, T, pos, af, none⟩ env L K := by
  refine s_main (γ := Nat) (V := fun b => .pointer (some ⟨b, 0, none⟩)) (pu := fun _ => True) (L' := fun b => Blk b t z.cells.toList :: L) ?_ hd (fun b _ => k b)
  intro a w O ha hst hdom
  obtain ⟨i, hi, hz, _, _⟩ := ht
  refine ⟨w.heap.size, w.alloc (.cells z.cells.toList.toArray t), fresh w O, ?_, trivial, stars_alloc _ hdom hst (blk_new w _ t), rel_alloc _ hdom⟩
  simp [execOp, Instr.alloc, zeroValue, typeInfo, hi, hz, newVar, newRow, newObj, Sem.run]
/-- A new variable that holds a value. -/
theorem s_box {t : TypeId} {u : Value} (hx : env.eval x = some u) (hd : d < X.fn.ntmps)
    (k : ∀ b, Kont X ((d, .pointer (some ⟨b, 0, none⟩)) :: env) (Blk b t u.cells.toList :: L) K) : StepK X kk ⟨some d, .box t x, T, pos, af, none⟩ env L K := by
  refine s_main (γ := Nat) (V := fun b => .pointer (some ⟨b, 0, none⟩)) (pu := fun _ => True) (L' := fun b => Blk b t u.cells.toList :: L) ?_ hd (fun b _ => k b)
  intro a w O ha hst hdom
  refine ⟨w.heap.size, w.alloc (.cells u.cells.toList.toArray t), fresh w O, ?_, trivial, stars_alloc _ hdom hst (blk_new w _ t), rel_alloc _ hdom⟩
  simp [execOp, Instr.box, ha.eval hx, newVar, newRow, newObj, Sem.run]

theorem v_fieldAddr {t : TypeId} {fs : Array Field} {f : Field} {i : Nat} {p : Addr} {z : Value} {n bt : Nat} (hu : X.P.underlying t = some (.struct fs)) (hf : fs[i]? = some f) (ht : TI X.P f.type z n bt) (hn : n ≠ 0)
    (hx : env.eval x = some (.pointer (some p))) : Val X env L (.fieldAddr t x i) T (.pointer (some (p.add f.offset))) :=
  fun _ _ _ _ a w O ha _ => by
    obtain ⟨ti, hi, _, hsz, _⟩ := ht
    have : ti.size ≠ 0 := by omega
    simp [execOp, ha.eval hx, Instr.fieldAt, Instr.sureAddr, run_underlying hu, hf, fieldPlace, sizeOf, typeInfo, hi, this]
theorem v_nilCheck {p : Addr} (hx : env.eval x = some (.pointer (some p))) : Val X env L (.nilCheck x) T (.pointer (some p)) :=
  fun _ _ _ _ a w O ha _ => by simp [execOp, ha.eval hx]
theorem blk_cell {w : World} {b : Nat} {t : TypeId} {cs : Array Value} {fz : Nat × Nat} (h : w.heap[b]? = some (.cells cs t fz)) (off : Nat) : w.cell? ⟨b, off, none⟩ = cs[off]? := by
  simp [World.cell?, h]
/-- A cell of a block is read. -/
theorem v_load {t : TypeId} {b off : Nat} {bt : TypeId} {cs : List Value} {u : Value} (ht : Lone X.P t) (hx : env.eval x = some (.pointer (some ⟨b, off, none⟩)))
    (hb : Has L (BlkR b bt cs)) (hc : cs[off]? = some u) : Val X env L (.load t x) T (u) :=
  fun _ _ _ _ a w O ha hl => by
    obtain ⟨_, fz, hh⟩ := hb w O hl
    have : w.cell? ⟨b, off, none⟩ = some u := by rw [blk_cell hh]; simpa using hc
    simp [execOp, ha.eval hx, Instr.loadAt, Instr.sureAddr, run_loadLone ht this]
/-- A struct in a block is read. -/
theorem v_load_blk_agg {t : TypeId} {b off n : Nat} {bt : TypeId} {cs : List Value} {z0 : Value} {nb : Nat} (ht : ∃ fs, X.P.underlying t = some (.struct fs)) (hE : TI X.P t z0 n nb) (hx : env.eval x = some (.pointer (some ⟨b, off, none⟩)))
    (hb : Has L (BlkR b bt cs)) (hc : off + n ≤ cs.length) : Val X env L (.load t x) T (.agg ((cs.drop off).take n).toArray) :=
  fun _ _ _ _ a w O ha hl => by
    obtain ⟨_, fz, hh⟩ := hb w O hl
    obtain ⟨ti, hi, _, hsz, _⟩ := hE
    have : CellsAt w ⟨b, off, none⟩ ((cs.drop off).take n) := fun j u hj => by
      have hadd : (⟨b, off, none⟩ : Addr).add j = ⟨b, off + j, none⟩ := by
        unfold Addr.add; split
        · rename_i h; rw [h, Nat.add_zero]
        · rfl
      rw [hadd, blk_cell hh]
      rw [List.getElem?_take] at hj
      split at hj
      · rw [List.getElem?_drop] at hj; simpa using hj
      · cases hj
    have hrun := run_loadAgg ht hi (by rw [hsz]; simp; omega) this
    simp [execOp, ha.eval hx, Instr.loadAt, Instr.sureAddr, hrun]

theorem setCell_heap_self {w : World} {b off : Nat} {t : TypeId} {cs : List Value} {u : Value} (h : w.heap[b]? = some (.cells cs.toArray t (0, 0))) :
    (w.setCell ⟨b, off, none⟩ u).heap[b]? = some (.cells (cs.set off u).toArray t (0, 0)) := by
  simp [World.setCell, Array.getElem?_modify, h]
theorem setCell_rel {w : World} {O : Perm} {b off : Nat} {u : Value} (hb : 2 ≤ O b) (hdom : ∀ b, O b ≠ 0 → b < w.heap.size) : Rel w O (w.setCell ⟨b, off, none⟩ u) O := by
  refine ⟨rfl, rfl, rfl, by simp [World.setCell], fun c _ hlt => ?_, fun _ _ => Nat.le_refl _, fun c hc => ?_⟩
  · simp only [World.setCell, Array.getElem?_modify]
    rw [if_neg (by intro h; subst h; omega)]
  · have := hdom c hc; simpa [World.setCell] using this
/-- A step that turns what is picked alone. -/
theorem step_at {w w' : World} {O O1 O2 O' : Perm} {L' L2 : List A} (hdom : ∀ b, O b ≠ 0 → b < w.heap.size) (s : Split O O1 O2) (h2 : Stars L2 w O2) (hr : Rel w O1 w' O') (h' : Stars L' w' O') :
    ∃ P, Stars (L' ++ L2) w' P ∧ Rel w O w' P := by
  obtain ⟨s', h2', hrel⟩ := frame hdom s h2 hr
  exact ⟨_, Stars.app s' h' h2', hrel⟩

/-- A cell of a block of one's own is written. -/
theorem s_store {t : TypeId} {b off : Nat} {bt : TypeId} {cs cs' : List Value} {u : Value} {z : Value} {nb : Nat} (ht : TI X.P t z 1 nb) (hx : env.eval x = some (.pointer (some ⟨b, off, none⟩))) (hy : env.eval y = some u) (h1 : u.oneCell' = true)
    (hp : Pick (Blk b bt cs) L L1) (hlt : off < cs.length) (hset : cs.set off u = cs') (k : Kont X env (Blk b bt cs' :: L1) K) : StepK X kk ⟨none, .store t x y, T, pos, af, none⟩ env L K := by
  refine s_skip (γ := Unit) (pu := fun _ => True) (L' := fun _ => Blk b bt cs' :: L1) ?_ (fun _ _ => k)
  intro a w O ha hst hdom
  obtain ⟨O1, O2, s, ⟨hb2, hh⟩, hs2⟩ := hp w O hst
  have hdom1 : ∀ b, O1 b ≠ 0 → b < w.heap.size := fun b hb => hdom b (by have := s.l b; omega)
  obtain ⟨P, hP, hrel⟩ := step_at hdom s hs2 (setCell_rel (off := off) (u := u) hb2 hdom1) (L' := [Blk b bt cs']) ⟨O1, fun _ => 0, ⟨fun _ => Nat.le_refl _, fun _ => Nat.zero_le _, fun _ _ => rfl, fun _ h => by omega⟩, ⟨hb2, by rw [setCell_heap_self hh, hset]⟩, trivial⟩
  refine ⟨(), _, P, ?_, trivial, hP, hrel⟩
  obtain ⟨ti, hi, _, hsz, _⟩ := ht
  have hc : u.cells = #[u] := by cases u <;> first | rfl | cases h1
  have hcell : w.cell? ⟨b, off, none⟩ = some cs[off] := by rw [blk_cell hh]; simp [hlt]
  have hfr : w.frozen? ⟨b, off, none⟩ = false := by simp [World.frozen?, hh]
  have hst := run_store X.P w ⟨b, off, none⟩ u .plain h1
  rw [hcell] at hst
  simp only [hfr, Bool.false_eq_true, if_false] at hst
  have hadd : (⟨b, off, none⟩ : Addr).add 0 = ⟨b, off, none⟩ := rfl
  simp [execOp, ha.eval hx, ha.eval hy, Instr.storeAt, Instr.sureAddr, storeVar, hc, sizeOf, typeInfo, hi, hsz, storeCells, hadd, hst]

/-! ### append -/
variable {α : Type} {e : Enc α} {v u : Value} {zs ys : List α} {E : TypeId}
theorem Own.of_row {w' : World} {O1 P2 : Perm} {v' : Value} {cs : List Value} {zs' : List α} (hrow : w'.ownsRow 0 E e.n v' zs'.length cs) (hr : Rows e w' P2 cs zs') (hdisj : ∀ b, v'.ownBlock = some b → P2 b = 0) (hP : ∀ b, P2 b ≤ 1)
    (hO : ∀ b, P2 b ≤ O1 b) (hown : ∀ b, v'.ownBlock = some b → 2 ≤ O1 b) : (Own e E v' zs').h w' O1 := by
  refine ⟨fun b => if v'.ownBlock = some b then O1 b else 0, P2, cs, ⟨fun b => ?_, hO, fun b hb => ?_, fun b hb => ?_⟩, hrow, fun b hb => ?_, hr⟩
  · show (if _ then _ else _) ≤ _; split <;> omega
  · by_cases h : v'.ownBlock = some b
    · exact hdisj b h
    · simp [h] at hb
  · have := hP b; omega
  · simp only [hb, if_true]; exact hown b hb

/-- What append comes to. -/
theorem append_core {P : Program} {w : World} {t : TypeId} {ti : TypeInfo} {z : Value} {size nb : Nat} (hu : P.underlying t = some (.slice E)) (hi : P.info? E = some ti) (hz : ti.zero = some z) (hsz : ti.size = size) (hbt : ti.bytes = nb)
    (hzs : z.cells.size = size) (hn : 0 < size) {v : Value} {n : Nat} {cs : List Value} (g1 : w.ownsRow 0 E size v n cs) {a0 : Option Addr} {m cap : Nat} {cs' : List Value}
    (hsrc : (a0 = none ∧ m = 0 ∧ cs' = []) ∨ ∃ a, a0 = some a ∧ cs'.length = m * size ∧ (∀ j u, cs'[j]? = some u → w.cell? (a.add j) = some u) ∧ ∀ u ∈ cs', u.oneCell' = true)
    (hb : (n + m) * nb ≤ 140737488355328) (hb2 : n + m ≤ maxLen) :
    ∃ v' w', (Builtin.append_ #[t, t] T #[v, .slice a0 m cap]).run P w = .ok v' w' ∧ w'.ownsRow 0 E size v' (n + m) (cs ++ cs') ∧ w.grownBy w' v.ownBlock ∧
      ∀ b, v'.ownBlock = some b → b < w'.heap.size ∧ (v.ownBlock = some b ∨ w.heap.size ≤ b) := by
  have hblk : ∀ {w' : World} {v' : Value} {base n : Nat} {xs : List Value}, w'.ownsRow base E size v' n xs → ∀ b, v'.ownBlock = some b → b < w'.heap.size ∧ base ≤ b := by
    intro w' v' base n xs h b hb
    rcases h.2 with ⟨rfl, _⟩ | ⟨g, cap, cur, rfl, hbase, hg, _⟩
    · simp [Value.ownBlock] at hb
    · simp only [Value.ownBlock, Option.some.injEq] at hb
      subst hb
      refine ⟨?_, hbase⟩
      rcases Nat.lt_or_ge g w'.heap.size with h | h
      · exact h
      · rw [Array.getElem?_eq_none h] at hg; cases hg
  have weak : ∀ {w' : World} {v' : Value} {base n : Nat} {xs : List Value}, w'.ownsRow base E size v' n xs → w'.ownsRow 0 E size v' n xs := by
    intro w' v' base n xs h
    exact ⟨h.1, h.2.imp id fun ⟨g, cap, cur, e, _, r⟩ => ⟨g, cap, cur, e, Nat.zero_le _, r⟩⟩
  rcases hsrc with ⟨rfl, rfl, rfl⟩ | ⟨a, rfl, hl, hnews, h1⟩
  · refine ⟨v, w, ?_, by simpa using g1, ⟨rfl, rfl, rfl, Nat.le_refl _, fun _ _ _ => rfl⟩, fun b hb => ⟨(hblk g1 b hb).1, .inl hb⟩⟩
    rcases g1.2 with ⟨rfl, h0⟩ | ⟨g, cap, cur, rfl, _, _, hnc, _⟩
    · simp [Builtin.append_, run_underlying hu, sizeOf, typeInfo, hi, Builtin.lenOf, Builtin.firstCells]
    · simp [Builtin.append_, run_underlying hu, sizeOf, typeInfo, hi, Builtin.lenOf, Builtin.firstCells, hnc, storeCells]
  · rcases g1.2 with ⟨rfl, h0⟩ | ⟨g, cap', cur, rfl, hbg, hg, hnc, hcm, hcs, htake⟩
    · subst h0
      have g1' : w.ownsRow w.heap.size E size (.slice none 0 0) 0 cs := ⟨g1.1, .inl ⟨rfl, rfl⟩⟩
      obtain ⟨v', w', hrun, hown', hgr, _⟩ := run_append_own (P := P) w w.heap.size t T E ti z size nb hu hi hz hsz hbt hzs hn _ 0 cs g1' a m cap cs' hl hnews h1 hb2 hb (Nat.le_refl _)
      exact ⟨v', w', hrun, weak hown', hgr, fun b hb => ⟨(hblk hown' b hb).1, .inr (hblk hown' b hb).2⟩⟩
    · by_cases hroom : n + m ≤ cap'
      · have hfit : n * ti.size + cs'.length ≤ cur.size := by rw [hl, hcs, hsz, ← Nat.add_mul]; exact Nat.mul_le_mul_right _ hroom
        have hr := run_append_room (P := P) w t T E ti hu hi g n cap' cur hg a m cap cs' (by rw [hsz]; exact hl) hnews h1 hroom hfit
        have hlen : (cs ++ cs').length = (n + m) * size := by rw [List.length_append, g1.1, hl, Nat.add_mul]
        have hown' : (w.setRow g (cur.toList.take (n * ti.size) ++ cs' ++ cur.toList.drop (n * ti.size + cs'.length)).toArray).ownsRow 0 E size (.slice (some ⟨g, 0, none⟩) (n + m) cap') (n + m) (cs ++ cs') := by
          refine ⟨hlen, .inr ⟨g, cap', _, rfl, hbg, setRow_heap w g cur _ E _ hg, hroom, hcm, ?_, ?_⟩⟩
          · simp only [List.size_toArray, List.length_append, List.length_take, List.length_drop, Array.length_toList]
            omega
          · rw [hsz, htake, ← hlen]
            exact List.take_left
        refine ⟨_, _, hr, hown', ⟨rfl, rfl, rfl, by simp, fun k _ hk => setRow_other w g k _ (fun e => hk (by simp [Value.ownBlock, e]))⟩, fun b hb => ⟨(hblk hown' b hb).1, .inl hb⟩⟩
      · have holds : ∀ j u, cs[j]? = some u → w.cell? ((⟨g, 0, none⟩ : Addr).add j) = some u := by
          intro j u hj
          have hadd : (⟨g, 0, none⟩ : Addr).add j = ⟨g, j, none⟩ := by
            unfold Addr.add; split
            · rename_i h; rw [h]
            · simp
          have hjl := cell_in hj
          rw [g1.1] at hjl
          rw [hadd, blk_cell hg]
          rw [← htake, List.getElem?_take, if_pos hjl] at hj
          simpa using hj
        obtain ⟨v', w', hrun, hown', hgr⟩ := run_append_arg_grows (P := P) (w := w) t T E ti z size nb hu hi hz hsz hbt hzs hn ⟨g, 0, none⟩ n cap' cs g1.1 holds a m cap cs' hl hnews (by omega) hb2 hb
        exact ⟨v', w', hrun, weak hown', ⟨hgr.os, hgr.tape, hgr.output, hgr.size, fun k hk _ => hgr.block k hk (by simp)⟩, fun b hb => ⟨(hblk hown' b hb).1, .inr (hblk hown' b hb).2⟩⟩

/-- What follows for the assertions. -/
theorem own_grow {w w' : World} {O O1 O2 O3 O4 : Perm} {v v' : Value} {cs' : List Value} {a' : A} (hdom : ∀ b, O b ≠ 0 → b < w.heap.size) (s : Split O O1 O2) (hO : (Own e E v zs).h w O1)
    (s3 : Split O2 O3 O4) (hsl : a'.h w (fun b => min (O3 b) 1)) (hs4 : Stars L2 w O4) (hr : Rows e w (fun b => min (O3 b) 1) cs' ys)
    (hcs : ∀ P1 P2 c0, Split O1 P1 P2 → w.ownsRow 0 E e.n v zs.length c0 → Rows e w P2 c0 zs → w'.ownsRow 0 E e.n v' (zs.length + ys.length) (c0 ++ cs'))
    (hg : w.grownBy w' v.ownBlock) (hv' : ∀ b, v'.ownBlock = some b → b < w'.heap.size ∧ (v.ownBlock = some b ∨ w.heap.size ≤ b)) :
    ∃ P, Stars (Own e E v' (zs ++ ys) :: a' :: L2) w' P ∧ Rel w O w' P := by
  obtain ⟨P1, P2, c0, t1, g1, g2, g3⟩ := hO
  have hrow := hcs P1 P2 c0 t1 g1 g3
  have d1 : ∀ b, O1 b ≠ 0 → b < w.heap.size := fun b hb => hdom b (by have := s.l b; omega)
  have d2 : ∀ b, O2 b ≠ 0 → b < w.heap.size := fun b hb => hdom b (by have := s.r b; omega)
  have hrel1 : Rel w O1 w' (fun b => if b < w.heap.size then O1 b else if w.heap.size ≤ b ∧ v'.ownBlock = some b then 2 else 0) :=
    rel_grown hg (fun k hk => Nat.le_trans (g2 k hk) (t1.l k)) _ (fun b hb => by
      by_cases h : w.heap.size ≤ b ∧ v'.ownBlock = some b
      · exact ⟨h.1, (hv' b h.2).1⟩
      · simp [h] at hb)
  generalize hN : (fun b => if b < w.heap.size then O1 b else if w.heap.size ≤ b ∧ v'.ownBlock = some b then 2 else 0) = N at hrel1
  have hNo : ∀ b, b < w.heap.size → N b = O1 b := fun b hb => by rw [← hN]; simp [hb]
  have hNn : ∀ b, w.heap.size ≤ b → v'.ownBlock = some b → N b = 2 := fun b hb h => by rw [← hN]; simp [h, hb]; omega
  have hs2 : Stars (a' :: L2) w O2 := ⟨fun b => min (O3 b) 1, O4, ⟨fun b => by have := s3.l b; show min _ _ ≤ _; omega, s3.r, fun b hb => by have h' : 2 ≤ min (O3 b) 1 := hb; omega, fun b hb => by have := s3.rl b hb; show min _ _ = _; omega⟩, hsl, hs4⟩
  obtain ⟨sf, hs2', hrel⟩ := frame hdom s hs2 hrel1
  -- the rows
  have hloc : ∀ (Q : Perm), (∀ b, Q b ≠ 0 → b < w.heap.size ∧ v.ownBlock ≠ some b) → ∀ b, Q b ≠ 0 → w'.heap[b]? = w.heap[b]? := fun Q hQ b hb => hg.block b (hQ b hb).1 (fun h => (hQ b hb).2 h.symm)
  have hP2 : ∀ b, P2 b ≠ 0 → b < w.heap.size ∧ v.ownBlock ≠ some b := fun b hb => ⟨d1 b (by have := t1.r b; omega), fun h => hb (t1.lr b (g2 b h))⟩
  have hO3 : ∀ b, O3 b ≠ 0 → b < w.heap.size ∧ v.ownBlock ≠ some b := fun b hb => ⟨d2 b (by have := s3.l b; omega), fun h => by
    have h1 := g2 b h
    have h2 := t1.l b
    have h3 := s.lr b (by omega)
    have h4 := s3.l b
    omega⟩
  have hr1 : Rows e w' (fun b => max (min (P2 b) 1) (min (O3 b) 1)) c0 zs := (g3.dup.loc (hloc _ fun b hb => hP2 b (by intro h; rw [h] at hb; exact hb rfl))).mono fun b => by show min _ 1 ≤ max _ _; omega
  have hr2 : Rows e w' (fun b => max (min (P2 b) 1) (min (O3 b) 1)) cs' ys := (hr.loc (hloc _ fun b hb => hO3 b (by intro h; rw [h] at hb; exact hb rfl))).mono fun b => by show min _ 1 ≤ max _ _; omega
  have hlen : (zs ++ ys).length = zs.length + ys.length := List.length_append
  have hown : (Own e E v' (zs ++ ys)).h w' (fun b => max (N b) (min (O3 b) 1)) := by
    refine Own.of_row (by rw [hlen]; exact hrow) (hr1.append hr2) (fun b hb => ?_) (fun b => by show max _ _ ≤ 1; omega) (fun b => ?_) (fun b hb => ?_)
    · rcases (hv' b hb).2 with h | h
      · have h1 : P2 b = 0 := t1.lr b (g2 b h)
        have h2 : O3 b = 0 := by
          rcases Nat.eq_zero_or_pos (O3 b) with h3 | h3
          · exact h3
          · exact absurd h (hO3 b (by omega)).2
        show max _ _ = _; omega
      · have h1 : P2 b = 0 := by
          rcases Nat.eq_zero_or_pos (P2 b) with h3 | h3
          · exact h3
          · have := (hP2 b (by omega)).1; omega
        have h2 : O3 b = 0 := by
          rcases Nat.eq_zero_or_pos (O3 b) with h3 | h3
          · exact h3
          · have := (hO3 b (by omega)).1; omega
        show max _ _ = _; omega
    · show max (min (P2 b) 1) (min (O3 b) 1) ≤ max (N b) (min (O3 b) 1)
      rcases Nat.eq_zero_or_pos (P2 b) with h3 | h3
      · omega
      · have h4 := (hP2 b (by omega)).1
        have h5 := hNo b h4
        have := t1.r b
        omega
    · show 2 ≤ max _ _
      rcases (hv' b hb).2 with h | h
      · have h1 := g2 b h
        have h2 := t1.l b
        have h3 := d1 b (by omega)
        have h4 := hNo b h3
        omega
      · have := hNn b h hb; omega
  obtain ⟨Q3, Q4, u1, k1, k2⟩ := hs2'
  refine ⟨fun b => max (N b) (O2 b), ⟨fun b => max (N b) (min (O3 b) 1), fun b => max (min (O3 b) 1) (O4 b), ⟨fun b => ?_, fun b => ?_, fun b hb => ?_, fun b hb => ?_⟩, hown, fun b => min (O3 b) 1, O4, ⟨fun b => ?_, fun b => ?_, fun b hb => ?_, fun b hb => ?_⟩,
    a'.loc hsl (hloc _ fun b hb => hO3 b (by intro h; rw [h] at hb; exact hb rfl)), hs4.loc fun b hb => ?_⟩, hrel⟩
  · have := s3.l b; show max _ _ ≤ max _ _; omega
  · have := s3.l b; have := s3.r b; show max _ _ ≤ max _ _; omega
  · have h1 : 2 ≤ N b := by have h' : 2 ≤ max (N b) (min (O3 b) 1) := hb; omega
    have := sf.lr b h1; have := s3.l b; have := s3.r b; show max _ _ = 0; omega
  · have h1 : 2 ≤ O4 b := by have h' : 2 ≤ max (min (O3 b) 1) (O4 b) := hb; omega
    have h2 := s3.rl b h1
    have h3 := s3.r b
    have h4 := sf.rl b (by omega)
    show max _ _ = 0; omega
  · show _ ≤ max _ _; omega
  · show _ ≤ max _ _; omega
  · have h' : 2 ≤ min (O3 b) 1 := hb; omega
  · have := s3.rl b hb; show min _ _ = 0; omega
  · have h1 := s3.r b
    refine hg.block b (d2 b (by omega)) fun h => ?_
    have h3 := g2 b h.symm
    have h4 := t1.l b
    have h5 := s.lr b (by omega)
    omega

/-- append(x, y...), x a row of one's own. -/
theorem s_append {t : TypeId} {z : Value} {nb sz : Nat} (hu : X.P.underlying t = some (.slice E)) (hE : TI X.P E z sz nb) (hzs : z.cells.size = sz) (hn : 0 < sz)
    (hx : env.eval x = some v) (hy : env.eval y = some u) (hd : d < X.fn.ntmps) (hp : Pick (Own e E v zs) L L1) (hq : Pick (Sl e u ys) L1 L2) (hsz0 : e.n = sz) (hb : (zs.length + ys.length) * nb ≤ 140737488355328)
    (hb2 : zs.length + ys.length ≤ maxLen)
    (k : ∀ v', Kont X ((d, v') :: env) (Own e E v' (zs ++ ys) :: Sl e u ys :: L2) K) :
    StepK X kk ⟨some d, .call ⟨.builtin .append, #[x, y], #[t, t]⟩, T, pos, af, none⟩ env L K := by
  subst hsz0
  refine s_main (γ := Value) (V := fun u => u) (pu := fun _ => True) (L' := fun v' => Own e E v' (zs ++ ys) :: Sl e u ys :: L2) ?_ hd (fun u _ => k u)
  intro a w O ha hst hdom
  obtain ⟨O1, O2, s, hO, hs2⟩ := hp w O hst
  obtain ⟨O3, O4, s3, hsl, hs4⟩ := hq w O2 hs2
  have hslD := SlP.dup hsl
  obtain ⟨ti, hi, hz0, hsz, hbt⟩ := hE
  obtain ⟨a0, cap, rfl, q1, q2, q3⟩ := id hslD
  obtain ⟨P1, P2, cs, t1, g1, g2, g3⟩ := id hO
  have hadd : ∀ b off j : Nat, (⟨b, off, none⟩ : Addr).add j = ⟨b, off + j, none⟩ := fun b off j => by
    unfold Addr.add; split
    · rename_i h; rw [h, Nat.add_zero]
    · rfl
  obtain ⟨cs', hsrc, hr⟩ : ∃ cs', ((a0 = none ∧ ys.length = 0 ∧ cs' = []) ∨ ∃ a, a0 = some a ∧ cs'.length = ys.length * e.n ∧ (∀ j u, cs'[j]? = some u → w.cell? (a.add j) = some u) ∧ ∀ u ∈ cs', u.oneCell' = true) ∧
      Rows e w (fun b => min (O3 b) 1) cs' ys := by
    rcases q3 with ⟨_, rfl⟩ | ⟨b, off, cs', rfl, hb1, hr, hc⟩
    · cases a0 with
      | none => exact ⟨[], .inl ⟨rfl, rfl, rfl⟩, rfl⟩
      | some a => exact ⟨[], .inr ⟨a, rfl, by simp, fun j u hj => by simp at hj, fun u hu => by cases hu⟩, rfl⟩
    · exact ⟨cs', .inr ⟨_, rfl, hr.length, fun j u hj => by rw [hadd]; exact hc j u hj, hr.one⟩, hr⟩
  obtain ⟨v', w', hrun, hown', hgr, hv'⟩ := append_core (P := X.P) (T := T) (t := t) (cap := cap) hu hi hz0 hsz hbt hzs hn g1 hsrc hb hb2
  obtain ⟨P, hP, hrel⟩ := own_grow (a' := Sl e (.slice a0 ys.length cap) ys) (v' := v') (cs' := cs') hdom s hO s3 hslD hs4 hr (fun Q1 Q2 c0 _ h1 _ => by
    have : c0 = cs := by
      rcases h1.2 with ⟨rfl, h0⟩ | ⟨g, cap, cur, rfl, _, hg, _, _, _, htk⟩
      · have e1 := h1.1; have e2 := g1.1
        rw [h0, Nat.zero_mul] at e1 e2
        rw [List.eq_nil_of_length_eq_zero e1, List.eq_nil_of_length_eq_zero e2]
      · rcases g1.2 with ⟨h, _⟩ | ⟨g', cap', cur', h', _, hg', _, _, _, htk'⟩
        · cases h
        · cases h'
          rw [hg] at hg'; cases hg'
          rw [← htk, ← htk']
    rw [this]; exact hown') hgr hv'
  refine ⟨v', w', P, ?_, trivial, hP, hrel⟩
  have hruns : (Builtin.append_ #[t, t] T #[a.eval x, a.eval y]).run X.P w = .ok v' w' := by rw [ha.eval hx, ha.eval hy]; exact hrun
  simp [execOp, resolve, invoke, builtin, hruns]
end
end Go.SL

/- The texts I4, W7, W8, I6, I7, S1, S2, S3, DA, W9, one behind the other. -/
import Derived.Test.YtmgkeippepeggaaGreatDoorZZ6
set_option linter.unusedVariables false
set_option linter.unusedSimpArgs false
/- Chapter 09: the program's reader: a change. -/
namespace Go.Proofs.YtmgkeippepeggaaGreatDoor
open Go Go.SL Go.Lib
attribute [local irreducible] Cfg Kont StepK Val Con Qops Any Sl Own Blk BlkR Rd Pu ExA AllA Has Pick Ent Elem Beside Callable TI Lone OwnO AndA
set_option maxRecDepth 100000 in
theorem inRaw_con (i : Nat) (bv : Value) (s : St9) (te : TypeId) (pe : Value) : Con Tryz.prog 71 [ptr i] [Blk i 92 [bv, .bool s.2], Sl eByte bv s.1, G1 te pe, G3] (γ := Value × Value × Value)
    (fun g => .agg #[.int .i64 (rawPrim s).2.1, .string (rawPrim s).2.2.1, .string (rawPrim s).2.2.2.1, .int .i64 (rawPrim s).2.2.2.2.1, g.2.1, g.2.2]) (fun _ => True)
    (fun g => [Blk i 92 [g.1, .bool (rawPrim s).1.2], Sl eByte g.1 (rawPrim s).1.1, Sl eStr g.2.1 (rawPrim s).2.2.2.2.2.1, Sl eStr g.2.2 (rawPrim s).2.2.2.2.2.2]) := by
  have c1 := inNum_con i bv s te pe
  obtain ⟨s1, k, h1⟩ : ∃ s1 k, takeNum s = (s1, k) := ⟨_, _, rfl⟩
  rw [h1] at c1
  have c2 := fun v => inText_con i v s1 24 te pe
  obtain ⟨s2, n, h2⟩ : ∃ s2 n, takeText 24 s1 = (s2, n) := ⟨_, _, rfl⟩
  rw [h2] at c2
  have c3 := fun v => inText_con i v s2 24 te pe
  obtain ⟨s3, t, h3⟩ : ∃ s3 t, takeText 24 s2 = (s3, t) := ⟨_, _, rfl⟩
  rw [h3] at c3
  have c4 := fun v => inNum_con i v s3 te pe
  obtain ⟨s4, a, h4⟩ : ∃ s4 a, takeNum s3 = (s4, a) := ⟨_, _, rfl⟩
  rw [h4] at c4
  have c5 := fun v => inTexts_con i v s4 s4.1.length 60 te pe
  obtain ⟨s5, o, h5⟩ : ∃ s5 o, takeTexts s4.1.length 60 s4 = (s5, o) := ⟨_, _, rfl⟩
  rw [h5] at c5
  have c6 := fun v => inTexts_con i v s5 s5.1.length 60 te pe
  obtain ⟨s6, w, h6⟩ : ∃ s6 w, takeTexts s5.1.length 60 s5 = (s6, w) := ⟨_, _, rfl⟩
  rw [h6] at c6
  have hraw : rawPrim s = (s6, (k, n, t, a, o, w)) := by unfold rawPrim; simp only [h1, h2, h3, h4, h5, h6]
  rw [hraw]
  dsimp only at c1 c2 c3 c4 c5 c6 ⊢
  refine con_of Tryz.func71 rfl (dd rfl) fun w0 O0 => ?_
  refine c_seq ?_
  refine c_region ?_
  refine o_step (s_alloc ti58 (dd rfl) (fun b2 => ?_))
  refine o_nil ?_
  refine c_seq ?_
  refine c_region ?_
  refine o_val (v_move rfl) (dd rfl) ?_
  refine o_step (s_callf cl14 (c1) rfl (dd rfl) (pXs (by repeat constructor)) fun v1 _ => ?_)
  refine o_val (v_move rfl) (dd rfl) ?_
  refine o_step (s_callf cl16 (c2 v1) rfl (dd rfl) (pXs (by repeat constructor)) fun v2 _ => ?_)
  refine o_val (v_move rfl) (dd rfl) ?_
  refine o_step (s_callf cl16 (c3 v2) rfl (dd rfl) (pXs (by repeat constructor)) fun v3 _ => ?_)
  refine o_val (v_move rfl) (dd rfl) ?_
  refine o_step (s_callf cl14 (c4 v3) rfl (dd rfl) (pXs (by repeat constructor)) fun v4 _ => ?_)
  refine o_val (v_buildS (places := [(0, 1), (1, 1), (2, 1), (3, 1), (4, 1), (5, 1)]) (cells := [_, _, _, _, .slice none 0 0, .slice none 0 0]) Tryz.underlying58 ti58 (by kernel_rfl) rfl (by repeat (first | exact PartsC.nil | (apply PartsC.one (by first | exact OneC.lit rfl | exact OneC.sl (hX (by repeat constructor)) )) | (apply PartsC.lit rfl))) rfl) (dd rfl) ?_
  refine o_step (s_alloc ti58 (dd rfl) (fun b3 => ?_))
  refine o_step (s_store_all ti58 rfl rfl (by first | exact CellsV.lit rfl | exact CellsV.one (by first | exact OneC.lit rfl | exact OneC.sl (hX (by repeat constructor)) )) (by repeat (first | exact OneAll.nil | (refine OneAll.cons ?_ ?_; · first | exact OneC.lit rfl | exact OneC.sl (hX (by repeat constructor)) ) | exact OneAll.rd (hX (by repeat constructor)))) rfl (pB (by repeat constructor)) rfl (?_))
  refine o_nil ?_
  refine c_seq ?_
  refine c_region ?_
  refine o_val (v_move rfl) (dd rfl) ?_
  refine o_val (v_move rfl) (dd rfl) ?_
  refine o_val (v_nilCheck rfl) (dd rfl) ?_
  refine o_val (v_fieldAddrC 0 Tryz.underlying92 rfl ti25 (by decide) rfl) (dd rfl) ?_
  refine o_val (v_load lone25 rfl (hX (by repeat constructor)) rfl) (dd rfl) ?_
  refine o_val ((by first | exact v_len_form Tryz.underlying25 rfl | exact v_len_sl Tryz.underlying25 rfl (hX (by repeat constructor)))) (dd rfl) ?_
  refine o_step (s_callf cl17 (c5 v4) rfl (dd rfl) (pXs (by repeat constructor)) fun g5 _ => ?_)
  refine o_val (v_fieldAddrC 4 Tryz.underlying58 rfl ti28 (by decide) rfl) (dd rfl) ?_
  refine o_step (s_store1 ti28 rfl rfl (by first | exact OneC.lit rfl | exact OneC.sl (hX (by repeat constructor)) ) (pB (by repeat constructor)) (by first | decide | exact Nat.le_of_ble_eq_true rfl | simp) (by first | (dsimp only [List.set_cons_succ, List.set_cons_zero]; first | done | exact rfl) | rfl) (?_))
  refine o_nil ?_
  refine c_seq ?_
  refine c_region ?_
  refine o_val (v_move rfl) (dd rfl) ?_
  refine o_val (v_move rfl) (dd rfl) ?_
  refine o_val (v_nilCheck rfl) (dd rfl) ?_
  refine o_val (v_fieldAddrC 0 Tryz.underlying92 rfl ti25 (by decide) rfl) (dd rfl) ?_
  refine o_val (v_load lone25 rfl (hX (by repeat constructor)) rfl) (dd rfl) ?_
  refine o_val ((by first | exact v_len_form Tryz.underlying25 rfl | exact v_len_sl Tryz.underlying25 rfl (hX (by repeat constructor)))) (dd rfl) ?_
  refine o_step (s_callf cl17 (c6 g5.1) rfl (dd rfl) (pXs (by repeat constructor)) fun g6 _ => ?_)
  refine o_val (v_fieldAddrC 5 Tryz.underlying58 rfl ti28 (by decide) rfl) (dd rfl) ?_
  refine o_step (s_store1 ti28 rfl rfl (by first | exact OneC.lit rfl | exact OneC.sl (hX (by repeat constructor)) ) (pB (by repeat constructor)) (by first | decide | exact Nat.le_of_ble_eq_true rfl | simp) (by first | (dsimp only [List.set_cons_succ, List.set_cons_zero]; first | done | exact rfl) | rfl) (?_))
  refine o_nil ?_
  refine c_seq ?_
  refine c_region ?_
  refine o_val (v_load_all ⟨_, Tryz.underlying58⟩ ti58 rfl (hX (by repeat constructor)) rfl) (dd rfl) ?_
  refine o_step (s_store_all ti58 rfl rfl (by first | exact CellsV.lit rfl | exact CellsV.one (by first | exact OneC.lit rfl | exact OneC.sl (hX (by repeat constructor)) )) (by repeat (first | exact OneAll.nil | (refine OneAll.cons ?_ ?_; · first | exact OneC.lit rfl | exact OneC.sl (hX (by repeat constructor)) ) | exact OneAll.rd (hX (by repeat constructor)))) rfl (pB (by repeat constructor)) rfl (?_))
  refine o_nil ?_
  refine c_ret_cell Tryz.func71 rfl ⟨_, Tryz.underlying58⟩ ti58 rfl (hX (by repeat constructor)) fun w O hS => ?_
  exact ⟨(g6.1, g5.2, g6.2), rfl, trivial, Ent.get hS (eX (by repeat constructor))⟩
set_option maxRecDepth 100000 in
theorem wholePrim_con (i : Nat) (bv : Value) (s : St9) (hs : s.1.length ≤ big9) (te : TypeId) (pe : Value) : Con Tryz.prog 70 [ptr i, .func (.func 71) #[ptr i] #[], .func (.func 72) #[] #[]] [Blk i 92 [bv, .bool s.2], Sl eByte bv s.1, G1 te pe, G3] (γ := Value × Value × Value)
    (fun g => .agg #[.int .i64 (takePrim s).2.1, .string (takePrim s).2.2.1, .string (takePrim s).2.2.2.1, .int .i64 (takePrim s).2.2.2.2.1, g.2.1, g.2.2]) (fun _ => True)
    (fun g => [Blk i 92 [g.1, .bool (takePrim s).1.2], Sl eByte g.1 (takePrim s).1.1, Sl eStr g.2.1 (takePrim s).2.2.2.2.2.1, Sl eStr g.2.2 (takePrim s).2.2.2.2.2.2]) := by
  have h1 := inRaw_con i bv s te pe
  have hok := raw_ok hs
  unfold takePrim
  obtain ⟨s1, p, hp⟩ : ∃ s1 p, rawPrim s = (s1, p) := ⟨_, _, rfl⟩
  rw [hp] at h1 hok ⊢
  obtain ⟨k, n, t, a, o, w⟩ := p
  have h2 := fun ov wv => right_prim_con (k, n, t, a, o, w) ov wv hok
  dsimp only at h1 h2 ⊢
  refine con_of Tryz.func70 rfl (dd rfl) fun w0 O0 => ?_
  refine c_seq ?_
  refine c_region ?_
  refine o_step (s_alloc ti58 (dd rfl) (fun b6 => ?_))
  refine o_nil ?_
  refine c_seq ?_
  refine c_region ?_
  refine o_val (v_move rfl) (dd rfl) ?_
  refine o_val (v_nilCheck rfl) (dd rfl) ?_
  refine o_val (v_fieldAddrC 0 Tryz.underlying92 rfl ti25 (by decide) rfl) (dd rfl) ?_
  refine o_val (v_load lone25 rfl (hX (by repeat constructor)) rfl) (dd rfl) ?_
  refine o_val (v_assign rfl) (dd rfl) ?_
  refine o_nil ?_
  refine c_seq ?_
  refine c_region ?_
  refine o_val (v_move rfl) (dd rfl) ?_
  refine o_step (s_call cl71 (h1) (first := [ptr i]) (cap := []) rfl rfl (by rfl) (dd rfl) (pXs (by repeat constructor)) fun g _ => ?_)
  refine o_step (s_alloc ti58 (dd rfl) (fun b8 => ?_))
  refine o_step (s_store_all ti58 rfl rfl (by first | exact CellsV.lit rfl | exact CellsV.one (by first | exact OneC.lit rfl | exact OneC.sl (hX (by repeat constructor)) )) (by repeat (first | exact OneAll.nil | (refine OneAll.cons ?_ ?_; · first | exact OneC.lit rfl | exact OneC.sl (hX (by repeat constructor)) ) | exact OneAll.rd (hX (by repeat constructor)))) rfl (pB (by repeat constructor)) rfl (?_))
  refine o_nil ?_
  refine c_seq ?_
  refine c_seq ?_
  refine c_region ?_
  refine o_val (v_move rfl) (dd rfl) ?_
  refine o_val (v_nilCheck rfl) (dd rfl) ?_
  refine o_val (v_fieldAddrC 1 Tryz.underlying92 rfl ti4 (by decide) rfl) (dd rfl) ?_
  refine o_val (v_load lone4 rfl (hX (by repeat constructor)) rfl) (dd rfl) ?_
  refine o_val (v_not rfl) (dd rfl) ?_
  refine o_val (v_move rfl) (dd rfl) ?_
  refine o_guard rfl rfl (fun hb => ?_) (fun hb => ?_)
  · have hb2 : s1.2 = false := by simpa using hb
    refine o_val (v_move rfl) (dd rfl) ?_
    refine o_on rfl rfl ?_
    refine o_val (v_load_all ⟨_, Tryz.underlying58⟩ ti58 rfl (hX (by repeat constructor)) rfl) (dd rfl) ?_
    refine o_on rfl rfl ?_
    refine o_step (s_call_keep cl72 (h2 g.2.1 g.2.2) (first := []) (cap := []) rfl rfl rfl (dd rfl) (rX (by repeat constructor)) (fun _ => sX) (fun _ _ => ?_))
    refine o_val (v_pick_t rfl rfl) (dd rfl) ?_
    refine o_nil ?_
    refine c_cond rfl (fun hr => ?_) (fun hr => ?_)
    · rw [if_neg (by rintro (q | q); rw [hb2] at q; cases q; rw [hr] at q; cases q)]
      refine c_seq ?_
      refine c_region ?_
      refine o_val (v_load_all ⟨_, Tryz.underlying58⟩ ti58 rfl (hX (by repeat constructor)) rfl) (dd rfl) ?_
      refine o_step (s_store_all ti58 rfl rfl (by first | exact CellsV.lit rfl | exact CellsV.one (by first | exact OneC.lit rfl | exact OneC.sl (hX (by repeat constructor)) )) (by repeat (first | exact OneAll.nil | (refine OneAll.cons ?_ ?_; · first | exact OneC.lit rfl | exact OneC.sl (hX (by repeat constructor)) ) | exact OneAll.rd (hX (by repeat constructor)))) rfl (pB (by repeat constructor)) rfl (?_))
      refine o_nil ?_
      refine c_ret_cell Tryz.func70 rfl ⟨_, Tryz.underlying58⟩ ti58 rfl (hX (by repeat constructor)) fun w O hS => ?_
      exact ⟨g, rfl, trivial, Ent.get hS (eX (by repeat constructor))⟩
    · rw [if_pos (.inr hr)]
      refine c_skip ?_
      refine c_seq ?_
      refine c_region ?_
      refine o_step (s_alloc ti58 (dd rfl) (fun b9 => ?_))
      refine o_nil ?_
      refine c_seq ?_
      refine c_region ?_
      refine o_val (v_move rfl) (dd rfl) ?_
      refine o_val (v_move rfl) (dd rfl) ?_
      refine o_val (v_move rfl) (dd rfl) ?_
      refine o_val (v_nilCheck rfl) (dd rfl) ?_
      refine o_val (v_fieldAddrC 0 Tryz.underlying92 rfl ti25 (by decide) rfl) (dd rfl) ?_
      refine o_step (s_store1 ti25 rfl rfl (by first | exact OneC.lit rfl | exact OneC.sl (hX (by repeat constructor)) ) (pB (by repeat constructor)) (by first | decide | exact Nat.le_of_ble_eq_true rfl | simp) (by first | (dsimp only [List.set_cons_succ, List.set_cons_zero]; first | done | exact rfl) | rfl) (?_))
      refine o_val (v_nilCheck rfl) (dd rfl) ?_
      refine o_val (v_fieldAddrC 1 Tryz.underlying92 rfl ti4 (by decide) rfl) (dd rfl) ?_
      refine o_step (s_store1 ti4 rfl rfl (by first | exact OneC.lit rfl | exact OneC.sl (hX (by repeat constructor)) ) (pB (by repeat constructor)) (by first | decide | exact Nat.le_of_ble_eq_true rfl | simp) (by first | (dsimp only [List.set_cons_succ, List.set_cons_zero]; first | done | exact rfl) | rfl) (?_))
      refine o_nil ?_
      refine c_seq ?_
      refine c_region ?_
      refine o_val (v_load_all ⟨_, Tryz.underlying58⟩ ti58 rfl (hX (by repeat constructor)) rfl) (dd rfl) ?_
      refine o_step (s_store_all ti58 rfl rfl (by first | exact CellsV.lit rfl | exact CellsV.one (by first | exact OneC.lit rfl | exact OneC.sl (hX (by repeat constructor)) )) (by repeat (first | exact OneAll.nil | (refine OneAll.cons ?_ ?_; · first | exact OneC.lit rfl | exact OneC.sl (hX (by repeat constructor)) ) | exact OneAll.rd (hX (by repeat constructor)))) rfl (pB (by repeat constructor)) rfl (?_))
      refine o_nil ?_
      refine c_ret_cell Tryz.func70 rfl ⟨_, Tryz.underlying58⟩ ti58 rfl (hX (by repeat constructor)) fun w O hS => ?_
      exact ⟨(bv, .slice none 0 0, .slice none 0 0), rfl, trivial, Ent.get hS (eX (by repeat constructor))⟩
  · have hb2 : s1.2 = true := by simpa using hb
    rw [if_pos (.inl hb2)]
    refine o_off rfl rfl rfl (dd rfl) ?_
    refine o_off rfl rfl rfl (dd rfl) ?_
    refine o_off rfl rfl rfl (dd rfl) ?_
    refine o_val (v_pick_f rfl rfl) (dd rfl) ?_
    refine o_nil ?_
    refine c_cond_f rfl ?_
    refine c_skip ?_
    refine c_seq ?_
    refine c_region ?_
    refine o_step (s_alloc ti58 (dd rfl) (fun b9 => ?_))
    refine o_nil ?_
    refine c_seq ?_
    refine c_region ?_
    refine o_val (v_move rfl) (dd rfl) ?_
    refine o_val (v_move rfl) (dd rfl) ?_
    refine o_val (v_move rfl) (dd rfl) ?_
    refine o_val (v_nilCheck rfl) (dd rfl) ?_
    refine o_val (v_fieldAddrC 0 Tryz.underlying92 rfl ti25 (by decide) rfl) (dd rfl) ?_
    refine o_step (s_store1 ti25 rfl rfl (by first | exact OneC.lit rfl | exact OneC.sl (hX (by repeat constructor)) ) (pB (by repeat constructor)) (by first | decide | exact Nat.le_of_ble_eq_true rfl | simp) (by first | (dsimp only [List.set_cons_succ, List.set_cons_zero]; first | done | exact rfl) | rfl) (?_))
    refine o_val (v_nilCheck rfl) (dd rfl) ?_
    refine o_val (v_fieldAddrC 1 Tryz.underlying92 rfl ti4 (by decide) rfl) (dd rfl) ?_
    refine o_step (s_store1 ti4 rfl rfl (by first | exact OneC.lit rfl | exact OneC.sl (hX (by repeat constructor)) ) (pB (by repeat constructor)) (by first | decide | exact Nat.le_of_ble_eq_true rfl | simp) (by first | (dsimp only [List.set_cons_succ, List.set_cons_zero]; first | done | exact rfl) | rfl) (?_))
    refine o_nil ?_
    refine c_seq ?_
    refine c_region ?_
    refine o_val (v_load_all ⟨_, Tryz.underlying58⟩ ti58 rfl (hX (by repeat constructor)) rfl) (dd rfl) ?_
    refine o_step (s_store_all ti58 rfl rfl (by first | exact CellsV.lit rfl | exact CellsV.one (by first | exact OneC.lit rfl | exact OneC.sl (hX (by repeat constructor)) )) (by repeat (first | exact OneAll.nil | (refine OneAll.cons ?_ ?_; · first | exact OneC.lit rfl | exact OneC.sl (hX (by repeat constructor)) ) | exact OneAll.rd (hX (by repeat constructor)))) rfl (pB (by repeat constructor)) rfl (?_))
    refine o_nil ?_
    refine c_ret_cell Tryz.func70 rfl ⟨_, Tryz.underlying58⟩ ti58 rfl (hX (by repeat constructor)) fun w O hS => ?_
    exact ⟨(bv, .slice none 0 0, .slice none 0 0), rfl, trivial, Ent.get hS (eX (by repeat constructor))⟩
set_option maxRecDepth 100000 in
theorem inPrim_con (i : Nat) (bv : Value) (s : St9) (hs : s.1.length ≤ big9) (te : TypeId) (pe : Value) : Con Tryz.prog 25 [ptr i] [Blk i 92 [bv, .bool s.2], Sl eByte bv s.1, G1 te pe, G3] (γ := Value × Value × Value)
    (fun g => .agg #[.int .i64 (takePrim s).2.1, .string (takePrim s).2.2.1, .string (takePrim s).2.2.2.1, .int .i64 (takePrim s).2.2.2.2.1, g.2.1, g.2.2]) (fun _ => True)
    (fun g => [Blk i 92 [g.1, .bool (takePrim s).1.2], Sl eByte g.1 (takePrim s).1.1, Sl eStr g.2.1 (takePrim s).2.2.2.2.2.1, Sl eStr g.2.2 (takePrim s).2.2.2.2.2.2]) := by
  have h := wholePrim_con i bv s hs te pe
  refine con_of Tryz.func25 rfl (dd rfl) fun w0 O0 => ?_
  refine c_seq ?_
  refine c_region ?_
  refine o_step (s_alloc ti58 (dd rfl) (fun b2 => ?_))
  refine o_nil ?_
  refine c_seq ?_
  refine c_region ?_
  refine o_val (v_move rfl) (dd rfl) ?_
  refine o_val (v_move rfl) (dd rfl) ?_
  refine o_val (v_makeFunc rfl rfl) (dd rfl) ?_
  refine o_step (s_callf cl70 (h) rfl (dd rfl) (pXs (by repeat constructor)) fun g _ => ?_)
  refine o_step (s_store_all ti58 rfl rfl (by first | exact CellsV.lit rfl | exact CellsV.one (by first | exact OneC.lit rfl | exact OneC.sl (hX (by repeat constructor)) )) (by repeat (first | exact OneAll.nil | (refine OneAll.cons ?_ ?_; · first | exact OneC.lit rfl | exact OneC.sl (hX (by repeat constructor)) ) | exact OneAll.rd (hX (by repeat constructor)))) rfl (pB (by repeat constructor)) rfl (?_))
  refine o_nil ?_
  refine c_ret_cell Tryz.func25 rfl ⟨_, Tryz.underlying58⟩ ti58 rfl (hX (by repeat constructor)) fun w O hS => ?_
  exact ⟨g, rfl, trivial, Ent.get hS (eX (by repeat constructor))⟩
end Go.Proofs.YtmgkeippepeggaaGreatDoor
/- Chapter 09: the document's readers: changes. -/
namespace Go.Proofs.YtmgkeippepeggaaGreatDoor
open Go Go.SL Go.Lib
theorem texts_lim {s : St9} (h : s.1.length ≤ big9) : takeTexts 1000000 60 s = takeTexts s.1.length 60 s :=
  takeSome_most (fun _ _ _ e hb => takeText_less e hb) (by unfold big9 at h; omega) (Int.le_refl _)
attribute [local irreducible] Cfg Kont StepK Val Con Qops Any Sl Own Blk BlkR Rd Pu ExA AllA Has Pick Ent Elem Beside Callable TI Lone OwnO AndA
set_option maxRecDepth 100000 in
theorem takePrimRef_con (B : ByteArray) (s : St9) (hB : B.size ≤ big9) (h : EndsB B s) : Con Tryz.prog 63 [inS B s] [] (γ := Value × Value)
    (fun g => .tuple #[inS B (takePrim s).1, .agg #[.int .i64 (takePrim s).2.1, .string (takePrim s).2.2.1, .string (takePrim s).2.2.2.1, .int .i64 (takePrim s).2.2.2.2.1, g.1, g.2]]) (fun _ => True) (fun g => [Sl eStr g.1 (takePrim s).2.2.2.2.2.1, Sl eStr g.2 (takePrim s).2.2.2.2.2.2]) := by
  have hB' : B.size ≤ 4611686018427387904 := by unfold big9 at hB; omega
  have hlen : ∀ {s : St9}, EndsB B s → s.1.length ≤ big9 := fun h => by have := h.at.2.2; unfold big9 at *; omega
  have hok := raw_ok (hlen h)
  have hS := spoilRef_con B s
  have hR := fun ov wv => rightRef_con (rawPrim s).2 ov wv hok
  obtain ⟨s1, k, h1⟩ : ∃ s1 k, takeNum s = (s1, k) := ⟨_, _, rfl⟩
  have c1 := takeNumRef_con B s hB' h
  have e1 := h.goes goes_num
  rw [h1] at c1 e1
  obtain ⟨s2, n, h2⟩ : ∃ s2 n, takeText 24 s1 = (s2, n) := ⟨_, _, rfl⟩
  have c2 := takeTextRef_con B s1 24 hB' e1
  have e2 := e1.goes (goes_text 24)
  rw [h2] at c2 e2
  obtain ⟨s3, t, h3⟩ : ∃ s3 t, takeText 24 s2 = (s3, t) := ⟨_, _, rfl⟩
  have c3 := takeTextRef_con B s2 24 hB' e2
  have e3 := e2.goes (goes_text 24)
  rw [h3] at c3 e3
  obtain ⟨s4, a, h4⟩ : ∃ s4 a, takeNum s3 = (s4, a) := ⟨_, _, rfl⟩
  have c4 := takeNumRef_con B s3 hB' e3
  have e4 := e3.goes goes_num
  rw [h4] at c4 e4
  obtain ⟨s5, o, h5⟩ : ∃ s5 o, takeTexts s4.1.length 60 s4 = (s5, o) := ⟨_, _, rfl⟩
  have c5 := takeTextsRef_con B s4 1000000 60 hB' e4
  have e5 : EndsB B (takeTexts s4.1.length 60 s4).1 := e4.goes (goes_some (goes_text 60) _)
  rw [texts_lim (hlen e4), h5] at c5
  rw [h5] at e5
  obtain ⟨s6, w, h6⟩ : ∃ s6 w, takeTexts s5.1.length 60 s5 = (s6, w) := ⟨_, _, rfl⟩
  have c6 := takeTextsRef_con B s5 1000000 60 hB' e5
  rw [texts_lim (hlen e5), h6] at c6
  have hraw : rawPrim s = (s6, (k, n, t, a, o, w)) := by unfold rawPrim; simp only [h1, h2, h3, h4, h5, h6]
  rw [hraw] at hR
  unfold takePrim
  rw [hraw]
  dsimp only at c1 c2 c3 c4 c5 c6 hR ⊢
  unfold inS inV at *
  refine con_of Tryz.func63 rfl (dd rfl) fun w0 O0 => ?_
  refine c_seq ?_
  refine c_region ?_
  refine o_step (s_box rfl (dd rfl) (fun b1 => ?_))
  refine o_step (s_alloc ti48 (dd rfl) (fun b2 => ?_))
  refine o_step (s_alloc ti30 (dd rfl) (fun b3 => ?_))
  refine o_nil ?_
  refine c_seq ?_
  refine c_region ?_
  refine o_step (s_alloc ti30 (dd rfl) (fun b4 => ?_))
  refine o_nil ?_
  refine c_seq ?_
  refine c_region ?_
  refine o_val (v_load_all ⟨_, Tryz.underlying48⟩ ti48 rfl (hX (by repeat constructor)) rfl) (dd rfl) ?_
  refine o_step (s_callf cl59 (c1) rfl (dd rfl) (pXs (by repeat constructor)) fun _ _ => ?_)
  refine o_val (v_move rfl) (dd rfl) ?_
  refine o_val (v_extract rfl rfl) (dd rfl) ?_
  refine o_val (v_extract rfl rfl) (dd rfl) ?_
  refine o_step (s_alloc ti48 (dd rfl) (fun b5 => ?_))
  refine o_step (s_store_all ti48 rfl rfl (by first | exact CellsV.lit rfl | exact CellsV.one (by first | exact OneC.lit rfl | exact OneC.sl (hX (by repeat constructor)) )) (by repeat (first | exact OneAll.nil | (refine OneAll.cons ?_ ?_; · first | exact OneC.lit rfl | exact OneC.sl (hX (by repeat constructor)) ) | exact OneAll.rd (hX (by repeat constructor)))) rfl (pB (by repeat constructor)) rfl (?_))
  refine o_val (v_assign rfl) (dd rfl) ?_
  refine o_nil ?_
  refine c_seq ?_
  refine c_region ?_
  refine o_val (v_load_all ⟨_, Tryz.underlying48⟩ ti48 rfl (hX (by repeat constructor)) rfl) (dd rfl) ?_
  refine o_step (s_callf cl61 (c2) rfl (dd rfl) (pXs (by repeat constructor)) fun _ _ => ?_)
  refine o_val (v_move rfl) (dd rfl) ?_
  refine o_val (v_extract rfl rfl) (dd rfl) ?_
  refine o_val (v_extract rfl rfl) (dd rfl) ?_
  refine o_step (s_store_all ti48 rfl rfl (by first | exact CellsV.lit rfl | exact CellsV.one (by first | exact OneC.lit rfl | exact OneC.sl (hX (by repeat constructor)) )) (by repeat (first | exact OneAll.nil | (refine OneAll.cons ?_ ?_; · first | exact OneC.lit rfl | exact OneC.sl (hX (by repeat constructor)) ) | exact OneAll.rd (hX (by repeat constructor)))) rfl (pB (by repeat constructor)) rfl (?_))
  refine o_val (v_assign rfl) (dd rfl) ?_
  refine o_nil ?_
  refine c_seq ?_
  refine c_region ?_
  refine o_val (v_load_all ⟨_, Tryz.underlying48⟩ ti48 rfl (hX (by repeat constructor)) rfl) (dd rfl) ?_
  refine o_step (s_callf cl61 (c3) rfl (dd rfl) (pXs (by repeat constructor)) fun _ _ => ?_)
  refine o_val (v_move rfl) (dd rfl) ?_
  refine o_val (v_extract rfl rfl) (dd rfl) ?_
  refine o_val (v_extract rfl rfl) (dd rfl) ?_
  refine o_step (s_store_all ti48 rfl rfl (by first | exact CellsV.lit rfl | exact CellsV.one (by first | exact OneC.lit rfl | exact OneC.sl (hX (by repeat constructor)) )) (by repeat (first | exact OneAll.nil | (refine OneAll.cons ?_ ?_; · first | exact OneC.lit rfl | exact OneC.sl (hX (by repeat constructor)) ) | exact OneAll.rd (hX (by repeat constructor)))) rfl (pB (by repeat constructor)) rfl (?_))
  refine o_val (v_assign rfl) (dd rfl) ?_
  refine o_nil ?_
  refine c_seq ?_
  refine c_region ?_
  refine o_val (v_load_all ⟨_, Tryz.underlying48⟩ ti48 rfl (hX (by repeat constructor)) rfl) (dd rfl) ?_
  refine o_step (s_callf cl59 (c4) rfl (dd rfl) (pXs (by repeat constructor)) fun _ _ => ?_)
  refine o_val (v_move rfl) (dd rfl) ?_
  refine o_val (v_extract rfl rfl) (dd rfl) ?_
  refine o_val (v_extract rfl rfl) (dd rfl) ?_
  refine o_step (s_store_all ti48 rfl rfl (by first | exact CellsV.lit rfl | exact CellsV.one (by first | exact OneC.lit rfl | exact OneC.sl (hX (by repeat constructor)) )) (by repeat (first | exact OneAll.nil | (refine OneAll.cons ?_ ?_; · first | exact OneC.lit rfl | exact OneC.sl (hX (by repeat constructor)) ) | exact OneAll.rd (hX (by repeat constructor)))) rfl (pB (by repeat constructor)) rfl (?_))
  refine o_val (v_assign rfl) (dd rfl) ?_
  refine o_nil ?_
  refine c_seq ?_
  refine c_region ?_
  refine o_val (v_load_all ⟨_, Tryz.underlying48⟩ ti48 rfl (hX (by repeat constructor)) rfl) (dd rfl) ?_
  refine o_step (s_callf cl62 (c5) rfl (dd rfl) (pXs (by repeat constructor)) fun g5 _ => ?_)
  refine o_val (v_move rfl) (dd rfl) ?_
  refine o_val (v_extract rfl rfl) (dd rfl) ?_
  refine o_val (v_extract rfl rfl) (dd rfl) ?_
  refine o_step (s_store_all ti48 rfl rfl (by first | exact CellsV.lit rfl | exact CellsV.one (by first | exact OneC.lit rfl | exact OneC.sl (hX (by repeat constructor)) )) (by repeat (first | exact OneAll.nil | (refine OneAll.cons ?_ ?_; · first | exact OneC.lit rfl | exact OneC.sl (hX (by repeat constructor)) ) | exact OneAll.rd (hX (by repeat constructor)))) rfl (pB (by repeat constructor)) rfl (?_))
  refine o_val (v_assign rfl) (dd rfl) ?_
  refine o_nil ?_
  refine c_seq ?_
  refine c_region ?_
  refine o_val (v_load_all ⟨_, Tryz.underlying48⟩ ti48 rfl (hX (by repeat constructor)) rfl) (dd rfl) ?_
  refine o_step (s_callf cl62 (c6) rfl (dd rfl) (pXs (by repeat constructor)) fun g6 _ => ?_)
  refine o_val (v_move rfl) (dd rfl) ?_
  refine o_val (v_extract rfl rfl) (dd rfl) ?_
  refine o_val (v_extract rfl rfl) (dd rfl) ?_
  refine o_step (s_store_all ti48 rfl rfl (by first | exact CellsV.lit rfl | exact CellsV.one (by first | exact OneC.lit rfl | exact OneC.sl (hX (by repeat constructor)) )) (by repeat (first | exact OneAll.nil | (refine OneAll.cons ?_ ?_; · first | exact OneC.lit rfl | exact OneC.sl (hX (by repeat constructor)) ) | exact OneAll.rd (hX (by repeat constructor)))) rfl (pB (by repeat constructor)) rfl (?_))
  refine o_val (v_assign rfl) (dd rfl) ?_
  refine o_nil ?_
  refine c_seq ?_
  refine c_region ?_
  refine o_val (v_move rfl) (dd rfl) ?_
  refine o_val (v_move rfl) (dd rfl) ?_
  refine o_val (v_move rfl) (dd rfl) ?_
  refine o_val (v_move rfl) (dd rfl) ?_
  refine o_val (v_move rfl) (dd rfl) ?_
  refine o_val (v_move rfl) (dd rfl) ?_
  refine o_val (v_buildS (places := [(0, 1), (1, 1), (2, 1), (3, 1), (4, 1), (5, 1)]) (cells := [_, _, _, _, _, _]) Tryz.underlying30 ti30 (by kernel_rfl) rfl (by repeat (first | exact PartsC.nil | (apply PartsC.one (by first | exact OneC.lit rfl | exact OneC.sl (hX (by repeat constructor)) )) | (apply PartsC.lit rfl))) rfl) (dd rfl) ?_
  refine o_step (s_store_all ti30 rfl rfl (by first | exact CellsV.lit rfl | exact CellsV.one (by first | exact OneC.lit rfl | exact OneC.sl (hX (by repeat constructor)) )) (by repeat (first | exact OneAll.nil | (refine OneAll.cons ?_ ?_; · first | exact OneC.lit rfl | exact OneC.sl (hX (by repeat constructor)) ) | exact OneAll.rd (hX (by repeat constructor)))) rfl (pB (by repeat constructor)) rfl (?_))
  refine o_nil ?_
  refine c_seq ?_
  refine c_seq ?_
  refine c_env (env' := [(1, _), (2, _), (3, _), (4, _), (5, _)]) (by repeat (first | exact trivial | refine ⟨rfl, ?_⟩)) ?_
  refine c_joinb (d := 55) (decide (s6.2 = true ∨ rightP (k, n, t, a, o, w) = false)) ?_ ?_
  rotate_left
  · intro J
    refine c_region ?_
    refine o_val (v_fieldAddrC 2 Tryz.underlying48 rfl ti4 (by decide) rfl) (dd rfl) ?_
    refine o_val (v_load lone4 rfl (hX (by repeat constructor)) rfl) (dd rfl) ?_
    refine o_val (v_move rfl) (dd rfl) ?_
    first | refine o_guard_f rfl rfl (fun g51 => ?_) (fun g51 => ?_) | refine o_guard rfl rfl (fun g51 => ?_) (fun g51 => ?_)
    · refine o_val (v_load_all ⟨_, Tryz.underlying30⟩ ti30 rfl (hX (by repeat constructor)) rfl) (dd rfl) ?_
      refine o_on rfl rfl ?_
      refine o_step (s_callf_keep cl21 (hR g5 g6) rfl (dd rfl) (rX (by repeat constructor)) (fun _ => sX) (fun _ _ => ?_))
      refine o_on rfl rfl ?_
      refine o_val (v_not rfl) (dd rfl) ?_
      refine o_val (v_pick_f rfl rfl) (dd rfl) ?_
      refine o_nil ?_
      exact c_use J ⟨Env.as rfl (congrArg Value.bool (by first | rfl | (simp_all; done) | (simp_all; omega) | (simp; omega))), (by repeat (first | exact trivial | refine ⟨rfl, ?_⟩))⟩ (by first | exact Ent.refl _ | exact eX (by repeat constructor))
    · refine o_off rfl rfl rfl (dd rfl) ?_
      refine o_off rfl rfl rfl (dd rfl) ?_
      refine o_off rfl rfl rfl (dd rfl) ?_
      refine o_val (v_pick_t rfl rfl) (dd rfl) ?_
      refine o_nil ?_
      exact c_use J ⟨Env.as rfl (congrArg Value.bool (by first | rfl | (simp_all; done) | (simp_all; omega) | (simp; omega))), (by repeat (first | exact trivial | refine ⟨rfl, ?_⟩))⟩ (by first | exact Ent.refl _ | exact eX (by repeat constructor))
  refine c_cond_p rfl (fun hq => ?_) (fun hq => ?_)
  · rw [if_pos hq]
    refine c_seq ?_
    refine c_region ?_
    refine o_val (v_load_all ⟨_, Tryz.underlying48⟩ ti48 rfl (hX (by repeat constructor)) rfl) (dd rfl) ?_
    refine o_step (s_callf cl92 (hS) rfl (dd rfl) (pXs (by repeat constructor)) fun _ _ => ?_)
    refine o_val (v_buildS (places := [(0, 1), (1, 1), (2, 1), (3, 1), (4, 1), (5, 1)]) (cells := [.int .i64 0, .string ⟨#[]⟩, .string ⟨#[]⟩, .int .i64 0, .slice none 0 0, .slice none 0 0]) Tryz.underlying30 ti30 (by kernel_rfl) rfl (by repeat (first | exact PartsC.nil | (apply PartsC.one (by first | exact OneC.lit rfl | exact OneC.sl (hX (by repeat constructor)) )) | (apply PartsC.lit rfl))) rfl) (dd rfl) ?_
    refine o_step (s_store_all ti48 rfl rfl (by first | exact CellsV.lit rfl | exact CellsV.one (by first | exact OneC.lit rfl | exact OneC.sl (hX (by repeat constructor)) )) (by repeat (first | exact OneAll.nil | (refine OneAll.cons ?_ ?_; · first | exact OneC.lit rfl | exact OneC.sl (hX (by repeat constructor)) ) | exact OneAll.rd (hX (by repeat constructor)))) rfl (pB (by repeat constructor)) rfl (?_))
    refine o_step (s_store_all ti30 rfl rfl (by first | exact CellsV.lit rfl | exact CellsV.one (by first | exact OneC.lit rfl | exact OneC.sl (hX (by repeat constructor)) )) (by repeat (first | exact OneAll.nil | (refine OneAll.cons ?_ ?_; · first | exact OneC.lit rfl | exact OneC.sl (hX (by repeat constructor)) ) | exact OneAll.rd (hX (by repeat constructor)))) rfl (pB (by repeat constructor)) rfl (?_))
    refine o_nil ?_
    refine c_ret_cc Tryz.func63 rfl ⟨_, Tryz.underlying48⟩ ti48 ⟨_, Tryz.underlying30⟩ ti30 rfl rfl (hX (by repeat constructor)) (hX (by repeat constructor)) fun w O hS => ?_
    exact ⟨(.slice none 0 0, .slice none 0 0), rfl, trivial, Ent.get hS (eX (by repeat constructor))⟩
  · rw [if_neg hq]
    refine c_skip ?_
    refine c_seq ?_
    refine c_held [BlkR b5 48 [.string B, .int .i64 (plc B s6), .bool s6.2], BlkR b4 30 [.int .i64 k, .string n, .string t, .int .i64 a, g5, g6]] rfl ?_
    refine a_take 0 rfl (by kernel_rfl) (by kernel_rfl) (by kernel_rfl) (v_load_all ⟨_, Tryz.underlying48⟩ ti48 rfl (hX (by repeat constructor)) rfl) (eX (by repeat constructor)) (dd rfl) ?_
    refine a_take 1 rfl (by kernel_rfl) (by kernel_rfl) (by kernel_rfl) (v_load_all ⟨_, Tryz.underlying30⟩ ti30 rfl (hX (by repeat constructor)) rfl) (eX (by repeat constructor)) (dd rfl) ?_
    refine a_one 2 rfl (by kernel_rfl) (s_store_all ti48 rfl rfl (by first | exact CellsV.lit rfl | exact CellsV.one (by first | exact OneC.lit rfl | exact OneC.sl (hX (by repeat constructor)) )) (by repeat (first | exact OneAll.nil | (refine OneAll.cons ?_ ?_; · first | exact OneC.lit rfl | exact OneC.sl (hX (by repeat constructor)) ) | exact OneAll.rd (hX (by repeat constructor)))) rfl (pB (by repeat constructor)) rfl (a_on (eX (by repeat constructor)) ?_))
    refine a_one 3 rfl (by kernel_rfl) (s_store_all ti30 rfl rfl (by first | exact CellsV.lit rfl | exact CellsV.one (by first | exact OneC.lit rfl | exact OneC.sl (hX (by repeat constructor)) )) (by repeat (first | exact OneAll.nil | (refine OneAll.cons ?_ ?_; · first | exact OneC.lit rfl | exact OneC.sl (hX (by repeat constructor)) ) | exact OneAll.rd (hX (by repeat constructor)))) rfl (pB (by repeat constructor)) rfl (a_on (eX (by repeat constructor)) ?_))
    refine a_done (by kernel_rfl) ?_ _
    refine c_ret_cc Tryz.func63 rfl ⟨_, Tryz.underlying48⟩ ti48 ⟨_, Tryz.underlying30⟩ ti30 rfl rfl (hX (by repeat constructor)) (hX (by repeat constructor)) fun w O hS => ?_
    exact ⟨(g5, g6), rfl, trivial, Ent.get hS (eX (by repeat constructor))⟩
end Go.Proofs.YtmgkeippepeggaaGreatDoor
/- Chapter 09: the document's readers: rows of changes, and patches. -/
namespace Go.Proofs.YtmgkeippepeggaaGreatDoor
open Go Go.SL Go.Lib
theorem pr_close {z : Pr9} {ov wv : Value} (w : World) (O : Perm) (h : Stars [Sl eStr ov z.2.2.2.2.1, Sl eStr wv z.2.2.2.2.2] w O) : ePr.rd w O [.int .i64 z.1, .string z.2.1, .string z.2.2.1, .int .i64 z.2.2.2.1, ov, wv] z := by
  obtain ⟨O1, O2, s1, h1, O3, O4, s2, h2, _⟩ := h
  refine ⟨[.int .i64 z.1], _, rfl, rfl, [.string z.2.1], _, rfl, rfl, [.string z.2.2.1], _, rfl, rfl, [.int .i64 z.2.2.2.1], _, rfl, rfl, [ov], [wv], rfl, ⟨ov, rfl, h1.mono fun b => s1.l b⟩, wv, rfl, h2.mono fun b => Nat.le_trans (s2.l b) (s1.r b)⟩
theorem less_prim : ∀ s s' x, takePrim s = (s', x) → s'.2 = false → s'.1.length < s.1.length := fun _ _ _ e hb => takePrim_less e hb
attribute [local irreducible] Cfg Kont StepK Val Con Qops Any Sl Own Blk BlkR Rd Pu ExA AllA Has Pick Ent Elem Beside Callable TI Lone OwnO AndA
set_option maxRecDepth 100000 in
theorem takePrimsRef_con (B : ByteArray) (s : St9) (most : Int) (hB : B.size ≤ big9) (h : EndsB B s) : Con Tryz.prog 64 [inS B s, .int .i64 most] [] (γ := Value)
    (fun g => .tuple #[inS B (takePrims most s).1, g]) (fun _ => True) (fun g => [Sl ePr g (takePrims most s).2]) := by
  have hB' : B.size ≤ 4611686018427387904 := by unfold big9 at hB; omega
  have hgn := h.goes goes_num
  have hfar := num_far (s := s)
  have hN := takeNumRef_con B s hB' h
  have hS := spoilRef_con B s
  obtain ⟨n, hn⟩ : ∃ n, n = (takeNum s).2 := ⟨_, rfl⟩
  obtain ⟨s1, hs1⟩ : ∃ s1, s1 = (takeNum s).1 := ⟨_, rfl⟩
  rw [← hn, ← hs1] at hN
  rw [← hn] at hfar
  rw [← hs1] at hgn
  unfold far9 at hfar
  unfold takePrims takeSome
  rw [← hn, ← hs1]
  unfold inS inV at *
  refine con_of Tryz.func64 rfl (dd rfl) fun w0 O0 => ?_
  refine c_seq ?_
  refine c_region ?_
  refine o_step (s_box rfl (dd rfl) (fun b2 => ?_))
  refine o_step (s_alloc ti48 (dd rfl) (fun b4 => ?_))
  refine o_val (v_assign rfl) (dd rfl) ?_
  refine o_nil ?_
  refine c_seq ?_
  refine c_region ?_
  refine o_val (v_load_all ⟨_, Tryz.underlying48⟩ ti48 rfl (hX (by repeat constructor)) rfl) (dd rfl) ?_
  refine o_step (s_callf cl59 (hN) rfl (dd rfl) (pXs (by repeat constructor)) fun _ _ => ?_)
  refine o_val (v_move rfl) (dd rfl) ?_
  refine o_val (v_extract rfl rfl) (dd rfl) ?_
  refine o_val (v_extract rfl rfl) (dd rfl) ?_
  refine o_step (s_alloc ti48 (dd rfl) (fun b6 => ?_))
  refine o_step (s_store_all ti48 rfl rfl (by first | exact CellsV.lit rfl | exact CellsV.one (by first | exact OneC.lit rfl | exact OneC.sl (hX (by repeat constructor)) )) (by repeat (first | exact OneAll.nil | (refine OneAll.cons ?_ ?_; · first | exact OneC.lit rfl | exact OneC.sl (hX (by repeat constructor)) ) | exact OneAll.rd (hX (by repeat constructor)))) rfl (pB (by repeat constructor)) rfl (?_))
  refine o_val (v_assign rfl) (dd rfl) ?_
  refine o_nil ?_
  refine c_seq ?_
  refine c_seq ?_
  refine c_env (env' := [(1, _), (2, _), (4, _), (5, _), (6, _), (7, _)]) (by repeat (first | exact trivial | refine ⟨rfl, ?_⟩)) ?_
  refine c_joinb (d := 27) (decide (s1.2 = true ∨ n < 0 ∨ most < n)) ?_ ?_
  rotate_left
  · intro J
    refine c_region ?_
    refine o_val (v_fieldAddrC 2 Tryz.underlying48 rfl ti4 (by decide) rfl) (dd rfl) ?_
    refine o_val (v_load lone4 rfl (hX (by repeat constructor)) rfl) (dd rfl) ?_
    refine o_val (v_move rfl) (dd rfl) ?_
    first | refine o_guard_f rfl rfl (fun g19 => ?_) (fun g19 => ?_) | refine o_guard rfl rfl (fun g19 => ?_) (fun g19 => ?_)
    · refine o_val (v_move rfl) (dd rfl) ?_
      refine o_on rfl rfl ?_
      refine o_val (v_lt rfl rfl) (dd rfl) ?_
      refine o_val (v_pick_f rfl rfl) (dd rfl) ?_
      refine o_val (v_move rfl) (dd rfl) ?_
      first | refine o_guard_f rfl rfl (fun g23 => ?_) (fun g23 => ?_) | refine o_guard rfl rfl (fun g23 => ?_) (fun g23 => ?_)
      · refine o_val (v_move rfl) (dd rfl) ?_
        refine o_on rfl rfl ?_
        refine o_val (v_move rfl) (dd rfl) ?_
        refine o_on rfl rfl ?_
        refine o_val (v_gt rfl rfl) (dd rfl) ?_
        refine o_val (v_pick_f rfl rfl) (dd rfl) ?_
        refine o_nil ?_
        exact c_use J ⟨Env.as rfl (congrArg Value.bool (by first | rfl | (simp_all; done) | (simp_all; omega) | (simp; omega))), (by repeat (first | exact trivial | refine ⟨rfl, ?_⟩))⟩ (by first | exact Ent.refl _ | exact eX (by repeat constructor))
      · refine o_off rfl rfl rfl (dd rfl) ?_
        refine o_off rfl rfl rfl (dd rfl) ?_
        refine o_off rfl rfl rfl (dd rfl) ?_
        refine o_val (v_pick_t rfl rfl) (dd rfl) ?_
        refine o_nil ?_
        exact c_use J ⟨Env.as rfl (congrArg Value.bool (by first | rfl | (simp_all; done) | (simp_all; omega) | (simp; omega))), (by repeat (first | exact trivial | refine ⟨rfl, ?_⟩))⟩ (by first | exact Ent.refl _ | exact eX (by repeat constructor))
    · refine o_off rfl rfl rfl (dd rfl) ?_
      refine o_off rfl rfl rfl (dd rfl) ?_
      refine o_val (v_pick_t rfl rfl) (dd rfl) ?_
      refine o_val (v_move rfl) (dd rfl) ?_
      refine o_off rfl rfl rfl (dd rfl) ?_
      refine o_off rfl rfl rfl (dd rfl) ?_
      refine o_off rfl rfl rfl (dd rfl) ?_
      refine o_val (v_pick_t rfl rfl) (dd rfl) ?_
      refine o_nil ?_
      exact c_use J ⟨Env.as rfl (congrArg Value.bool (by first | rfl | (simp_all; done) | (simp_all; omega) | (simp; omega))), (by repeat (first | exact trivial | refine ⟨rfl, ?_⟩))⟩ (by first | exact Ent.refl _ | exact eX (by repeat constructor))
  refine c_cond_p rfl (fun hq => ?_) (fun hq => ?_)
  · rw [if_pos hq]
    refine c_seq ?_
    refine c_region ?_
    refine o_val (v_load_all ⟨_, Tryz.underlying48⟩ ti48 rfl (hX (by repeat constructor)) rfl) (dd rfl) ?_
    refine o_step (s_callf cl92 (hS) rfl (dd rfl) (pXs (by repeat constructor)) fun _ _ => ?_)
    refine o_step (s_store_all ti48 rfl rfl (by first | exact CellsV.lit rfl | exact CellsV.one (by first | exact OneC.lit rfl | exact OneC.sl (hX (by repeat constructor)) )) (by repeat (first | exact OneAll.nil | (refine OneAll.cons ?_ ?_; · first | exact OneC.lit rfl | exact OneC.sl (hX (by repeat constructor)) ) | exact OneAll.rd (hX (by repeat constructor)))) rfl (pB (by repeat constructor)) rfl (?_))
    refine o_val (v_assign rfl) (dd rfl) ?_
    refine o_nil ?_
    refine c_ret_ct Tryz.func64 rfl ⟨_, Tryz.underlying48⟩ ti48 rfl rfl (hX (by repeat constructor)) fun w O hS => ?_
    exact ⟨.slice none 0 0, rfl, trivial, Ent.get hS (eX (by repeat constructor))⟩
  · rw [if_neg hq]
    have hb1 : s1.2 = false := by cases e : s1.2 with | false => rfl | true => exact absurd (.inl e) hq
    refine c_skip ?_
    refine c_seq ?_
    refine c_region ?_
    refine o_val (v_assign rfl) (dd rfl) ?_
    refine o_nil ?_
    refine c_seq ?_
    refine c_seq ?_
    refine c_region ?_
    refine o_val (v_assign rfl) (dd rfl) ?_
    refine o_nil ?_
    refine c_block ?_
    refine c_loopR (γ := Nat × St9 × List Pr9 × Value) [(2, _), (4, _), (5, _), (6, _), (7, _)] (fun g => n.toNat - g.1) (fun g => g.1 ≤ n.toNat ∧ g.2.1.2 = false ∧ EndsB B g.2.1 ∧ g.2.2.1.length = g.1 ∧ takeMany takePrim (n.toNat - g.1) g.2.1 g.2.2.1 = takeMany takePrim n.toNat s1 []) (fun g => [(9, .int .i64 g.1), (8, g.2.2.2)]) (fun g => [Blk b2 48 [.string B, .int .i64 (plc B s), .bool s.2], Blk b4 48 [.string ⟨#[]⟩, .int .i64 0, .bool false], Blk b6 48 [.string B, .int .i64 (plc B g.2.1), .bool g.2.1.2], Own ePr 30 g.2.2.2 g.2.2.1]) ((0, s1, [], .slice none 0 0)) (⟨Nat.zero_le _, hb1, hgn, rfl, rfl⟩) (by repeat (first | exact trivial | refine ⟨rfl, ?_⟩)) (eX (by repeat constructor)) ?_
    rintro ⟨k, sk, out, v⟩ ⟨hk, hbk, hEk, hlk, hTk⟩ IH
    dsimp only at hk hbk hEk hlk hTk ⊢
    have hTT := takePrimRef_con B sk hB hEk
    unfold inS inV at hTT
    try dsimp only [List.cons_append, List.nil_append]
    refine c_seq ?_
    refine c_seq ?_
    refine c_region ?_
    refine o_val (v_move rfl) (dd rfl) ?_
    refine o_val (v_move rfl) (dd rfl) ?_
    refine o_val (v_lt rfl rfl) (dd rfl) ?_
    refine o_nil ?_
    refine c_cond_p rfl (fun hlt => ?_) (fun hlt => ?_)
    · have hkn : k < n.toNat := by omega
      have hst := takeMany_step takePrim (out := out) hkn hbk
      refine c_skip ?_
      refine c_seq ?_
      refine c_block ?_
      refine c_seq ?_
      refine c_region ?_
      refine o_val (v_load_all ⟨_, Tryz.underlying48⟩ ti48 rfl (hX (by repeat constructor)) rfl) (dd rfl) ?_
      refine o_step (s_callf cl63 (hTT) rfl (dd rfl) (pXs (by repeat constructor)) fun g _ => ?_)
      refine o_val (v_move rfl) (dd rfl) ?_
      refine o_val (v_extract rfl rfl) (dd rfl) ?_
      refine o_val (v_extract rfl rfl) (dd rfl) ?_
      refine o_step (s_alloc ti48 (dd rfl) (fun b10 => ?_))
      refine o_step (s_alloc ti30 (dd rfl) (fun b11 => ?_))
      refine o_step (s_store_all ti48 rfl rfl (by first | exact CellsV.lit rfl | exact CellsV.one (by first | exact OneC.lit rfl | exact OneC.sl (hX (by repeat constructor)) )) (by repeat (first | exact OneAll.nil | (refine OneAll.cons ?_ ?_; · first | exact OneC.lit rfl | exact OneC.sl (hX (by repeat constructor)) ) | exact OneAll.rd (hX (by repeat constructor)))) rfl (pB (by repeat constructor)) rfl (?_))
      refine o_step (s_store_all ti30 rfl rfl (by first | exact CellsV.lit rfl | exact CellsV.one (by first | exact OneC.lit rfl | exact OneC.sl (hX (by repeat constructor)) )) (by repeat (first | exact OneAll.nil | (refine OneAll.cons ?_ ?_; · first | exact OneC.lit rfl | exact OneC.sl (hX (by repeat constructor)) ) | exact OneAll.rd (hX (by repeat constructor)))) rfl (pB (by repeat constructor)) rfl (?_))
      refine o_nil ?_
      refine c_seq ?_
      refine c_seq ?_
      refine c_region ?_
      refine o_val (v_fieldAddrC 2 Tryz.underlying48 rfl ti4 (by decide) rfl) (dd rfl) ?_
      refine o_val (v_load lone4 rfl (hX (by repeat constructor)) rfl) (dd rfl) ?_
      refine o_nil ?_
      refine c_cond rfl (fun hb => ?_) (fun hb => ?_)
      · have hbad := takeMany_bad takePrim (n.toNat - (k + 1)) (takePrim sk).1 (out ++ [(takePrim sk).2]) hb
        refine c_seq ?_
        refine c_region ?_
        refine o_val (v_load_all ⟨_, Tryz.underlying48⟩ ti48 rfl (hX (by repeat constructor)) rfl) (dd rfl) ?_
        refine o_step (s_callf cl92 (hS) rfl (dd rfl) (pXs (by repeat constructor)) fun _ _ => ?_)
        refine o_step (s_store_all ti48 rfl rfl (by first | exact CellsV.lit rfl | exact CellsV.one (by first | exact OneC.lit rfl | exact OneC.sl (hX (by repeat constructor)) )) (by repeat (first | exact OneAll.nil | (refine OneAll.cons ?_ ?_; · first | exact OneC.lit rfl | exact OneC.sl (hX (by repeat constructor)) ) | exact OneAll.rd (hX (by repeat constructor)))) rfl (pB (by repeat constructor)) rfl (?_))
        refine o_val (v_assign rfl) (dd rfl) ?_
        refine o_nil ?_
        refine c_ret_ct Tryz.func64 rfl ⟨_, Tryz.underlying48⟩ ti48 rfl rfl (hX (by repeat constructor)) fun w O hS => ?_
        exact ⟨.slice none 0 0, by rw [← hTk, hst, hbad, if_pos hb]; rfl, trivial, by rw [← hTk, hst, hbad, if_pos hb]; exact Ent.get hS (eX (by repeat constructor))⟩
      · refine c_skip ?_
        refine c_seq ?_
        refine c_region ?_
        refine o_val (v_load_all ⟨_, Tryz.underlying48⟩ ti48 rfl (hX (by repeat constructor)) rfl) (dd rfl) ?_
        refine o_step (s_store_all ti48 rfl rfl (by first | exact CellsV.lit rfl | exact CellsV.one (by first | exact OneC.lit rfl | exact OneC.sl (hX (by repeat constructor)) )) (by repeat (first | exact OneAll.nil | (refine OneAll.cons ?_ ?_; · first | exact OneC.lit rfl | exact OneC.sl (hX (by repeat constructor)) ) | exact OneAll.rd (hX (by repeat constructor)))) rfl (pB (by repeat constructor)) rfl (?_))
        refine o_nil ?_
        refine c_region ?_
        refine o_val (v_move rfl) (dd rfl) ?_
        refine o_val (v_load_all ⟨_, Tryz.underlying30⟩ ti30 rfl (hX (by repeat constructor)) rfl) (dd rfl) ?_
        refine o_step (s_buildSlice Tryz.underlying31 ti30 rfl rfl rfl (by decide) (by decide) (beside_agg1 (beside_of (Lp := [Sl eStr g.1 (takePrim sk).2.2.2.2.2.1, Sl eStr g.2 (takePrim sk).2.2.2.2.2.2]) (pXs (by repeat constructor)) fun w O => pr_close (z := (takePrim sk).2) w O)) rfl rfl (dd rfl) fun v1 => ?_)
        refine o_step (s_append Tryz.underlying31 ti30 rfl (by decide) rfl rfl (dd rfl) (pB (by repeat constructor)) (pX (by repeat constructor)) rfl (by (first | omega | (simp only [maxLen, List.length_append, List.length_drop, List.length_take, List.length_nil, List.length_cons]; omega))) (by (first | omega | (simp only [maxLen, List.length_append, List.length_drop, List.length_take, List.length_nil, List.length_cons]; omega))) fun v2 => ?_)
        refine o_val (v_assign rfl) (dd rfl) ?_
        refine o_nil ?_
        refine c_inBlock ?_
        refine c_region ?_
        refine o_val (v_move rfl) (dd rfl) ?_
        refine o_val ((by first | exact v_add64 rfl rfl (by omega) | exact v_add rfl rfl)) (dd rfl) ?_
        refine o_val (v_assign rfl) (dd rfl) ?_
        refine o_nil ?_
        refine c_use (IH ((k + 1, (takePrim sk).1, out ++ [(takePrim sk).2], v2)) (by first | omega | (dsimp only; omega)) (⟨by dsimp only; omega, hb, hEk.goes goes_prim, by simp [hlk], hst.symm.trans hTk⟩)) (by repeat (first | exact trivial | refine ⟨rfl, ?_⟩)) (eX (by repeat constructor))
    · have hend := takeMany_end takePrim (n := n.toNat) (k := k) (s := sk) (out := out) (by omega)
      refine c_exit rfl ?_
      refine c_seq ?_
      refine c_region ?_
      refine o_val (v_load_all ⟨_, Tryz.underlying48⟩ ti48 rfl (hX (by repeat constructor)) rfl) (dd rfl) ?_
      refine o_val (v_move rfl) (dd rfl) ?_
      refine o_step (s_store_all ti48 rfl rfl (by first | exact CellsV.lit rfl | exact CellsV.one (by first | exact OneC.lit rfl | exact OneC.sl (hX (by repeat constructor)) )) (by repeat (first | exact OneAll.nil | (refine OneAll.cons ?_ ?_; · first | exact OneC.lit rfl | exact OneC.sl (hX (by repeat constructor)) ) | exact OneAll.rd (hX (by repeat constructor)))) rfl (pB (by repeat constructor)) rfl (?_))
      refine o_val (v_assign rfl) (dd rfl) ?_
      refine o_nil ?_
      refine c_ret_ct Tryz.func64 rfl ⟨_, Tryz.underlying48⟩ ti48 rfl rfl (hX (by repeat constructor)) fun w O hS => ?_
      exact ⟨v, by rw [← hTk, hend, if_neg (by rw [hbk]; decide)]; rfl, trivial, by rw [← hTk, hend, if_neg (by rw [hbk]; decide)]; exact Ent.get hS (eX (by repeat constructor))⟩
end Go.Proofs.YtmgkeippepeggaaGreatDoor
/- Chapter 09: the program's reader: changes. -/
namespace Go.Proofs.YtmgkeippepeggaaGreatDoor
open Go Go.SL Go.Lib
attribute [local irreducible] Cfg Kont StepK Val Con Qops Any Sl Own Blk BlkR Rd Pu ExA AllA Has Pick Ent Elem Beside Callable TI Lone OwnO AndA
set_option maxRecDepth 100000 in
theorem someP1_con (i b3 b4 b5 b7 : Nat) (bv : Value) (s : St9) (most : Int) (hs : s.1.length ≤ big9) (te : TypeId) (pe : Value) : Con Tryz.prog 95 [ptr b3, ptr b4, ptr b7, ptr b5] [BlkR b3 40 [ptr i], BlkR b4 3 [.int .i64 most], Blk b7 62 [.slice none 0 0], BlkR b5 59 [.func (.func 25) #[ptr i] #[]], Blk i 92 [bv, .bool s.2], Sl eByte bv s.1, G1 te pe, G3] (γ := Value × Value) (fun g => g.2) (fun _ => True) (fun g => [Blk i 92 [g.1, .bool (somR takePrim most s).1.2], Sl eByte g.1 (somR takePrim most s).1.1, Own ePr 58 g.2 (somR takePrim most s).2]) := by
  have hfar := num_far (s := s)
  have hN := inNum_con i bv s te pe
  unfold somR
  obtain ⟨s1, n, hn⟩ : ∃ s1 n, takeNum s = (s1, n) := ⟨_, _, rfl⟩
  rw [hn] at hN hfar ⊢
  dsimp only at hN hfar ⊢
  unfold far9 at hfar
  refine con_of Tryz.func95 rfl (dd rfl) fun w0 O0 => ?_
  refine c_seq ?_
  refine c_region ?_
  refine o_val (v_assign rfl) (dd rfl) ?_
  refine o_nil ?_
  refine c_seq ?_
  refine c_region ?_
  refine o_val (v_load lone40 rfl (hX (by repeat constructor)) rfl) (dd rfl) ?_
  refine o_step (s_callf cl14 (hN) rfl (dd rfl) (pXs (by repeat constructor)) fun v1 _ => ?_)
  refine o_val (v_assign rfl) (dd rfl) ?_
  refine o_nil ?_
  refine c_seq ?_
  refine c_seq ?_
  refine c_env (env' := [(0, _), (1, _), (2, _), (3, _), (4, _), (5, _)]) (by repeat (first | exact trivial | refine ⟨rfl, ?_⟩)) ?_
  refine c_joinb (d := 15) (decide (n < 0 ∨ most < n)) ?_ ?_
  rotate_left
  · intro J
    refine c_region ?_
    refine o_val (v_move rfl) (dd rfl) ?_
    refine o_val (v_lt rfl rfl) (dd rfl) ?_
    refine o_val (v_move rfl) (dd rfl) ?_
    first | refine o_guard_f rfl rfl (fun g11 => ?_) (fun g11 => ?_) | refine o_guard rfl rfl (fun g11 => ?_) (fun g11 => ?_)
    · refine o_val (v_move rfl) (dd rfl) ?_
      refine o_on rfl rfl ?_
      refine o_val (v_load lone3 rfl (hX (by repeat constructor)) rfl) (dd rfl) ?_
      refine o_on rfl rfl ?_
      refine o_val (v_gt rfl rfl) (dd rfl) ?_
      refine o_val (v_pick_f rfl rfl) (dd rfl) ?_
      refine o_nil ?_
      exact c_use J ⟨Env.as rfl (congrArg Value.bool (by first | rfl | (simp_all; done) | (simp_all; omega) | (simp; omega))), (by repeat (first | exact trivial | refine ⟨rfl, ?_⟩))⟩ (by first | exact Ent.refl _ | exact eX (by repeat constructor))
    · refine o_off rfl rfl rfl (dd rfl) ?_
      refine o_off rfl rfl rfl (dd rfl) ?_
      refine o_off rfl rfl rfl (dd rfl) ?_
      refine o_val (v_pick_t rfl rfl) (dd rfl) ?_
      refine o_nil ?_
      exact c_use J ⟨Env.as rfl (congrArg Value.bool (by first | rfl | (simp_all; done) | (simp_all; omega) | (simp; omega))), (by repeat (first | exact trivial | refine ⟨rfl, ?_⟩))⟩ (by first | exact Ent.refl _ | exact eX (by repeat constructor))
  obtain ⟨s2, hs2⟩ : ∃ s2, s2 = (if n < 0 ∨ most < n then spoil9 s1 else s1) := ⟨_, rfl⟩
  rw [← hs2]
  refine c_joinR (γ := Unit) [(0, _), (2, _), (3, _), (4, _), (5, _)] (fun _ => True) (fun _ => []) (fun _ => [BlkR b3 40 [ptr i], BlkR b4 3 [.int .i64 most], Blk b7 62 [.slice none 0 0], BlkR b5 59 [.func (.func 25) #[ptr i] #[]], Blk i 92 [v1, .bool s2.2], Sl eByte v1 s2.1, G1 te pe, G3]) (by repeat (first | exact trivial | refine ⟨rfl, ?_⟩)) ?_ ?_
  rotate_left
  · intro MEET
    skip
    refine c_cond_p rfl (fun hq => ?_) (fun hq => ?_)
    · have e2 : s2 = (s1.1, true) := by rw [hs2, if_pos hq]; rfl
      subst e2
      refine c_region ?_
      refine o_val (v_load lone40 rfl (hX (by repeat constructor)) rfl) (dd rfl) ?_
      refine o_val (v_nilCheck rfl) (dd rfl) ?_
      refine o_val (v_fieldAddrC 1 Tryz.underlying92 rfl ti4 (by decide) rfl) (dd rfl) ?_
      refine o_step (s_store1 ti4 rfl rfl (by first | exact OneC.lit rfl | exact OneC.sl (hX (by repeat constructor)) ) (pB (by repeat constructor)) (by first | decide | exact Nat.le_of_ble_eq_true rfl | simp) (by first | (dsimp only [List.set_cons_succ, List.set_cons_zero]; first | done | exact rfl) | rfl) (?_))
      refine o_nil ?_
      refine c_use (MEET (()) (trivial)) (by repeat (first | exact trivial | refine ⟨rfl, ?_⟩)) (eX (by repeat constructor))
    · have e2 : s2 = s1 := by rw [hs2, if_neg hq]
      subst e2
      refine c_skip ?_
      refine c_use (MEET (()) (trivial)) (by repeat (first | exact trivial | refine ⟨rfl, ?_⟩)) (eX (by repeat constructor))
  have hs2l : s2.1.length ≤ big9 := by
    have h1 := goes_len goes_num s
    rw [hn] at h1
    have h2 : s2.1 = s1.1 := by rw [hs2]; split <;> rfl
    rw [h2]; exact Nat.le_trans h1 hs
  rintro ⟨⟩ -
  dsimp only [List.cons_append, List.nil_append]
  refine c_seq ?_
  refine c_seq ?_
  refine c_region ?_
  refine o_val (v_assign rfl) (dd rfl) ?_
  refine o_nil ?_
  refine c_block ?_
  refine c_loopR (γ := Nat × St9 × List Pr9 × Value × Value) [(0, _), (2, _), (3, _), (4, _), (5, _)] (fun g => n.toNat - g.1) (fun g => g.1 ≤ n.toNat ∧ g.2.2.1.length ≤ g.1 ∧ takeMany takePrim (n.toNat - g.1) g.2.1 g.2.2.1 = takeMany takePrim n.toNat s2 [] ∧ (fun q : St9 => q.1.length ≤ big9) g.2.1) (fun g => [(6, .int .i64 g.1)]) (fun g => [BlkR b3 40 [ptr i], BlkR b5 59 [.func (.func 25) #[ptr i] #[]], Blk b7 62 [g.2.2.2.2], Own ePr 58 g.2.2.2.2 g.2.2.1, Blk i 92 [g.2.2.2.1, .bool g.2.1.2], Sl eByte g.2.2.2.1 g.2.1.1, G1 te pe, G3]) ((0, s2, [], v1, .slice none 0 0)) (⟨Nat.zero_le _, Nat.le_refl _, rfl, hs2l⟩) (by repeat (first | exact trivial | refine ⟨rfl, ?_⟩)) (eX (by repeat constructor)) ?_
  rintro ⟨k, sk, out, r, v⟩ ⟨hk, hlk, hTk, hgo⟩ IH
  dsimp only at hk hlk hTk ⊢
  dsimp only at hgo
  try dsimp only [List.cons_append, List.nil_append]
  refine c_seq ?_
  refine c_seq ?_
  refine c_env (env' := [(0, _), (2, _), (3, _), (4, _), (5, _), (6, _)]) (by repeat (first | exact trivial | refine ⟨rfl, ?_⟩)) ?_
  refine c_joinb (d := 28) (decide ((k : Int) < n ∧ sk.2 = false)) ?_ ?_
  rotate_left
  · intro J
    refine c_region ?_
    refine o_val (v_move rfl) (dd rfl) ?_
    refine o_val (v_move rfl) (dd rfl) ?_
    refine o_val (v_lt rfl rfl) (dd rfl) ?_
    refine o_val (v_move rfl) (dd rfl) ?_
    first | refine o_guard_t rfl rfl (fun g22 => ?_) (fun g22 => ?_) | refine o_guard rfl rfl (fun g22 => ?_) (fun g22 => ?_)
    · refine o_val (v_load lone40 rfl (hX (by repeat constructor)) rfl) (dd rfl) ?_
      refine o_on rfl rfl ?_
      refine o_val (v_nilCheck rfl) (dd rfl) ?_
      refine o_on rfl rfl ?_
      refine o_val (v_fieldAddrC 1 Tryz.underlying92 rfl ti4 (by decide) rfl) (dd rfl) ?_
      refine o_on rfl rfl ?_
      refine o_val (v_load lone4 rfl (hX (by repeat constructor)) rfl) (dd rfl) ?_
      refine o_on rfl rfl ?_
      refine o_val (v_not rfl) (dd rfl) ?_
      refine o_val (v_pick_t rfl rfl) (dd rfl) ?_
      refine o_nil ?_
      exact c_use J ⟨Env.as rfl (congrArg Value.bool (by first | rfl | (simp_all; done) | (simp_all; omega))), (by repeat (first | exact trivial | refine ⟨rfl, ?_⟩))⟩ (by first | exact Ent.refl _ | exact eX (by repeat constructor))
    · refine o_off rfl rfl rfl (dd rfl) ?_
      refine o_off rfl rfl rfl (dd rfl) ?_
      refine o_off rfl rfl rfl (dd rfl) ?_
      refine o_off rfl rfl rfl (dd rfl) ?_
      refine o_off rfl rfl rfl (dd rfl) ?_
      refine o_val (v_pick_f rfl rfl) (dd rfl) ?_
      refine o_nil ?_
      exact c_use J ⟨Env.as rfl (congrArg Value.bool (by first | rfl | (simp_all; done) | (simp_all; omega))), (by repeat (first | exact trivial | refine ⟨rfl, ?_⟩))⟩ (by first | exact Ent.refl _ | exact eX (by repeat constructor))
  refine c_cond_p rfl (fun hlt => ?_) (fun hlt => ?_)
  · have hst := takeMany_step takePrim (n := n.toNat) (k := k) (out := out) (by omega) hlt.2
    refine c_skip ?_
    refine c_seq ?_
    refine c_block ?_
    refine c_heldk 5 [Blk b7 62 [v], BlkR b5 59 [.func (.func 25) #[ptr i] #[]]] rfl ?_
    refine k_take 0 rfl (by kernel_rfl) (by kernel_rfl) (by kernel_rfl) rfl (by kernel_rfl) (v_load lone62 rfl (hX (by repeat constructor)) rfl) (eX (by repeat constructor)) (dd rfl) ?_
    refine k_take 1 rfl (by kernel_rfl) (by kernel_rfl) (by kernel_rfl) rfl (by kernel_rfl) (v_load lone59 rfl (hX (by repeat constructor)) rfl) (eX (by repeat constructor)) (dd rfl) ?_
    refine k_one 2 rfl (by kernel_rfl) fun hc_ => (s_call cl25 (inPrim_con i r sk hgo te pe) (first := [ptr i]) (cap := []) rfl rfl (by rfl) (dd rfl) (pXs (by repeat constructor)) (fun g2 _ => k_on hc_ (eX (by repeat constructor)) ?_))
    refine k_one 3 rfl (by kernel_rfl) fun hc_ => (s_buildSlice Tryz.underlying62 ti58 rfl rfl rfl (by decide) (by decide) (beside_agg1 (beside_of (Lp := [Sl eStr g2.2.1 (takePrim sk).2.2.2.2.2.1, Sl eStr g2.2.2 (takePrim sk).2.2.2.2.2.2]) (pXs (by repeat constructor)) fun w O => pr_close (z := (takePrim sk).2) w O)) rfl rfl (dd rfl) (fun v2 => k_on hc_ (eX (by repeat constructor)) ?_))
    refine k_one 4 rfl (by kernel_rfl) fun hc_ => (s_append Tryz.underlying62 ti58 rfl (by decide) rfl rfl (dd rfl) (pB (by repeat constructor)) (pX (by repeat constructor)) rfl (by (first | omega | (simp only [maxLen, List.length_append, List.length_drop, List.length_take, List.length_nil, List.length_cons]; omega))) (by (first | omega | (simp only [maxLen, List.length_append, List.length_drop, List.length_take, List.length_nil, List.length_cons]; omega))) (fun v3 => k_on hc_ (eX (by repeat constructor)) ?_))
    refine k_one 5 rfl (by kernel_rfl) fun hc_ => (s_store1 ti62 rfl rfl (by first | exact OneC.lit rfl | exact OneC.sl (hX (by repeat constructor)) ) (pB (by repeat constructor)) (by first | decide | exact Nat.le_of_ble_eq_true rfl | simp) (by first | (dsimp only [List.set_cons_succ, List.set_cons_zero]; first | done | exact rfl) | rfl) (k_last hc_ (by kernel_rfl) ?_))
    refine k_done (by kernel_rfl) ?_ _
    refine c_inBlock ?_
    refine c_region ?_
    refine o_val (v_move rfl) (dd rfl) ?_
    refine o_val ((by first | exact v_add64 rfl rfl (by omega) | exact v_add rfl rfl)) (dd rfl) ?_
    refine o_val (v_assign rfl) (dd rfl) ?_
    refine o_nil ?_
    refine c_use (IH ((k + 1, (takePrim sk).1, out ++ [(takePrim sk).2], g2.1, v3)) (by first | omega | (dsimp only; omega)) (⟨by dsimp only; omega, by simp; omega, hst.symm.trans hTk, Nat.le_trans (goes_len goes_prim sk) hgo⟩)) (by repeat (first | exact trivial | refine ⟨rfl, ?_⟩)) (eX (by repeat constructor))
  · have hend : takeMany takePrim (n.toNat - k) sk out = (sk, out) := by
      cases hb : sk.2 with
      | true => exact takeMany_bad _ _ _ _ hb
      | false => exact takeMany_end _ (by have : ¬ (k : Int) < n := fun q => hlt ⟨q, hb⟩; omega)
    refine c_exit rfl ?_
    refine c_seq ?_
    refine c_region ?_
    refine o_val (v_load lone62 rfl (hX (by repeat constructor)) rfl) (dd rfl) ?_
    refine o_val (v_assign rfl) (dd rfl) ?_
    refine o_nil ?_
    refine c_ret1 Tryz.func95 rfl rfl fun w O hS => ?_
    exact ⟨(r, v), rfl, trivial, by rw [← hTk, hend]; exact Ent.get hS (eX (by repeat constructor))⟩
set_option maxRecDepth 100000 in
theorem alwaysP_con (v : Value) : Con Tryz.prog 97 [v] [] (γ := Unit) (fun _ => .bool true) (fun _ => True) (fun _ => []) := by
  refine con_of Tryz.func97 rfl (dd rfl) fun w0 O0 => ?_
  refine c_seq ?_
  refine c_region ?_
  refine o_val (v_assign rfl) (dd rfl) ?_
  refine o_nil ?_
  refine c_seq ?_
  refine c_region ?_
  refine o_val (v_assign rfl) (dd rfl) ?_
  refine o_nil ?_
  refine c_ret1 Tryz.func97 rfl rfl fun w O hS => ?_
  exact ⟨(), rfl, trivial, trivial⟩
set_option maxRecDepth 100000 in
theorem wholeP_con (i b3 b4 b5 b7 : Nat) (bv : Value) (s : St9) (most : Int) (hs : s.1.length ≤ big9) (te : TypeId) (pe : Value) : Con Tryz.prog 96 [ptr i, .func (.func 95) #[] #[ptr b3, ptr b4, ptr b7, ptr b5], .func (.func 97) #[] #[]] [BlkR b3 40 [ptr i], BlkR b4 3 [.int .i64 most], Blk b7 62 [.slice none 0 0], BlkR b5 59 [.func (.func 25) #[ptr i] #[]], Blk i 92 [bv, .bool s.2], Sl eByte bv s.1, G1 te pe, G3] (γ := Value × Value) (fun g => g.2) (fun _ => True) (fun g => [Blk i 92 [g.1, .bool (takeSome takePrim most s).1.2], Sl eByte g.1 (takeSome takePrim most s).1.1, Own ePr 58 g.2 (takeSome takePrim most s).2]) := by
  have h1 := someP1_con i b3 b4 b5 b7 bv s most hs te pe
  have h2 := fun v => alwaysP_con v
  rw [some_as]
  refine con_of Tryz.func96 rfl (dd rfl) fun w0 O0 => ?_
  refine c_seq ?_
  refine c_region ?_
  refine o_val (v_assign rfl) (dd rfl) ?_
  refine o_nil ?_
  refine c_seq ?_
  refine c_region ?_
  refine o_val (v_move rfl) (dd rfl) ?_
  refine o_val (v_nilCheck rfl) (dd rfl) ?_
  refine o_val (v_fieldAddrC 0 Tryz.underlying92 rfl ti25 (by decide) rfl) (dd rfl) ?_
  refine o_val (v_load lone25 rfl (hX (by repeat constructor)) rfl) (dd rfl) ?_
  refine o_val (v_assign rfl) (dd rfl) ?_
  refine o_nil ?_
  refine c_seq ?_
  refine c_region ?_
  refine o_val (v_move rfl) (dd rfl) ?_
  refine o_step (s_call cl95 (h1) (first := []) (cap := [ptr b3, ptr b4, ptr b7, ptr b5]) rfl rfl (by rfl) (dd rfl) (pXs (by repeat constructor)) fun g _ => ?_)
  refine o_val (v_assign rfl) (dd rfl) ?_
  refine o_nil ?_
  refine c_seq ?_
  refine c_seq ?_
  refine c_region ?_
  refine o_val (v_move rfl) (dd rfl) ?_
  refine o_val (v_nilCheck rfl) (dd rfl) ?_
  refine o_val (v_fieldAddrC 1 Tryz.underlying92 rfl ti4 (by decide) rfl) (dd rfl) ?_
  refine o_val (v_load lone4 rfl (hX (by repeat constructor)) rfl) (dd rfl) ?_
  refine o_val (v_not rfl) (dd rfl) ?_
  refine o_val (v_move rfl) (dd rfl) ?_
  refine o_guard rfl rfl (fun hb => ?_) (fun hb => ?_)
  · have hb2 : (somR takePrim most s).1.2 = false := by simpa using hb
    rw [if_neg (by rw [hb2]; decide)]
    refine o_val (v_move rfl) (dd rfl) ?_
    refine o_on rfl rfl ?_
    refine o_val (v_move rfl) (dd rfl) ?_
    refine o_on rfl rfl ?_
    refine o_step (s_call cl97 (h2 g.2) (first := []) (cap := []) rfl rfl (by rfl) (dd rfl) (pXs (by repeat constructor)) fun _ _ => ?_)
    refine o_val (v_pick_t rfl rfl) (dd rfl) ?_
    refine o_nil ?_
    refine c_cond_t rfl ?_
    refine c_seq ?_
    refine c_region ?_
    refine o_val (v_move rfl) (dd rfl) ?_
    refine o_val (v_assign rfl) (dd rfl) ?_
    refine o_nil ?_
    refine c_ret1 Tryz.func96 rfl rfl fun w O hS => ?_
    exact ⟨g, rfl, trivial, Ent.get hS (eX (by repeat constructor))⟩
  · have hb2 : (somR takePrim most s).1.2 = true := by simpa using hb
    rw [if_pos hb2]
    refine o_off rfl rfl rfl (dd rfl) ?_
    refine o_off rfl rfl rfl (dd rfl) ?_
    refine o_off rfl rfl rfl (dd rfl) ?_
    refine o_val (v_pick_f rfl rfl) (dd rfl) ?_
    refine o_nil ?_
    refine c_cond_f rfl ?_
    refine c_skip ?_
    refine c_seq ?_
    refine c_region ?_
    refine o_val (v_assign rfl) (dd rfl) ?_
    refine o_nil ?_
    refine c_seq ?_
    refine c_region ?_
    refine o_val (v_move rfl) (dd rfl) ?_
    refine o_val (v_move rfl) (dd rfl) ?_
    refine o_val (v_move rfl) (dd rfl) ?_
    refine o_val (v_nilCheck rfl) (dd rfl) ?_
    refine o_val (v_fieldAddrC 0 Tryz.underlying92 rfl ti25 (by decide) rfl) (dd rfl) ?_
    refine o_step (s_store1 ti25 rfl rfl (by first | exact OneC.lit rfl | exact OneC.sl (hX (by repeat constructor)) ) (pB (by repeat constructor)) (by first | decide | exact Nat.le_of_ble_eq_true rfl | simp) (by first | (dsimp only [List.set_cons_succ, List.set_cons_zero]; first | done | exact rfl) | rfl) (?_))
    refine o_val (v_nilCheck rfl) (dd rfl) ?_
    refine o_val (v_fieldAddrC 1 Tryz.underlying92 rfl ti4 (by decide) rfl) (dd rfl) ?_
    refine o_step (s_store1 ti4 rfl rfl (by first | exact OneC.lit rfl | exact OneC.sl (hX (by repeat constructor)) ) (pB (by repeat constructor)) (by first | decide | exact Nat.le_of_ble_eq_true rfl | simp) (by first | (dsimp only [List.set_cons_succ, List.set_cons_zero]; first | done | exact rfl) | rfl) (?_))
    refine o_nil ?_
    refine c_seq ?_
    refine c_region ?_
    refine o_val (v_move rfl) (dd rfl) ?_
    refine o_val (v_assign rfl) (dd rfl) ?_
    refine o_nil ?_
    refine c_ret1 Tryz.func96 rfl rfl fun w O hS => ?_
    exact ⟨(bv, .slice none 0 0), rfl, trivial, Ent.get hS (eX (by repeat constructor))⟩
set_option maxRecDepth 100000 in
theorem someP_con (i : Nat) (bv : Value) (s : St9) (most : Int) (hs : s.1.length ≤ big9) (te : TypeId) (pe : Value) : Con Tryz.prog 73 [ptr i, .int .i64 most, .func (.func 25) #[ptr i] #[]] [Blk i 92 [bv, .bool s.2], Sl eByte bv s.1, G1 te pe, G3] (γ := Value × Value) (fun g => g.2) (fun _ => True) (fun g => [Blk i 92 [g.1, .bool (takeSome takePrim most s).1.2], Sl eByte g.1 (takeSome takePrim most s).1.1, Own ePr 58 g.2 (takeSome takePrim most s).2]) := by
  refine con_of Tryz.func73 rfl (dd rfl) fun w0 O0 => ?_
  refine c_seq ?_
  refine c_region ?_
  refine o_step (s_box rfl (dd rfl) (fun b3 => ?_))
  refine o_step (s_box rfl (dd rfl) (fun b4 => ?_))
  refine o_step (s_box rfl (dd rfl) (fun b5 => ?_))
  refine o_val (v_assign rfl) (dd rfl) ?_
  refine o_nil ?_
  refine c_seq ?_
  refine c_region ?_
  refine o_step (s_alloc ti62 (dd rfl) (fun b7 => ?_))
  refine o_nil ?_
  refine c_seq ?_
  refine c_region ?_
  refine o_val (v_makeFunc rfl rfl) (dd rfl) ?_
  refine o_val (v_assign rfl) (dd rfl) ?_
  refine o_nil ?_
  refine c_seq ?_
  refine c_region ?_
  refine o_val (v_load lone40 rfl (hX (by repeat constructor)) rfl) (dd rfl) ?_
  refine o_val (v_move rfl) (dd rfl) ?_
  have h := wholeP_con i b3 b4 b5 b7 bv s most hs te pe
  refine o_step (s_callf cl96 (h) rfl (dd rfl) (pXs (by repeat constructor)) fun g _ => ?_)
  refine o_val (v_assign rfl) (dd rfl) ?_
  refine o_nil ?_
  refine c_ret1 Tryz.func73 rfl rfl fun w O hS => ?_
  exact ⟨g, rfl, trivial, Ent.get hS (eX (by repeat constructor))⟩
set_option maxRecDepth 100000 in
theorem inPrims_con (i : Nat) (bv : Value) (s : St9) (most : Int) (hs : s.1.length ≤ big9) (te : TypeId) (pe : Value) : Con Tryz.prog 28 [ptr i, .int .i64 most] [Blk i 92 [bv, .bool s.2], Sl eByte bv s.1, G1 te pe, G3] (γ := Value × Value) (fun g => g.2) (fun _ => True) (fun g => [Blk i 92 [g.1, .bool (takePrims most s).1.2], Sl eByte g.1 (takePrims most s).1.1, Own ePr 58 g.2 (takePrims most s).2]) := by
  have h := someP_con i bv s most hs te pe
  unfold takePrims
  refine con_of Tryz.func28 rfl (dd rfl) fun w0 O0 => ?_
  refine c_seq ?_
  refine c_region ?_
  refine o_val (v_assign rfl) (dd rfl) ?_
  refine o_nil ?_
  refine c_seq ?_
  refine c_region ?_
  refine o_val (v_move rfl) (dd rfl) ?_
  refine o_val (v_move rfl) (dd rfl) ?_
  refine o_val (v_move rfl) (dd rfl) ?_
  refine o_val (v_makeFunc rfl rfl) (dd rfl) ?_
  refine o_step (s_callf cl73 (h) rfl (dd rfl) (pXs (by repeat constructor)) fun g _ => ?_)
  refine o_val (v_assign rfl) (dd rfl) ?_
  refine o_nil ?_
  refine c_ret1 Tryz.func28 rfl rfl fun w O hS => ?_
  exact ⟨g, rfl, trivial, Ent.get hS (eX (by repeat constructor))⟩
end Go.Proofs.YtmgkeippepeggaaGreatDoor
/- Chapter 09: the program's reader: a patch. -/
namespace Go.Proofs.YtmgkeippepeggaaGreatDoor
open Go Go.SL Go.Lib
theorem rawT_ok {s : St9} (h : s.1.length ≤ big9) : SizeT (rawPatch s).2 := by
  have h1 := Nat.le_trans (goes_len goes_num s) h
  have h2 := Nat.le_trans (goes_len (goes_text 60) (takeNum s).1) h1
  have h3 := Nat.le_trans (goes_len (goes_some goes_num 8) (takeText 60 (takeNum s).1).1) h2
  unfold SizeT rawPatch
  dsimp only
  exact ⟨text_ok h1, Nat.le_trans (some_len (n := 8) (by decide)) (by decide), Nat.le_trans (some_len (take := takePrim) (n := 24) (by decide)) (by decide), some_ok (most := 24) goes_prim (fun _ hs => prim_ok hs) h3⟩
attribute [local irreducible] Cfg Kont StepK Val Con Qops Any Sl Own Blk BlkR Rd Pu ExA AllA Has Pick Ent Elem Beside Callable TI Lone OwnO AndA
set_option maxRecDepth 100000 in
theorem inRawT_con (i : Nat) (bv : Value) (s : St9) (hs : s.1.length ≤ big9) (te : TypeId) (pe : Value) : Con Tryz.prog 75 [ptr i] [Blk i 92 [bv, .bool s.2], Sl eByte bv s.1, G1 te pe, G3] (γ := Value × Value × Value)
    (fun g => .agg #[.int .i64 (rawPatch s).2.1, .string (rawPatch s).2.2.1, g.2.1, g.2.2]) (fun _ => True)
    (fun g => [Blk i 92 [g.1, .bool (rawPatch s).1.2], Sl eByte g.1 (rawPatch s).1.1, Sl (eInt .i64) g.2.1 (rawPatch s).2.2.2.1, Sl ePr g.2.2 (rawPatch s).2.2.2.2]) := by
  have l1 := Nat.le_trans (goes_len goes_num s) hs
  have c1 := inNum_con i bv s te pe
  obtain ⟨s1, k, h1⟩ : ∃ s1 k, takeNum s = (s1, k) := ⟨_, _, rfl⟩
  rw [h1] at c1 l1
  have l2 := Nat.le_trans (goes_len (goes_text 60) s1) l1
  have c2 := fun v => inText_con i v s1 60 te pe
  obtain ⟨s2, n, h2⟩ : ∃ s2 n, takeText 60 s1 = (s2, n) := ⟨_, _, rfl⟩
  rw [h2] at c2 l2
  have l3 := Nat.le_trans (goes_len (goes_some goes_num 8) s2) l2
  have c3 := fun v => someI_con i v s2 8 te pe
  obtain ⟨s3, d, h3⟩ : ∃ s3 d, takeSome takeNum 8 s2 = (s3, d) := ⟨_, _, rfl⟩
  rw [h3] at c3 l3
  have c4 := fun v => inPrims_con i v s3 24 l3 te pe
  obtain ⟨s4, l, h4⟩ : ∃ s4 l, takePrims 24 s3 = (s4, l) := ⟨_, _, rfl⟩
  rw [h4] at c4
  have hraw : rawPatch s = (s4, (k, n, d, l)) := by unfold rawPatch; simp only [h1, h2, h3, h4]
  rw [hraw]
  dsimp only at c1 c2 c3 c4 ⊢
  refine con_of Tryz.func75 rfl (dd rfl) fun w0 O0 => ?_
  refine c_seq ?_
  refine c_region ?_
  refine o_step (s_alloc ti67 (dd rfl) (fun b2 => ?_))
  refine o_nil ?_
  refine c_seq ?_
  refine c_region ?_
  refine o_val (v_move rfl) (dd rfl) ?_
  refine o_step (s_callf cl14 (c1) rfl (dd rfl) (pXs (by repeat constructor)) fun v1 _ => ?_)
  refine o_val (v_move rfl) (dd rfl) ?_
  refine o_step (s_callf cl16 (c2 v1) rfl (dd rfl) (pXs (by repeat constructor)) fun v2 _ => ?_)
  refine o_val (v_buildS (places := [(0, 1), (1, 1), (2, 1), (3, 1)]) (cells := [_, _, .slice none 0 0, .slice none 0 0]) Tryz.underlying67 ti67 (by kernel_rfl) rfl (by repeat (first | exact PartsC.nil | (apply PartsC.one (by first | exact OneC.lit rfl | exact OneC.sl (hX (by repeat constructor)) )) | (apply PartsC.lit rfl))) rfl) (dd rfl) ?_
  refine o_step (s_alloc ti67 (dd rfl) (fun b3 => ?_))
  refine o_step (s_store_all ti67 rfl rfl (by first | exact CellsV.lit rfl | exact CellsV.one (by first | exact OneC.lit rfl | exact OneC.sl (hX (by repeat constructor)) )) (by repeat (first | exact OneAll.nil | (refine OneAll.cons ?_ ?_; · first | exact OneC.lit rfl | exact OneC.sl (hX (by repeat constructor)) ) | exact OneAll.rd (hX (by repeat constructor)))) rfl (pB (by repeat constructor)) rfl (?_))
  refine o_nil ?_
  refine c_seq ?_
  refine c_region ?_
  refine o_val (v_move rfl) (dd rfl) ?_
  refine o_val (v_move rfl) (dd rfl) ?_
  refine o_val (v_makeFunc rfl rfl) (dd rfl) ?_
  refine o_step (s_callf cl98 (c3 v2) rfl (dd rfl) (pXs (by repeat constructor)) fun g3 _ => ?_)
  refine o_val (v_fieldAddrC 2 Tryz.underlying67 rfl ti32 (by decide) rfl) (dd rfl) ?_
  refine o_step (s_store1 ti32 rfl rfl (by first | exact OneC.lit rfl | exact OneC.sl (hX (by repeat constructor)) ) (pB (by repeat constructor)) (by first | decide | exact Nat.le_of_ble_eq_true rfl | simp) (by first | (dsimp only [List.set_cons_succ, List.set_cons_zero]; first | done | exact rfl) | rfl) (?_))
  refine o_nil ?_
  refine c_seq ?_
  refine c_region ?_
  refine o_val (v_move rfl) (dd rfl) ?_
  refine o_step (s_callf cl28 (c4 g3.1) rfl (dd rfl) (pXs (by repeat constructor)) fun g4 _ => ?_)
  refine o_val (v_fieldAddrC 3 Tryz.underlying67 rfl ti62 (by decide) rfl) (dd rfl) ?_
  refine o_step (s_store1 ti62 rfl rfl (by first | exact OneC.lit rfl | exact OneC.sl (hX (by repeat constructor)) ) (pB (by repeat constructor)) (by first | decide | exact Nat.le_of_ble_eq_true rfl | simp) (by first | (dsimp only [List.set_cons_succ, List.set_cons_zero]; first | done | exact rfl) | rfl) (?_))
  refine o_nil ?_
  refine c_seq ?_
  refine c_region ?_
  refine o_val (v_load_all ⟨_, Tryz.underlying67⟩ ti67 rfl (hX (by repeat constructor)) rfl) (dd rfl) ?_
  refine o_step (s_store_all ti67 rfl rfl (by first | exact CellsV.lit rfl | exact CellsV.one (by first | exact OneC.lit rfl | exact OneC.sl (hX (by repeat constructor)) )) (by repeat (first | exact OneAll.nil | (refine OneAll.cons ?_ ?_; · first | exact OneC.lit rfl | exact OneC.sl (hX (by repeat constructor)) ) | exact OneAll.rd (hX (by repeat constructor)))) rfl (pB (by repeat constructor)) rfl (?_))
  refine o_nil ?_
  refine c_ret_cell Tryz.func75 rfl ⟨_, Tryz.underlying67⟩ ti67 rfl (hX (by repeat constructor)) fun w O hS => ?_
  exact ⟨(g4.1, g3.2, g4.2), rfl, trivial, Ent.get hS (eX (by repeat constructor))⟩
set_option maxRecDepth 100000 in
theorem wholeT_con (i : Nat) (bv : Value) (s : St9) (hs : s.1.length ≤ big9) (te : TypeId) (pe : Value) : Con Tryz.prog 74 [ptr i, .func (.func 75) #[ptr i] #[], .func (.func 76) #[] #[]] [Blk i 92 [bv, .bool s.2], Sl eByte bv s.1, G1 te pe, G3] (γ := Value × Value × Value)
    (fun g => .agg #[.int .i64 (takePatch s).2.1, .string (takePatch s).2.2.1, g.2.1, g.2.2]) (fun _ => True)
    (fun g => [Blk i 92 [g.1, .bool (takePatch s).1.2], Sl eByte g.1 (takePatch s).1.1, Sl (eInt .i64) g.2.1 (takePatch s).2.2.2.1, Sl ePr g.2.2 (takePatch s).2.2.2.2]) := by
  have h1 := inRawT_con i bv s hs te pe
  have hok := rawT_ok hs
  unfold takePatch
  obtain ⟨s1, p, hp⟩ : ∃ s1 p, rawPatch s = (s1, p) := ⟨_, _, rfl⟩
  rw [hp] at h1 hok ⊢
  obtain ⟨k, n, d, l⟩ := p
  have h2 := fun dv lv => rightT_con (k, n, d, l) dv lv hok
  dsimp only at h1 h2 ⊢
  refine con_of Tryz.func74 rfl (dd rfl) fun w0 O0 => ?_
  refine c_seq ?_
  refine c_region ?_
  refine o_step (s_alloc ti67 (dd rfl) (fun b6 => ?_))
  refine o_nil ?_
  refine c_seq ?_
  refine c_region ?_
  refine o_val (v_move rfl) (dd rfl) ?_
  refine o_val (v_nilCheck rfl) (dd rfl) ?_
  refine o_val (v_fieldAddrC 0 Tryz.underlying92 rfl ti25 (by decide) rfl) (dd rfl) ?_
  refine o_val (v_load lone25 rfl (hX (by repeat constructor)) rfl) (dd rfl) ?_
  refine o_val (v_assign rfl) (dd rfl) ?_
  refine o_nil ?_
  refine c_seq ?_
  refine c_region ?_
  refine o_val (v_move rfl) (dd rfl) ?_
  refine o_step (s_call cl75 (h1) (first := [ptr i]) (cap := []) rfl rfl (by rfl) (dd rfl) (pXs (by repeat constructor)) fun g _ => ?_)
  refine o_step (s_alloc ti67 (dd rfl) (fun b8 => ?_))
  refine o_step (s_store_all ti67 rfl rfl (by first | exact CellsV.lit rfl | exact CellsV.one (by first | exact OneC.lit rfl | exact OneC.sl (hX (by repeat constructor)) )) (by repeat (first | exact OneAll.nil | (refine OneAll.cons ?_ ?_; · first | exact OneC.lit rfl | exact OneC.sl (hX (by repeat constructor)) ) | exact OneAll.rd (hX (by repeat constructor)))) rfl (pB (by repeat constructor)) rfl (?_))
  refine o_nil ?_
  refine c_seq ?_
  refine c_seq ?_
  refine c_region ?_
  refine o_val (v_move rfl) (dd rfl) ?_
  refine o_val (v_nilCheck rfl) (dd rfl) ?_
  refine o_val (v_fieldAddrC 1 Tryz.underlying92 rfl ti4 (by decide) rfl) (dd rfl) ?_
  refine o_val (v_load lone4 rfl (hX (by repeat constructor)) rfl) (dd rfl) ?_
  refine o_val (v_not rfl) (dd rfl) ?_
  refine o_val (v_move rfl) (dd rfl) ?_
  refine o_guard rfl rfl (fun hb => ?_) (fun hb => ?_)
  · have hb2 : s1.2 = false := by simpa using hb
    refine o_val (v_move rfl) (dd rfl) ?_
    refine o_on rfl rfl ?_
    refine o_val (v_load_all ⟨_, Tryz.underlying67⟩ ti67 rfl (hX (by repeat constructor)) rfl) (dd rfl) ?_
    refine o_on rfl rfl ?_
    refine o_step (s_call_keep cl76 (h2 g.2.1 g.2.2) (first := []) (cap := []) rfl rfl rfl (dd rfl) (rX (by repeat constructor)) (fun _ => sX) (fun _ _ => ?_))
    refine o_val (v_pick_t rfl rfl) (dd rfl) ?_
    refine o_nil ?_
    refine c_cond rfl (fun hr => ?_) (fun hr => ?_)
    · rw [if_neg (by rintro (q | q); rw [hb2] at q; cases q; rw [hr] at q; cases q)]
      refine c_seq ?_
      refine c_region ?_
      refine o_val (v_load_all ⟨_, Tryz.underlying67⟩ ti67 rfl (hX (by repeat constructor)) rfl) (dd rfl) ?_
      refine o_step (s_store_all ti67 rfl rfl (by first | exact CellsV.lit rfl | exact CellsV.one (by first | exact OneC.lit rfl | exact OneC.sl (hX (by repeat constructor)) )) (by repeat (first | exact OneAll.nil | (refine OneAll.cons ?_ ?_; · first | exact OneC.lit rfl | exact OneC.sl (hX (by repeat constructor)) ) | exact OneAll.rd (hX (by repeat constructor)))) rfl (pB (by repeat constructor)) rfl (?_))
      refine o_nil ?_
      refine c_ret_cell Tryz.func74 rfl ⟨_, Tryz.underlying67⟩ ti67 rfl (hX (by repeat constructor)) fun w O hS => ?_
      exact ⟨g, rfl, trivial, Ent.get hS (eX (by repeat constructor))⟩
    · rw [if_pos (.inr hr)]
      refine c_skip ?_
      refine c_seq ?_
      refine c_region ?_
      refine o_step (s_alloc ti67 (dd rfl) (fun b9 => ?_))
      refine o_nil ?_
      refine c_seq ?_
      refine c_region ?_
      refine o_val (v_move rfl) (dd rfl) ?_
      refine o_val (v_move rfl) (dd rfl) ?_
      refine o_val (v_move rfl) (dd rfl) ?_
      refine o_val (v_nilCheck rfl) (dd rfl) ?_
      refine o_val (v_fieldAddrC 0 Tryz.underlying92 rfl ti25 (by decide) rfl) (dd rfl) ?_
      refine o_step (s_store1 ti25 rfl rfl (by first | exact OneC.lit rfl | exact OneC.sl (hX (by repeat constructor)) ) (pB (by repeat constructor)) (by first | decide | exact Nat.le_of_ble_eq_true rfl | simp) (by first | (dsimp only [List.set_cons_succ, List.set_cons_zero]; first | done | exact rfl) | rfl) (?_))
      refine o_val (v_nilCheck rfl) (dd rfl) ?_
      refine o_val (v_fieldAddrC 1 Tryz.underlying92 rfl ti4 (by decide) rfl) (dd rfl) ?_
      refine o_step (s_store1 ti4 rfl rfl (by first | exact OneC.lit rfl | exact OneC.sl (hX (by repeat constructor)) ) (pB (by repeat constructor)) (by first | decide | exact Nat.le_of_ble_eq_true rfl | simp) (by first | (dsimp only [List.set_cons_succ, List.set_cons_zero]; first | done | exact rfl) | rfl) (?_))
      refine o_nil ?_
      refine c_seq ?_
      refine c_region ?_
      refine o_val (v_load_all ⟨_, Tryz.underlying67⟩ ti67 rfl (hX (by repeat constructor)) rfl) (dd rfl) ?_
      refine o_step (s_store_all ti67 rfl rfl (by first | exact CellsV.lit rfl | exact CellsV.one (by first | exact OneC.lit rfl | exact OneC.sl (hX (by repeat constructor)) )) (by repeat (first | exact OneAll.nil | (refine OneAll.cons ?_ ?_; · first | exact OneC.lit rfl | exact OneC.sl (hX (by repeat constructor)) ) | exact OneAll.rd (hX (by repeat constructor)))) rfl (pB (by repeat constructor)) rfl (?_))
      refine o_nil ?_
      refine c_ret_cell Tryz.func74 rfl ⟨_, Tryz.underlying67⟩ ti67 rfl (hX (by repeat constructor)) fun w O hS => ?_
      exact ⟨(bv, .slice none 0 0, .slice none 0 0), rfl, trivial, Ent.get hS (eX (by repeat constructor))⟩
  · have hb2 : s1.2 = true := by simpa using hb
    rw [if_pos (.inl hb2)]
    refine o_off rfl rfl rfl (dd rfl) ?_
    refine o_off rfl rfl rfl (dd rfl) ?_
    refine o_off rfl rfl rfl (dd rfl) ?_
    refine o_val (v_pick_f rfl rfl) (dd rfl) ?_
    refine o_nil ?_
    refine c_cond_f rfl ?_
    refine c_skip ?_
    refine c_seq ?_
    refine c_region ?_
    refine o_step (s_alloc ti67 (dd rfl) (fun b9 => ?_))
    refine o_nil ?_
    refine c_seq ?_
    refine c_region ?_
    refine o_val (v_move rfl) (dd rfl) ?_
    refine o_val (v_move rfl) (dd rfl) ?_
    refine o_val (v_move rfl) (dd rfl) ?_
    refine o_val (v_nilCheck rfl) (dd rfl) ?_
    refine o_val (v_fieldAddrC 0 Tryz.underlying92 rfl ti25 (by decide) rfl) (dd rfl) ?_
    refine o_step (s_store1 ti25 rfl rfl (by first | exact OneC.lit rfl | exact OneC.sl (hX (by repeat constructor)) ) (pB (by repeat constructor)) (by first | decide | exact Nat.le_of_ble_eq_true rfl | simp) (by first | (dsimp only [List.set_cons_succ, List.set_cons_zero]; first | done | exact rfl) | rfl) (?_))
    refine o_val (v_nilCheck rfl) (dd rfl) ?_
    refine o_val (v_fieldAddrC 1 Tryz.underlying92 rfl ti4 (by decide) rfl) (dd rfl) ?_
    refine o_step (s_store1 ti4 rfl rfl (by first | exact OneC.lit rfl | exact OneC.sl (hX (by repeat constructor)) ) (pB (by repeat constructor)) (by first | decide | exact Nat.le_of_ble_eq_true rfl | simp) (by first | (dsimp only [List.set_cons_succ, List.set_cons_zero]; first | done | exact rfl) | rfl) (?_))
    refine o_nil ?_
    refine c_seq ?_
    refine c_region ?_
    refine o_val (v_load_all ⟨_, Tryz.underlying67⟩ ti67 rfl (hX (by repeat constructor)) rfl) (dd rfl) ?_
    refine o_step (s_store_all ti67 rfl rfl (by first | exact CellsV.lit rfl | exact CellsV.one (by first | exact OneC.lit rfl | exact OneC.sl (hX (by repeat constructor)) )) (by repeat (first | exact OneAll.nil | (refine OneAll.cons ?_ ?_; · first | exact OneC.lit rfl | exact OneC.sl (hX (by repeat constructor)) ) | exact OneAll.rd (hX (by repeat constructor)))) rfl (pB (by repeat constructor)) rfl (?_))
    refine o_nil ?_
    refine c_ret_cell Tryz.func74 rfl ⟨_, Tryz.underlying67⟩ ti67 rfl (hX (by repeat constructor)) fun w O hS => ?_
    exact ⟨(bv, .slice none 0 0, .slice none 0 0), rfl, trivial, Ent.get hS (eX (by repeat constructor))⟩
set_option maxRecDepth 100000 in
theorem inPatch_con (i : Nat) (bv : Value) (s : St9) (hs : s.1.length ≤ big9) (te : TypeId) (pe : Value) : Con Tryz.prog 31 [ptr i] [Blk i 92 [bv, .bool s.2], Sl eByte bv s.1, G1 te pe, G3] (γ := Value × Value × Value)
    (fun g => .agg #[.int .i64 (takePatch s).2.1, .string (takePatch s).2.2.1, g.2.1, g.2.2]) (fun _ => True)
    (fun g => [Blk i 92 [g.1, .bool (takePatch s).1.2], Sl eByte g.1 (takePatch s).1.1, Sl (eInt .i64) g.2.1 (takePatch s).2.2.2.1, Sl ePr g.2.2 (takePatch s).2.2.2.2]) := by
  have h := wholeT_con i bv s hs te pe
  refine con_of Tryz.func31 rfl (dd rfl) fun w0 O0 => ?_
  refine c_seq ?_
  refine c_region ?_
  refine o_step (s_alloc ti67 (dd rfl) (fun b2 => ?_))
  refine o_nil ?_
  refine c_seq ?_
  refine c_region ?_
  refine o_val (v_move rfl) (dd rfl) ?_
  refine o_val (v_move rfl) (dd rfl) ?_
  refine o_val (v_makeFunc rfl rfl) (dd rfl) ?_
  refine o_step (s_callf cl74 (h) rfl (dd rfl) (pXs (by repeat constructor)) fun g _ => ?_)
  refine o_step (s_store_all ti67 rfl rfl (by first | exact CellsV.lit rfl | exact CellsV.one (by first | exact OneC.lit rfl | exact OneC.sl (hX (by repeat constructor)) )) (by repeat (first | exact OneAll.nil | (refine OneAll.cons ?_ ?_; · first | exact OneC.lit rfl | exact OneC.sl (hX (by repeat constructor)) ) | exact OneAll.rd (hX (by repeat constructor)))) rfl (pB (by repeat constructor)) rfl (?_))
  refine o_nil ?_
  refine c_ret_cell Tryz.func31 rfl ⟨_, Tryz.underlying67⟩ ti67 rfl (hX (by repeat constructor)) fun w O hS => ?_
  exact ⟨g, rfl, trivial, Ent.get hS (eX (by repeat constructor))⟩
end Go.Proofs.YtmgkeippepeggaaGreatDoor
/- Chapter 09: which changes and patches are the same. -/
namespace Go.Proofs.YtmgkeippepeggaaGreatDoor
open Go Go.SL Go.Lib
instance decPr9 : DecidableEq Pr9 := fun a b => inferInstanceAs (Decidable (a = b))
attribute [local irreducible] Cfg Kont StepK Val Con Qops Any Sl Own Blk BlkR Rd Pu ExA AllA Has Pick Ent Elem Beside Callable TI Lone OwnO AndA
set_option maxRecDepth 100000 in
theorem samePr_con (p q : Pr9) (ov wv ov' wv' : Value) (hp : p.2.2.2.2.1.length ≤ 1000000 ∧ p.2.2.2.2.2.length ≤ 1000000) (hq : q.2.2.2.2.1.length ≤ 1000000 ∧ q.2.2.2.2.2.length ≤ 1000000) : Con Tryz.prog 39 [.agg #[.int .i64 p.1, .string p.2.1, .string p.2.2.1, .int .i64 p.2.2.2.1, ov, wv], .agg #[.int .i64 q.1, .string q.2.1, .string q.2.2.1, .int .i64 q.2.2.2.1, ov', wv']] [Sl eStr ov p.2.2.2.2.1, Sl eStr wv p.2.2.2.2.2, Sl eStr ov' q.2.2.2.2.1, Sl eStr wv' q.2.2.2.2.2] (γ := Unit) (fun _ => .bool (decide (p = q))) (fun _ => True) (fun _ => []) := by
  obtain ⟨k, n, t, a, o, z⟩ := p
  obtain ⟨k', n', t', a', o', z'⟩ := q
  obtain ⟨hp1, hp2⟩ := hp
  obtain ⟨hq1, hq2⟩ := hq
  dsimp only at hp1 hp2 hq1 hq2 ⊢
  have h1 := same_con ov ov' o o' hp1 hq1
  have h2 := same_con wv wv' z z' hp2 hq2
  refine con_of Tryz.func39 rfl (dd rfl) fun w0 O0 => ?_
  refine c_seq ?_
  refine c_region ?_
  refine o_step (s_box rfl (dd rfl) (fun b2 => ?_))
  refine o_step (s_box rfl (dd rfl) (fun b3 => ?_))
  refine o_val (v_assign rfl) (dd rfl) ?_
  refine o_nil ?_
  refine c_seq ?_
  refine c_region ?_
  refine o_val (v_fieldAddrC 0 Tryz.underlying58 rfl ti3 (by decide) rfl) (dd rfl) ?_
  refine o_val (v_load lone3 rfl (hX (by repeat constructor)) rfl) (dd rfl) ?_
  refine o_val (v_fieldAddrC 0 Tryz.underlying58 rfl ti3 (by decide) rfl) (dd rfl) ?_
  refine o_val (v_load lone3 rfl (hX (by repeat constructor)) rfl) (dd rfl) ?_
  refine o_val (v_eq rfl rfl) (dd rfl) ?_
  refine o_val (v_move rfl) (dd rfl) ?_
  refine o_guard_t rfl rfl (fun g1 => ?_) (fun g1 => ?_)
  · refine o_val (v_fieldAddrC 1 Tryz.underlying58 rfl ti9 (by decide) rfl) (dd rfl) ?_
    refine o_on rfl rfl ?_
    refine o_val (v_load lone9 rfl (hX (by repeat constructor)) rfl) (dd rfl) ?_
    refine o_on rfl rfl ?_
    refine o_val (v_fieldAddrC 1 Tryz.underlying58 rfl ti9 (by decide) rfl) (dd rfl) ?_
    refine o_on rfl rfl ?_
    refine o_val (v_load lone9 rfl (hX (by repeat constructor)) rfl) (dd rfl) ?_
    refine o_on rfl rfl ?_
    refine o_val (v_seq rfl rfl) (dd rfl) ?_
    refine o_val (v_pick_t rfl rfl) (dd rfl) ?_
    refine o_val (v_move rfl) (dd rfl) ?_
    refine o_guard_t rfl rfl (fun g2 => ?_) (fun g2 => ?_)
    · refine o_val (v_fieldAddrC 2 Tryz.underlying58 rfl ti9 (by decide) rfl) (dd rfl) ?_
      refine o_on rfl rfl ?_
      refine o_val (v_load lone9 rfl (hX (by repeat constructor)) rfl) (dd rfl) ?_
      refine o_on rfl rfl ?_
      refine o_val (v_fieldAddrC 2 Tryz.underlying58 rfl ti9 (by decide) rfl) (dd rfl) ?_
      refine o_on rfl rfl ?_
      refine o_val (v_load lone9 rfl (hX (by repeat constructor)) rfl) (dd rfl) ?_
      refine o_on rfl rfl ?_
      refine o_val (v_seq rfl rfl) (dd rfl) ?_
      refine o_val (v_pick_t rfl rfl) (dd rfl) ?_
      refine o_val (v_move rfl) (dd rfl) ?_
      refine o_guard_t rfl rfl (fun g3 => ?_) (fun g3 => ?_)
      · refine o_val (v_fieldAddrC 3 Tryz.underlying58 rfl ti3 (by decide) rfl) (dd rfl) ?_
        refine o_on rfl rfl ?_
        refine o_val (v_load lone3 rfl (hX (by repeat constructor)) rfl) (dd rfl) ?_
        refine o_on rfl rfl ?_
        refine o_val (v_fieldAddrC 3 Tryz.underlying58 rfl ti3 (by decide) rfl) (dd rfl) ?_
        refine o_on rfl rfl ?_
        refine o_val (v_load lone3 rfl (hX (by repeat constructor)) rfl) (dd rfl) ?_
        refine o_on rfl rfl ?_
        refine o_val (v_eq rfl rfl) (dd rfl) ?_
        refine o_val (v_pick_t rfl rfl) (dd rfl) ?_
        refine o_val (v_move rfl) (dd rfl) ?_
        refine o_guard_t rfl rfl (fun g4 => ?_) (fun g4 => ?_)
        · refine o_val (v_fieldAddrC 4 Tryz.underlying58 rfl ti28 (by decide) rfl) (dd rfl) ?_
          refine o_on rfl rfl ?_
          refine o_val (v_load lone28 rfl (hX (by repeat constructor)) rfl) (dd rfl) ?_
          refine o_on rfl rfl ?_
          refine o_val (v_fieldAddrC 4 Tryz.underlying58 rfl ti28 (by decide) rfl) (dd rfl) ?_
          refine o_on rfl rfl ?_
          refine o_val (v_load lone28 rfl (hX (by repeat constructor)) rfl) (dd rfl) ?_
          refine o_on rfl rfl ?_
          refine o_step (s_callf_keep cl81 (h1) rfl (dd rfl) (rX (by repeat constructor)) (fun _ => sX) (fun _ _ => ?_))
          refine o_val (v_pick_t rfl rfl) (dd rfl) ?_
          refine o_val (v_move rfl) (dd rfl) ?_
          refine o_guard rfl rfl (fun g5 => ?_) (fun g5 => ?_)
          · have g5' : o = o' := of_decide_eq_true g5
            refine o_val (v_fieldAddrC 5 Tryz.underlying58 rfl ti28 (by decide) rfl) (dd rfl) ?_
            refine o_on rfl rfl ?_
            refine o_val (v_load lone28 rfl (hX (by repeat constructor)) rfl) (dd rfl) ?_
            refine o_on rfl rfl ?_
            refine o_val (v_fieldAddrC 5 Tryz.underlying58 rfl ti28 (by decide) rfl) (dd rfl) ?_
            refine o_on rfl rfl ?_
            refine o_val (v_load lone28 rfl (hX (by repeat constructor)) rfl) (dd rfl) ?_
            refine o_on rfl rfl ?_
            refine o_step (s_callf_keep cl81 (h2) rfl (dd rfl) (rX (by repeat constructor)) (fun _ => sX) (fun _ _ => ?_))
            refine o_val (v_pick_t rfl rfl) (dd rfl) ?_
            refine o_val (v_assign rfl) (dd rfl) ?_
            refine o_nil ?_
            refine c_ret1 Tryz.func39 rfl rfl fun w O hS => ?_
            subst g1; subst g2; subst g3; subst g4; subst g5'
            exact ⟨(), congrArg Value.bool (decide_eq_decide.2 ⟨fun h => by rw [h], fun h => by injection h with _ h; injection h with _ h; injection h with _ h; injection h with _ h; injection h with _ h⟩), trivial, trivial⟩
          · have g5' : ¬ o = o' := of_decide_eq_false g5
            refine o_off rfl rfl rfl (dd rfl) ?_
            refine o_off rfl rfl rfl (dd rfl) ?_
            refine o_off rfl rfl rfl (dd rfl) ?_
            refine o_off rfl rfl rfl (dd rfl) ?_
            refine o_off rfl rfl rfl (dd rfl) ?_
            refine o_val (v_pick_f rfl rfl) (dd rfl) ?_
            refine o_val (v_assign rfl) (dd rfl) ?_
            refine o_nil ?_
            refine c_ret1 Tryz.func39 rfl rfl fun w O hS => ?_
            refine ⟨(), ?_, trivial, trivial⟩
            rw [decide_eq_false]
            intro q
            injection q
            simp_all
        · skip
          refine o_off rfl rfl rfl (dd rfl) ?_
          refine o_off rfl rfl rfl (dd rfl) ?_
          refine o_off rfl rfl rfl (dd rfl) ?_
          refine o_off rfl rfl rfl (dd rfl) ?_
          refine o_off rfl rfl rfl (dd rfl) ?_
          refine o_val (v_pick_f rfl rfl) (dd rfl) ?_
          refine o_val (v_move rfl) (dd rfl) ?_
          refine o_off rfl rfl rfl (dd rfl) ?_
          refine o_off rfl rfl rfl (dd rfl) ?_
          refine o_off rfl rfl rfl (dd rfl) ?_
          refine o_off rfl rfl rfl (dd rfl) ?_
          refine o_off rfl rfl rfl (dd rfl) ?_
          refine o_val (v_pick_f rfl rfl) (dd rfl) ?_
          refine o_val (v_assign rfl) (dd rfl) ?_
          refine o_nil ?_
          refine c_ret1 Tryz.func39 rfl rfl fun w O hS => ?_
          refine ⟨(), ?_, trivial, trivial⟩
          rw [decide_eq_false]
          intro q
          injection q
          simp_all
      · skip
        refine o_off rfl rfl rfl (dd rfl) ?_
        refine o_off rfl rfl rfl (dd rfl) ?_
        refine o_off rfl rfl rfl (dd rfl) ?_
        refine o_off rfl rfl rfl (dd rfl) ?_
        refine o_off rfl rfl rfl (dd rfl) ?_
        refine o_val (v_pick_f rfl rfl) (dd rfl) ?_
        refine o_val (v_move rfl) (dd rfl) ?_
        refine o_off rfl rfl rfl (dd rfl) ?_
        refine o_off rfl rfl rfl (dd rfl) ?_
        refine o_off rfl rfl rfl (dd rfl) ?_
        refine o_off rfl rfl rfl (dd rfl) ?_
        refine o_off rfl rfl rfl (dd rfl) ?_
        refine o_val (v_pick_f rfl rfl) (dd rfl) ?_
        refine o_val (v_move rfl) (dd rfl) ?_
        refine o_off rfl rfl rfl (dd rfl) ?_
        refine o_off rfl rfl rfl (dd rfl) ?_
        refine o_off rfl rfl rfl (dd rfl) ?_
        refine o_off rfl rfl rfl (dd rfl) ?_
        refine o_off rfl rfl rfl (dd rfl) ?_
        refine o_val (v_pick_f rfl rfl) (dd rfl) ?_
        refine o_val (v_assign rfl) (dd rfl) ?_
        refine o_nil ?_
        refine c_ret1 Tryz.func39 rfl rfl fun w O hS => ?_
        refine ⟨(), ?_, trivial, trivial⟩
        rw [decide_eq_false]
        intro q
        injection q
        simp_all
    · skip
      refine o_off rfl rfl rfl (dd rfl) ?_
      refine o_off rfl rfl rfl (dd rfl) ?_
      refine o_off rfl rfl rfl (dd rfl) ?_
      refine o_off rfl rfl rfl (dd rfl) ?_
      refine o_off rfl rfl rfl (dd rfl) ?_
      refine o_val (v_pick_f rfl rfl) (dd rfl) ?_
      refine o_val (v_move rfl) (dd rfl) ?_
      refine o_off rfl rfl rfl (dd rfl) ?_
      refine o_off rfl rfl rfl (dd rfl) ?_
      refine o_off rfl rfl rfl (dd rfl) ?_
      refine o_off rfl rfl rfl (dd rfl) ?_
      refine o_off rfl rfl rfl (dd rfl) ?_
      refine o_val (v_pick_f rfl rfl) (dd rfl) ?_
      refine o_val (v_move rfl) (dd rfl) ?_
      refine o_off rfl rfl rfl (dd rfl) ?_
      refine o_off rfl rfl rfl (dd rfl) ?_
      refine o_off rfl rfl rfl (dd rfl) ?_
      refine o_off rfl rfl rfl (dd rfl) ?_
      refine o_off rfl rfl rfl (dd rfl) ?_
      refine o_val (v_pick_f rfl rfl) (dd rfl) ?_
      refine o_val (v_move rfl) (dd rfl) ?_
      refine o_off rfl rfl rfl (dd rfl) ?_
      refine o_off rfl rfl rfl (dd rfl) ?_
      refine o_off rfl rfl rfl (dd rfl) ?_
      refine o_off rfl rfl rfl (dd rfl) ?_
      refine o_off rfl rfl rfl (dd rfl) ?_
      refine o_val (v_pick_f rfl rfl) (dd rfl) ?_
      refine o_val (v_assign rfl) (dd rfl) ?_
      refine o_nil ?_
      refine c_ret1 Tryz.func39 rfl rfl fun w O hS => ?_
      refine ⟨(), ?_, trivial, trivial⟩
      rw [decide_eq_false]
      intro q
      injection q
      simp_all
  · skip
    refine o_off rfl rfl rfl (dd rfl) ?_
    refine o_off rfl rfl rfl (dd rfl) ?_
    refine o_off rfl rfl rfl (dd rfl) ?_
    refine o_off rfl rfl rfl (dd rfl) ?_
    refine o_off rfl rfl rfl (dd rfl) ?_
    refine o_val (v_pick_f rfl rfl) (dd rfl) ?_
    refine o_val (v_move rfl) (dd rfl) ?_
    refine o_off rfl rfl rfl (dd rfl) ?_
    refine o_off rfl rfl rfl (dd rfl) ?_
    refine o_off rfl rfl rfl (dd rfl) ?_
    refine o_off rfl rfl rfl (dd rfl) ?_
    refine o_off rfl rfl rfl (dd rfl) ?_
    refine o_val (v_pick_f rfl rfl) (dd rfl) ?_
    refine o_val (v_move rfl) (dd rfl) ?_
    refine o_off rfl rfl rfl (dd rfl) ?_
    refine o_off rfl rfl rfl (dd rfl) ?_
    refine o_off rfl rfl rfl (dd rfl) ?_
    refine o_off rfl rfl rfl (dd rfl) ?_
    refine o_off rfl rfl rfl (dd rfl) ?_
    refine o_val (v_pick_f rfl rfl) (dd rfl) ?_
    refine o_val (v_move rfl) (dd rfl) ?_
    refine o_off rfl rfl rfl (dd rfl) ?_
    refine o_off rfl rfl rfl (dd rfl) ?_
    refine o_off rfl rfl rfl (dd rfl) ?_
    refine o_off rfl rfl rfl (dd rfl) ?_
    refine o_off rfl rfl rfl (dd rfl) ?_
    refine o_val (v_pick_f rfl rfl) (dd rfl) ?_
    refine o_val (v_move rfl) (dd rfl) ?_
    refine o_off rfl rfl rfl (dd rfl) ?_
    refine o_off rfl rfl rfl (dd rfl) ?_
    refine o_off rfl rfl rfl (dd rfl) ?_
    refine o_off rfl rfl rfl (dd rfl) ?_
    refine o_off rfl rfl rfl (dd rfl) ?_
    refine o_val (v_pick_f rfl rfl) (dd rfl) ?_
    refine o_val (v_assign rfl) (dd rfl) ?_
    refine o_nil ?_
    refine c_ret1 Tryz.func39 rfl rfl fun w O hS => ?_
    refine ⟨(), ?_, trivial, trivial⟩
    rw [decide_eq_false]
    intro q
    injection q
    simp_all
set_option maxRecDepth 100000 in
theorem samePrR_con (p q : Pr9) (ov wv ov' wv' : Value) (hp : p.2.2.2.2.1.length ≤ 1000000 ∧ p.2.2.2.2.2.length ≤ 1000000) (hq : q.2.2.2.2.1.length ≤ 1000000 ∧ q.2.2.2.2.2.length ≤ 1000000) : Con Tryz.prog 24 [.agg #[.int .i64 p.1, .string p.2.1, .string p.2.2.1, .int .i64 p.2.2.2.1, ov, wv], .agg #[.int .i64 q.1, .string q.2.1, .string q.2.2.1, .int .i64 q.2.2.2.1, ov', wv']] [Sl eStr ov p.2.2.2.2.1, Sl eStr wv p.2.2.2.2.2, Sl eStr ov' q.2.2.2.2.1, Sl eStr wv' q.2.2.2.2.2] (γ := Unit) (fun _ => .bool (decide (p = q))) (fun _ => True) (fun _ => []) := by
  obtain ⟨k, n, t, a, o, z⟩ := p
  obtain ⟨k', n', t', a', o', z'⟩ := q
  obtain ⟨hp1, hp2⟩ := hp
  obtain ⟨hq1, hq2⟩ := hq
  dsimp only at hp1 hp2 hq1 hq2 ⊢
  have h1 := same_ref_con ov ov' o o' hp1 hq1
  have h2 := same_ref_con wv wv' z z' hp2 hq2
  refine con_of Tryz.func24 rfl (dd rfl) fun w0 O0 => ?_
  refine c_seq ?_
  refine c_region ?_
  refine o_step (s_box rfl (dd rfl) (fun b2 => ?_))
  refine o_step (s_box rfl (dd rfl) (fun b3 => ?_))
  refine o_val (v_assign rfl) (dd rfl) ?_
  refine o_nil ?_
  refine c_seq ?_
  refine c_region ?_
  refine o_val (v_fieldAddrC 0 Tryz.underlying30 rfl ti3 (by decide) rfl) (dd rfl) ?_
  refine o_val (v_load lone3 rfl (hX (by repeat constructor)) rfl) (dd rfl) ?_
  refine o_val (v_fieldAddrC 0 Tryz.underlying30 rfl ti3 (by decide) rfl) (dd rfl) ?_
  refine o_val (v_load lone3 rfl (hX (by repeat constructor)) rfl) (dd rfl) ?_
  refine o_val (v_eq rfl rfl) (dd rfl) ?_
  refine o_val (v_move rfl) (dd rfl) ?_
  refine o_guard_t rfl rfl (fun g1 => ?_) (fun g1 => ?_)
  · refine o_val (v_fieldAddrC 1 Tryz.underlying30 rfl ti9 (by decide) rfl) (dd rfl) ?_
    refine o_on rfl rfl ?_
    refine o_val (v_load lone9 rfl (hX (by repeat constructor)) rfl) (dd rfl) ?_
    refine o_on rfl rfl ?_
    refine o_val (v_fieldAddrC 1 Tryz.underlying30 rfl ti9 (by decide) rfl) (dd rfl) ?_
    refine o_on rfl rfl ?_
    refine o_val (v_load lone9 rfl (hX (by repeat constructor)) rfl) (dd rfl) ?_
    refine o_on rfl rfl ?_
    refine o_val (v_seq rfl rfl) (dd rfl) ?_
    refine o_val (v_pick_t rfl rfl) (dd rfl) ?_
    refine o_val (v_move rfl) (dd rfl) ?_
    refine o_guard_t rfl rfl (fun g2 => ?_) (fun g2 => ?_)
    · refine o_val (v_fieldAddrC 2 Tryz.underlying30 rfl ti9 (by decide) rfl) (dd rfl) ?_
      refine o_on rfl rfl ?_
      refine o_val (v_load lone9 rfl (hX (by repeat constructor)) rfl) (dd rfl) ?_
      refine o_on rfl rfl ?_
      refine o_val (v_fieldAddrC 2 Tryz.underlying30 rfl ti9 (by decide) rfl) (dd rfl) ?_
      refine o_on rfl rfl ?_
      refine o_val (v_load lone9 rfl (hX (by repeat constructor)) rfl) (dd rfl) ?_
      refine o_on rfl rfl ?_
      refine o_val (v_seq rfl rfl) (dd rfl) ?_
      refine o_val (v_pick_t rfl rfl) (dd rfl) ?_
      refine o_val (v_move rfl) (dd rfl) ?_
      refine o_guard_t rfl rfl (fun g3 => ?_) (fun g3 => ?_)
      · refine o_val (v_fieldAddrC 3 Tryz.underlying30 rfl ti3 (by decide) rfl) (dd rfl) ?_
        refine o_on rfl rfl ?_
        refine o_val (v_load lone3 rfl (hX (by repeat constructor)) rfl) (dd rfl) ?_
        refine o_on rfl rfl ?_
        refine o_val (v_fieldAddrC 3 Tryz.underlying30 rfl ti3 (by decide) rfl) (dd rfl) ?_
        refine o_on rfl rfl ?_
        refine o_val (v_load lone3 rfl (hX (by repeat constructor)) rfl) (dd rfl) ?_
        refine o_on rfl rfl ?_
        refine o_val (v_eq rfl rfl) (dd rfl) ?_
        refine o_val (v_pick_t rfl rfl) (dd rfl) ?_
        refine o_val (v_move rfl) (dd rfl) ?_
        refine o_guard_t rfl rfl (fun g4 => ?_) (fun g4 => ?_)
        · refine o_val (v_fieldAddrC 4 Tryz.underlying30 rfl ti28 (by decide) rfl) (dd rfl) ?_
          refine o_on rfl rfl ?_
          refine o_val (v_load lone28 rfl (hX (by repeat constructor)) rfl) (dd rfl) ?_
          refine o_on rfl rfl ?_
          refine o_val (v_fieldAddrC 4 Tryz.underlying30 rfl ti28 (by decide) rfl) (dd rfl) ?_
          refine o_on rfl rfl ?_
          refine o_val (v_load lone28 rfl (hX (by repeat constructor)) rfl) (dd rfl) ?_
          refine o_on rfl rfl ?_
          refine o_step (s_callf_keep cl23 (h1) rfl (dd rfl) (rX (by repeat constructor)) (fun _ => sX) (fun _ _ => ?_))
          refine o_val (v_pick_t rfl rfl) (dd rfl) ?_
          refine o_val (v_move rfl) (dd rfl) ?_
          refine o_guard rfl rfl (fun g5 => ?_) (fun g5 => ?_)
          · have g5' : o = o' := of_decide_eq_true g5
            refine o_val (v_fieldAddrC 5 Tryz.underlying30 rfl ti28 (by decide) rfl) (dd rfl) ?_
            refine o_on rfl rfl ?_
            refine o_val (v_load lone28 rfl (hX (by repeat constructor)) rfl) (dd rfl) ?_
            refine o_on rfl rfl ?_
            refine o_val (v_fieldAddrC 5 Tryz.underlying30 rfl ti28 (by decide) rfl) (dd rfl) ?_
            refine o_on rfl rfl ?_
            refine o_val (v_load lone28 rfl (hX (by repeat constructor)) rfl) (dd rfl) ?_
            refine o_on rfl rfl ?_
            refine o_step (s_callf_keep cl23 (h2) rfl (dd rfl) (rX (by repeat constructor)) (fun _ => sX) (fun _ _ => ?_))
            refine o_val (v_pick_t rfl rfl) (dd rfl) ?_
            refine o_val (v_assign rfl) (dd rfl) ?_
            refine o_nil ?_
            refine c_ret1 Tryz.func24 rfl rfl fun w O hS => ?_
            subst g1; subst g2; subst g3; subst g4; subst g5'
            exact ⟨(), congrArg Value.bool (decide_eq_decide.2 ⟨fun h => by rw [h], fun h => by injection h with _ h; injection h with _ h; injection h with _ h; injection h with _ h; injection h with _ h⟩), trivial, trivial⟩
          · have g5' : ¬ o = o' := of_decide_eq_false g5
            refine o_off rfl rfl rfl (dd rfl) ?_
            refine o_off rfl rfl rfl (dd rfl) ?_
            refine o_off rfl rfl rfl (dd rfl) ?_
            refine o_off rfl rfl rfl (dd rfl) ?_
            refine o_off rfl rfl rfl (dd rfl) ?_
            refine o_val (v_pick_f rfl rfl) (dd rfl) ?_
            refine o_val (v_assign rfl) (dd rfl) ?_
            refine o_nil ?_
            refine c_ret1 Tryz.func24 rfl rfl fun w O hS => ?_
            refine ⟨(), ?_, trivial, trivial⟩
            rw [decide_eq_false]
            intro q
            injection q
            simp_all
        · skip
          refine o_off rfl rfl rfl (dd rfl) ?_
          refine o_off rfl rfl rfl (dd rfl) ?_
          refine o_off rfl rfl rfl (dd rfl) ?_
          refine o_off rfl rfl rfl (dd rfl) ?_
          refine o_off rfl rfl rfl (dd rfl) ?_
          refine o_val (v_pick_f rfl rfl) (dd rfl) ?_
          refine o_val (v_move rfl) (dd rfl) ?_
          refine o_off rfl rfl rfl (dd rfl) ?_
          refine o_off rfl rfl rfl (dd rfl) ?_
          refine o_off rfl rfl rfl (dd rfl) ?_
          refine o_off rfl rfl rfl (dd rfl) ?_
          refine o_off rfl rfl rfl (dd rfl) ?_
          refine o_val (v_pick_f rfl rfl) (dd rfl) ?_
          refine o_val (v_assign rfl) (dd rfl) ?_
          refine o_nil ?_
          refine c_ret1 Tryz.func24 rfl rfl fun w O hS => ?_
          refine ⟨(), ?_, trivial, trivial⟩
          rw [decide_eq_false]
          intro q
          injection q
          simp_all
      · skip
        refine o_off rfl rfl rfl (dd rfl) ?_
        refine o_off rfl rfl rfl (dd rfl) ?_
        refine o_off rfl rfl rfl (dd rfl) ?_
        refine o_off rfl rfl rfl (dd rfl) ?_
        refine o_off rfl rfl rfl (dd rfl) ?_
        refine o_val (v_pick_f rfl rfl) (dd rfl) ?_
        refine o_val (v_move rfl) (dd rfl) ?_
        refine o_off rfl rfl rfl (dd rfl) ?_
        refine o_off rfl rfl rfl (dd rfl) ?_
        refine o_off rfl rfl rfl (dd rfl) ?_
        refine o_off rfl rfl rfl (dd rfl) ?_
        refine o_off rfl rfl rfl (dd rfl) ?_
        refine o_val (v_pick_f rfl rfl) (dd rfl) ?_
        refine o_val (v_move rfl) (dd rfl) ?_
        refine o_off rfl rfl rfl (dd rfl) ?_
        refine o_off rfl rfl rfl (dd rfl) ?_
        refine o_off rfl rfl rfl (dd rfl) ?_
        refine o_off rfl rfl rfl (dd rfl) ?_
        refine o_off rfl rfl rfl (dd rfl) ?_
        refine o_val (v_pick_f rfl rfl) (dd rfl) ?_
        refine o_val (v_assign rfl) (dd rfl) ?_
        refine o_nil ?_
        refine c_ret1 Tryz.func24 rfl rfl fun w O hS => ?_
        refine ⟨(), ?_, trivial, trivial⟩
        rw [decide_eq_false]
        intro q
        injection q
        simp_all
    · skip
      refine o_off rfl rfl rfl (dd rfl) ?_
      refine o_off rfl rfl rfl (dd rfl) ?_
      refine o_off rfl rfl rfl (dd rfl) ?_
      refine o_off rfl rfl rfl (dd rfl) ?_
      refine o_off rfl rfl rfl (dd rfl) ?_
      refine o_val (v_pick_f rfl rfl) (dd rfl) ?_
      refine o_val (v_move rfl) (dd rfl) ?_
      refine o_off rfl rfl rfl (dd rfl) ?_
      refine o_off rfl rfl rfl (dd rfl) ?_
      refine o_off rfl rfl rfl (dd rfl) ?_
      refine o_off rfl rfl rfl (dd rfl) ?_
      refine o_off rfl rfl rfl (dd rfl) ?_
      refine o_val (v_pick_f rfl rfl) (dd rfl) ?_
      refine o_val (v_move rfl) (dd rfl) ?_
      refine o_off rfl rfl rfl (dd rfl) ?_
      refine o_off rfl rfl rfl (dd rfl) ?_
      refine o_off rfl rfl rfl (dd rfl) ?_
      refine o_off rfl rfl rfl (dd rfl) ?_
      refine o_off rfl rfl rfl (dd rfl) ?_
      refine o_val (v_pick_f rfl rfl) (dd rfl) ?_
      refine o_val (v_move rfl) (dd rfl) ?_
      refine o_off rfl rfl rfl (dd rfl) ?_
      refine o_off rfl rfl rfl (dd rfl) ?_
      refine o_off rfl rfl rfl (dd rfl) ?_
      refine o_off rfl rfl rfl (dd rfl) ?_
      refine o_off rfl rfl rfl (dd rfl) ?_
      refine o_val (v_pick_f rfl rfl) (dd rfl) ?_
      refine o_val (v_assign rfl) (dd rfl) ?_
      refine o_nil ?_
      refine c_ret1 Tryz.func24 rfl rfl fun w O hS => ?_
      refine ⟨(), ?_, trivial, trivial⟩
      rw [decide_eq_false]
      intro q
      injection q
      simp_all
  · skip
    refine o_off rfl rfl rfl (dd rfl) ?_
    refine o_off rfl rfl rfl (dd rfl) ?_
    refine o_off rfl rfl rfl (dd rfl) ?_
    refine o_off rfl rfl rfl (dd rfl) ?_
    refine o_off rfl rfl rfl (dd rfl) ?_
    refine o_val (v_pick_f rfl rfl) (dd rfl) ?_
    refine o_val (v_move rfl) (dd rfl) ?_
    refine o_off rfl rfl rfl (dd rfl) ?_
    refine o_off rfl rfl rfl (dd rfl) ?_
    refine o_off rfl rfl rfl (dd rfl) ?_
    refine o_off rfl rfl rfl (dd rfl) ?_
    refine o_off rfl rfl rfl (dd rfl) ?_
    refine o_val (v_pick_f rfl rfl) (dd rfl) ?_
    refine o_val (v_move rfl) (dd rfl) ?_
    refine o_off rfl rfl rfl (dd rfl) ?_
    refine o_off rfl rfl rfl (dd rfl) ?_
    refine o_off rfl rfl rfl (dd rfl) ?_
    refine o_off rfl rfl rfl (dd rfl) ?_
    refine o_off rfl rfl rfl (dd rfl) ?_
    refine o_val (v_pick_f rfl rfl) (dd rfl) ?_
    refine o_val (v_move rfl) (dd rfl) ?_
    refine o_off rfl rfl rfl (dd rfl) ?_
    refine o_off rfl rfl rfl (dd rfl) ?_
    refine o_off rfl rfl rfl (dd rfl) ?_
    refine o_off rfl rfl rfl (dd rfl) ?_
    refine o_off rfl rfl rfl (dd rfl) ?_
    refine o_val (v_pick_f rfl rfl) (dd rfl) ?_
    refine o_val (v_move rfl) (dd rfl) ?_
    refine o_off rfl rfl rfl (dd rfl) ?_
    refine o_off rfl rfl rfl (dd rfl) ?_
    refine o_off rfl rfl rfl (dd rfl) ?_
    refine o_off rfl rfl rfl (dd rfl) ?_
    refine o_off rfl rfl rfl (dd rfl) ?_
    refine o_val (v_pick_f rfl rfl) (dd rfl) ?_
    refine o_val (v_assign rfl) (dd rfl) ?_
    refine o_nil ?_
    refine c_ret1 Tryz.func24 rfl rfl fun w O hS => ?_
    refine ⟨(), ?_, trivial, trivial⟩
    rw [decide_eq_false]
    intro q
    injection q
    simp_all
end Go.Proofs.YtmgkeippepeggaaGreatDoor
/- Chapter 09: which rows of changes, and which patches, are the same; changes as the document's, and the program's. -/
namespace Go.Proofs.YtmgkeippepeggaaGreatDoor
open Go Go.SL Go.Lib
/-- Rows of changes that are short enough to be compared. -/
def ShortL (l : List Pr9) : Prop := l.length ≤ 1000000 ∧ ∀ p ∈ l, p.2.2.2.2.1.length ≤ 1000000 ∧ p.2.2.2.2.2.length ≤ 1000000
theorem take_next {α : Type} {xs ys : List α} {k : Nat} (h1 : k < xs.length) (h2 : k < ys.length) (he : xs.take k = ys.take k) (hx : xs[k] = ys[k]) : xs.take (k + 1) = ys.take (k + 1) := by
  rw [List.take_succ_eq_append_getElem h1, List.take_succ_eq_append_getElem h2, he, hx]
attribute [local irreducible] Cfg Kont StepK Val Con Qops Any Sl Own Blk BlkR Rd Pu ExA AllA Has Pick Ent Elem Beside Callable TI Lone OwnO AndA
set_option maxRecDepth 100000 in
theorem allR_con (v u : Value) (xs ys : List Pr9) (hx : ShortL xs) (hy : ShortL ys) : Con Tryz.prog 26 [v, u] [Sl ePr v xs, Sl ePr u ys] (γ := Unit) (fun _ => .bool (decide (xs = ys))) (fun _ => True) (fun _ => []) := by
  obtain ⟨hx1, hx2⟩ := hx
  obtain ⟨hy1, hy2⟩ := hy
  refine con_of Tryz.func26 rfl (dd rfl) fun w0 O0 => ?_
  refine c_seq ?_
  refine c_region ?_
  refine o_val (v_assign rfl) (dd rfl) ?_
  refine o_nil ?_
  refine c_seq ?_
  refine c_seq ?_
  refine c_region ?_
  refine o_val (v_move rfl) (dd rfl) ?_
  refine o_val ((by first | exact v_len_form Tryz.underlying31 rfl | exact v_len_sl Tryz.underlying31 rfl (hX (by repeat constructor)))) (dd rfl) ?_
  refine o_val (v_move rfl) (dd rfl) ?_
  refine o_val ((by first | exact v_len_form Tryz.underlying31 rfl | exact v_len_sl Tryz.underlying31 rfl (hX (by repeat constructor)))) (dd rfl) ?_
  refine o_val (v_ne rfl rfl) (dd rfl) ?_
  refine o_nil ?_
  refine c_cond_p rfl (fun h => ?_) (fun h => ?_)
  · refine c_seq ?_
    refine c_region ?_
    refine o_val (v_assign rfl) (dd rfl) ?_
    refine o_nil ?_
    refine c_ret1 Tryz.func26 rfl rfl fun w O hS => ?_
    exact ⟨(), by rw [decide_eq_false (fun e => h (by rw [e]))], trivial, trivial⟩
  · refine c_skip ?_
    refine c_seq ?_
    refine c_seq ?_
    refine c_region ?_
    refine o_val (v_assign rfl) (dd rfl) ?_
    refine o_nil ?_
    refine c_block ?_
    refine c_loopR (γ := Nat) [(0, _), (1, _), (4, _)] (fun k => xs.length - k) (fun k => k ≤ xs.length ∧ xs.take k = ys.take k) (fun k => [(5, .int .i64 k)]) (fun _ => [Sl ePr v xs, Sl ePr u ys]) (0) (⟨Nat.zero_le _, rfl⟩) (by repeat (first | exact trivial | refine ⟨rfl, ?_⟩)) (eX (by repeat constructor)) ?_
    rintro k ⟨hk, he⟩ IH
    try dsimp only [List.cons_append, List.nil_append]
    refine c_seq ?_
    refine c_seq ?_
    refine c_region ?_
    refine o_val (v_move rfl) (dd rfl) ?_
    refine o_val (v_move rfl) (dd rfl) ?_
    refine o_val ((by first | exact v_len_form Tryz.underlying31 rfl | exact v_len_sl Tryz.underlying31 rfl (hX (by repeat constructor)))) (dd rfl) ?_
    refine o_val (v_lt rfl rfl) (dd rfl) ?_
    refine o_nil ?_
    refine c_cond_p rfl (fun hlt => ?_) (fun hlt => ?_)
    · have hkx : k < xs.length := by omega
      have hky : k < ys.length := by omega
      have hS := fun ov wv ov' wv' => samePrR_con xs[k] ys[k] ov wv ov' wv' (hx2 _ (List.getElem_mem hkx)) (hy2 _ (List.getElem_mem hky))
      refine c_skip ?_
      refine c_seq ?_
      refine c_block ?_
      refine c_seq ?_
      refine c_held [Sl ePr v xs, Sl ePr u ys] rfl ?_
      refine a_take 0 rfl (by kernel_rfl) (by kernel_rfl) (by kernel_rfl) (v_move rfl) (eX (by repeat constructor)) (dd rfl) ?_
      refine a_take 1 rfl (by kernel_rfl) (by kernel_rfl) (by kernel_rfl) (v_move rfl) (eX (by repeat constructor)) (dd rfl) ?_
      refine a_take 2 rfl (by kernel_rfl) (by kernel_rfl) (by kernel_rfl) ((by first | exact v_indexAddrN Tryz.underlying31 ti30 rfl rfl (hX (by repeat constructor)) (by omega) | exact v_indexAddr Tryz.underlying31 ti30 rfl rfl (hX (by repeat constructor)) (by omega))) (eX (by repeat constructor)) (dd rfl) ?_
      refine a_take 4 rfl (by kernel_rfl) (by kernel_rfl) (by kernel_rfl) (v_move rfl) (eX (by repeat constructor)) (dd rfl) ?_
      refine a_take 5 rfl (by kernel_rfl) (by kernel_rfl) (by kernel_rfl) (v_move rfl) (eX (by repeat constructor)) (dd rfl) ?_
      refine a_take 6 rfl (by kernel_rfl) (by kernel_rfl) (by kernel_rfl) ((by first | exact v_indexAddrN Tryz.underlying31 ti30 rfl rfl (hX (by repeat constructor)) (by omega) | exact v_indexAddr Tryz.underlying31 ti30 rfl rfl (hX (by repeat constructor)) (by omega))) (eX (by repeat constructor)) (dd rfl) ?_
      refine a_two 3 7 rfl rfl (by kernel_rfl) ?_ ?_
      · skip
        refine s_load_shape ⟨_, Tryz.underlying30⟩ ti30 rfl (dd rfl) (by repeat (first|exact el1 (by omega)|exact el2 (by omega)|exact el3 (by omega)|apply Elem.there)) (pr_open) (fun g => a_on (eX (by repeat constructor)) ?_)
        refine a_one 7 rfl (by kernel_rfl) (s_load_shape ⟨_, Tryz.underlying30⟩ ti30 rfl (dd rfl) (by repeat (first|exact el1 (by omega)|exact el2 (by omega)|exact el3 (by omega)|apply Elem.there)) (pr_open) (fun g' => a_on (eX (by repeat constructor)) ?_))
        refine a_one 8 rfl (by kernel_rfl) (s_callf_keep cl24 (hS g.1 g.2 g'.1 g'.2) rfl (dd rfl) (rX (by repeat constructor)) (fun _ => sX) (fun _ _ => a_on (eX (by repeat constructor)) ?_))
        refine a_take 9 rfl (by kernel_rfl) (by kernel_rfl) (by kernel_rfl) (v_not rfl) (eX (by repeat constructor)) (dd rfl) ?_
        refine a_done (by kernel_rfl) ?_ _
        refine c_cond rfl (fun hb => ?_) (fun hb => ?_)
        · have hne : ¬ xs[k] = ys[k] := by intro q; rw [decide_eq_true q] at hb; cases hb
          refine c_seq ?_
          refine c_region ?_
          refine o_val (v_assign rfl) (dd rfl) ?_
          refine o_nil ?_
          refine c_ret1 Tryz.func26 rfl rfl fun w O hS => ?_
          exact ⟨(), by rw [decide_eq_false]; intro q; subst q; exact hne rfl, trivial, trivial⟩
        · have heq : xs[k] = ys[k] := Classical.byContradiction fun q => by rw [decide_eq_false q] at hb; cases hb
          refine c_skip ?_
          refine c_inBlock ?_
          refine c_region ?_
          refine o_val (v_move rfl) (dd rfl) ?_
          refine o_val ((by first | exact v_add64 rfl rfl (by omega) | exact v_add rfl rfl)) (dd rfl) ?_
          refine o_val (v_assign rfl) (dd rfl) ?_
          refine o_nil ?_
          refine c_use (IH (k + 1) (by first | omega | (dsimp only; omega)) (⟨by omega, take_next hkx hky he heq⟩)) (by repeat (first | exact trivial | refine ⟨rfl, ?_⟩)) (eX (by repeat constructor))
      · skip
        refine s_load_shape ⟨_, Tryz.underlying30⟩ ti30 rfl (dd rfl) (by repeat (first|exact el1 (by omega)|exact el2 (by omega)|exact el3 (by omega)|apply Elem.there)) (pr_open) (fun g' => a_on (eX (by repeat constructor)) ?_)
        refine a_one 3 rfl (by kernel_rfl) (s_load_shape ⟨_, Tryz.underlying30⟩ ti30 rfl (dd rfl) (by repeat (first|exact el1 (by omega)|exact el2 (by omega)|exact el3 (by omega)|apply Elem.there)) (pr_open) (fun g => a_on (eX (by repeat constructor)) ?_))
        refine a_one 8 rfl (by kernel_rfl) (s_callf_keep cl24 (hS g.1 g.2 g'.1 g'.2) rfl (dd rfl) (rX (by repeat constructor)) (fun _ => sX) (fun _ _ => a_on (eX (by repeat constructor)) ?_))
        refine a_take 9 rfl (by kernel_rfl) (by kernel_rfl) (by kernel_rfl) (v_not rfl) (eX (by repeat constructor)) (dd rfl) ?_
        refine a_done (by kernel_rfl) ?_ _
        refine c_cond rfl (fun hb => ?_) (fun hb => ?_)
        · have hne : ¬ xs[k] = ys[k] := by intro q; rw [decide_eq_true q] at hb; cases hb
          refine c_seq ?_
          refine c_region ?_
          refine o_val (v_assign rfl) (dd rfl) ?_
          refine o_nil ?_
          refine c_ret1 Tryz.func26 rfl rfl fun w O hS => ?_
          exact ⟨(), by rw [decide_eq_false]; intro q; subst q; exact hne rfl, trivial, trivial⟩
        · have heq : xs[k] = ys[k] := Classical.byContradiction fun q => by rw [decide_eq_false q] at hb; cases hb
          refine c_skip ?_
          refine c_inBlock ?_
          refine c_region ?_
          refine o_val (v_move rfl) (dd rfl) ?_
          refine o_val ((by first | exact v_add64 rfl rfl (by omega) | exact v_add rfl rfl)) (dd rfl) ?_
          refine o_val (v_assign rfl) (dd rfl) ?_
          refine o_nil ?_
          refine c_use (IH (k + 1) (by first | omega | (dsimp only; omega)) (⟨by omega, take_next hkx hky he heq⟩)) (by repeat (first | exact trivial | refine ⟨rfl, ?_⟩)) (eX (by repeat constructor))
    · refine c_exit rfl ?_
      refine c_seq ?_
      refine c_region ?_
      refine o_val (v_assign rfl) (dd rfl) ?_
      refine o_nil ?_
      refine c_ret1 Tryz.func26 rfl rfl fun w O hS => ?_
      refine ⟨(), ?_, trivial, trivial⟩
      rw [List.take_of_length_le (by omega), List.take_of_length_le (by omega)] at he
      rw [decide_eq_true he]
end Go.Proofs.YtmgkeippepeggaaGreatDoor
/- Chapter 09: which patches are the same. -/
namespace Go.Proofs.YtmgkeippepeggaaGreatDoor
open Go Go.SL Go.Lib
instance decPt9 : DecidableEq Pt9 := fun a b => inferInstanceAs (Decidable (a = b))
attribute [local irreducible] Cfg Kont StepK Val Con Qops Any Sl Own Blk BlkR Rd Pu ExA AllA Has Pick Ent Elem Beside Callable TI Lone OwnO AndA
set_option maxRecDepth 100000 in
theorem eqPrims_con (v u : Value) (xs ys : List Pr9) (hx : ShortL xs) (hy : ShortL ys) : Con Tryz.prog 105 [v, u, .func (.func 39) #[] #[]] [Sl ePr v xs, Sl ePr u ys] (γ := Unit) (fun _ => .bool (decide (xs = ys))) (fun _ => True) (fun _ => []) := by
  obtain ⟨hx1, hx2⟩ := hx
  obtain ⟨hy1, hy2⟩ := hy
  refine con_of Tryz.func105 rfl (dd rfl) fun w0 O0 => ?_
  refine c_seq ?_
  refine c_region ?_
  refine o_val (v_assign rfl) (dd rfl) ?_
  refine o_nil ?_
  refine c_seq ?_
  refine c_seq ?_
  refine c_region ?_
  refine o_val (v_move rfl) (dd rfl) ?_
  refine o_val ((by first | exact v_len_form Tryz.underlying62 rfl | exact v_len_sl Tryz.underlying62 rfl (hX (by repeat constructor)))) (dd rfl) ?_
  refine o_val (v_move rfl) (dd rfl) ?_
  refine o_val ((by first | exact v_len_form Tryz.underlying62 rfl | exact v_len_sl Tryz.underlying62 rfl (hX (by repeat constructor)))) (dd rfl) ?_
  refine o_val (v_ne rfl rfl) (dd rfl) ?_
  refine o_nil ?_
  refine c_cond_p rfl (fun h => ?_) (fun h => ?_)
  · refine c_seq ?_
    refine c_region ?_
    refine o_val (v_assign rfl) (dd rfl) ?_
    refine o_nil ?_
    refine c_ret1 Tryz.func105 rfl rfl fun w O hS => ?_
    exact ⟨(), by rw [decide_eq_false (fun e => h (by rw [e]))], trivial, trivial⟩
  · refine c_skip ?_
    refine c_seq ?_
    refine c_seq ?_
    refine c_region ?_
    refine o_val (v_move rfl) (dd rfl) ?_
    refine o_val ((by first | exact v_len_form Tryz.underlying62 rfl | exact v_len_sl Tryz.underlying62 rfl (hX (by repeat constructor)))) (dd rfl) ?_
    refine o_val (v_move rfl) (dd rfl) ?_
    refine o_nil ?_
    refine c_block ?_
    refine c_loopR (γ := Nat) [(1, _), (2, _), (6, _), (15, _), (16, _)] (fun k => xs.length - k) (fun k => k ≤ xs.length ∧ xs.take k = ys.take k) (fun k => [(17, .int .i64 k)]) (fun _ => [Sl ePr v xs, Sl ePr u ys]) (0) (⟨Nat.zero_le _, rfl⟩) (by repeat (first | exact trivial | refine ⟨rfl, ?_⟩)) (eX (by repeat constructor)) ?_
    rintro k ⟨hk, he⟩ IH
    try dsimp only [List.cons_append, List.nil_append]
    refine c_seq ?_
    refine c_region ?_
    refine o_val (v_lt rfl rfl) (dd rfl) ?_
    refine o_nil ?_
    refine c_seq ?_
    refine c_cond_p rfl (fun hlt => ?_) (fun hlt => ?_)
    · have hkx : k < xs.length := by omega
      have hky : k < ys.length := by omega
      have hS := fun ov wv ov' wv' => samePr_con xs[k] ys[k] ov wv ov' wv' (hx2 _ (List.getElem_mem hkx)) (hy2 _ (List.getElem_mem hky))
      refine c_skip ?_
      refine c_seq ?_
      refine c_block ?_
      refine c_seq ?_
      refine c_region ?_
      refine o_val (v_move rfl) (dd rfl) ?_
      refine o_val ((by first | exact v_indexAddrN Tryz.underlying62 ti58 rfl rfl (hX (by repeat constructor)) (by omega) | exact v_indexAddr Tryz.underlying62 ti58 rfl rfl (hX (by repeat constructor)) (by omega))) (dd rfl) ?_
      refine o_step (s_load_shape ⟨_, Tryz.underlying58⟩ ti58 rfl (dd rfl) (by repeat (first|exact el1 (by omega)|exact el2 (by omega)|exact el3 (by omega)|apply Elem.there)) (pr_open) (fun g => ?_))
      refine o_step (s_alloc ti58 (dd rfl) (fun b8 => ?_))
      refine o_val (v_assign rfl) (dd rfl) ?_
      refine o_step (s_store_all ti58 rfl rfl (by first | exact CellsV.lit rfl | exact CellsV.one (by first | exact OneC.lit rfl | exact OneC.sl (hX (by repeat constructor)) )) (by repeat (first | exact OneAll.nil | (refine OneAll.cons ?_ ?_; · first | exact OneC.lit rfl | exact OneC.sl (hX (by repeat constructor)) ) | exact OneAll.rd (hX (by repeat constructor)))) rfl (pB (by repeat constructor)) rfl (?_))
      refine o_nil ?_
      refine c_seq ?_
      refine c_region ?_
      refine o_val (v_move rfl) (dd rfl) ?_
      refine o_val (v_move rfl) (dd rfl) ?_
      refine o_val ((by first | exact v_indexAddrN Tryz.underlying62 ti58 rfl rfl (hX (by repeat constructor)) (by omega) | exact v_indexAddr Tryz.underlying62 ti58 rfl rfl (hX (by repeat constructor)) (by omega))) (dd rfl) ?_
      refine o_step (s_load_shape ⟨_, Tryz.underlying58⟩ ti58 rfl (dd rfl) (by repeat (first|exact el1 (by omega)|exact el2 (by omega)|exact el3 (by omega)|apply Elem.there)) (pr_open) (fun g' => ?_))
      refine o_step (s_alloc ti58 (dd rfl) (fun b9 => ?_))
      refine o_step (s_store_all ti58 rfl rfl (by first | exact CellsV.lit rfl | exact CellsV.one (by first | exact OneC.lit rfl | exact OneC.sl (hX (by repeat constructor)) )) (by repeat (first | exact OneAll.nil | (refine OneAll.cons ?_ ?_; · first | exact OneC.lit rfl | exact OneC.sl (hX (by repeat constructor)) ) | exact OneAll.rd (hX (by repeat constructor)))) rfl (pB (by repeat constructor)) rfl (?_))
      refine o_nil ?_
      refine c_seq ?_
      refine c_region ?_
      refine o_val (v_move rfl) (dd rfl) ?_
      refine o_val (v_load_all ⟨_, Tryz.underlying58⟩ ti58 rfl (hX (by repeat constructor)) rfl) (dd rfl) ?_
      refine o_val (v_load_all ⟨_, Tryz.underlying58⟩ ti58 rfl (hX (by repeat constructor)) rfl) (dd rfl) ?_
      refine o_step (s_call_keep cl39 (hS g.1 g.2 g'.1 g'.2) (first := []) (cap := []) rfl rfl rfl (dd rfl) (rX (by repeat constructor)) (fun _ => sX) (fun _ _ => ?_))
      refine o_val (v_not rfl) (dd rfl) ?_
      refine o_nil ?_
      refine c_cond rfl (fun hb => ?_) (fun hb => ?_)
      · have hne : ¬ xs[k] = ys[k] := by intro q; rw [decide_eq_true q] at hb; cases hb
        refine c_seq ?_
        refine c_region ?_
        refine o_val (v_assign rfl) (dd rfl) ?_
        refine o_nil ?_
        refine c_ret1 Tryz.func105 rfl rfl fun w O hS => ?_
        exact ⟨(), by rw [decide_eq_false]; intro q; subst q; exact hne rfl, trivial, trivial⟩
      · have heq : xs[k] = ys[k] := Classical.byContradiction fun q => by rw [decide_eq_false q] at hb; cases hb
        refine c_skip ?_
        refine c_inBlock ?_
        refine c_region ?_
        refine o_val ((by first | exact v_add64 rfl rfl (by omega) | exact v_add rfl rfl)) (dd rfl) ?_
        refine o_val (v_move rfl) (dd rfl) ?_
        refine o_nil ?_
        refine c_use (IH (k + 1) (by first | omega | (dsimp only; omega)) (⟨by omega, take_next hkx hky he heq⟩)) (by repeat (first | exact trivial | refine ⟨rfl, ?_⟩)) (eX (by repeat constructor))
    · refine c_exit rfl ?_
      refine c_seq ?_
      refine c_region ?_
      refine o_val (v_assign rfl) (dd rfl) ?_
      refine o_nil ?_
      refine c_ret1 Tryz.func105 rfl rfl fun w O hS => ?_
      refine ⟨(), ?_, trivial, trivial⟩
      rw [List.take_of_length_le (by omega), List.take_of_length_le (by omega)] at he
      rw [decide_eq_true he]
set_option maxRecDepth 100000 in
theorem samePrims_con (v u : Value) (xs ys : List Pr9) (hx : ShortL xs) (hy : ShortL ys) : Con Tryz.prog 83 [v, u] [Sl ePr v xs, Sl ePr u ys] (γ := Unit) (fun _ => .bool (decide (xs = ys))) (fun _ => True) (fun _ => []) := by
  have h := eqPrims_con v u xs ys hx hy
  refine con_of Tryz.func83 rfl (dd rfl) fun w0 O0 => ?_
  refine c_seq ?_
  refine c_region ?_
  refine o_val (v_assign rfl) (dd rfl) ?_
  refine o_nil ?_
  refine c_seq ?_
  refine c_region ?_
  refine o_val (v_move rfl) (dd rfl) ?_
  refine o_val (v_move rfl) (dd rfl) ?_
  refine o_step (s_callf cl105 (h) rfl (dd rfl) (pXs (by repeat constructor)) fun _ _ => ?_)
  refine o_val (v_assign rfl) (dd rfl) ?_
  refine o_nil ?_
  refine c_ret1 Tryz.func83 rfl rfl fun w O hS => ?_
  exact ⟨(), rfl, trivial, trivial⟩
set_option maxRecDepth 100000 in
theorem eqInts_con (v u : Value) (xs ys : List Int) (hx : xs.length ≤ 1000000) (hy : ys.length ≤ 1000000) : Con Tryz.prog 82 [v, u] [Sl (eInt .i64) v xs, Sl (eInt .i64) u ys] (γ := Unit) (fun _ => .bool (decide (xs = ys))) (fun _ => True) (fun _ => []) := by
  refine con_of Tryz.func82 rfl (dd rfl) fun w0 O0 => ?_
  refine c_seq ?_
  refine c_region ?_
  refine o_val (v_assign rfl) (dd rfl) ?_
  refine o_nil ?_
  refine c_seq ?_
  refine c_seq ?_
  refine c_region ?_
  refine o_val (v_move rfl) (dd rfl) ?_
  refine o_val ((by first | exact v_len_form Tryz.underlying32 rfl | exact v_len_sl Tryz.underlying32 rfl (hX (by repeat constructor)))) (dd rfl) ?_
  refine o_val (v_move rfl) (dd rfl) ?_
  refine o_val ((by first | exact v_len_form Tryz.underlying32 rfl | exact v_len_sl Tryz.underlying32 rfl (hX (by repeat constructor)))) (dd rfl) ?_
  refine o_val (v_ne rfl rfl) (dd rfl) ?_
  refine o_nil ?_
  refine c_cond_p rfl (fun h => ?_) (fun h => ?_)
  · refine c_seq ?_
    refine c_region ?_
    refine o_val (v_assign rfl) (dd rfl) ?_
    refine o_nil ?_
    refine c_ret1 Tryz.func82 rfl rfl fun w O hS => ?_
    exact ⟨(), by rw [decide_eq_false (fun e => h (by rw [e]))], trivial, trivial⟩
  · refine c_skip ?_
    refine c_seq ?_
    refine c_seq ?_
    refine c_region ?_
    refine o_val (v_move rfl) (dd rfl) ?_
    refine o_val ((by first | exact v_len_form Tryz.underlying32 rfl | exact v_len_sl Tryz.underlying32 rfl (hX (by repeat constructor)))) (dd rfl) ?_
    refine o_val (v_move rfl) (dd rfl) ?_
    refine o_nil ?_
    refine c_block ?_
    refine c_loopR (γ := Nat) [(0, _), (1, _), (4, _), (12, _)] (fun k => xs.length - k) (fun k => k ≤ xs.length ∧ xs.take k = ys.take k) (fun k => [(13, .int .i64 k)]) (fun _ => [Sl (eInt .i64) v xs, Sl (eInt .i64) u ys]) (0) (⟨Nat.zero_le _, rfl⟩) (by repeat (first | exact trivial | refine ⟨rfl, ?_⟩)) (eX (by repeat constructor)) ?_
    rintro k ⟨hk, he⟩ IH
    try dsimp only [List.cons_append, List.nil_append]
    refine c_seq ?_
    refine c_region ?_
    refine o_val (v_lt rfl rfl) (dd rfl) ?_
    refine o_nil ?_
    refine c_seq ?_
    refine c_cond_p rfl (fun hlt => ?_) (fun hlt => ?_)
    · have hkx : k < xs.length := by omega
      have hky : k < ys.length := by omega
      refine c_skip ?_
      refine c_seq ?_
      refine c_block ?_
      refine c_seq ?_
      refine c_region ?_
      refine o_val (v_move rfl) (dd rfl) ?_
      refine o_val (v_assign rfl) (dd rfl) ?_
      refine o_nil ?_
      refine c_seq ?_
      refine c_quiet rfl (by kernel_rfl) ?_
      refine q_val (v_move rfl) (dd rfl) ?_
      refine q_val (v_move rfl) (dd rfl) ?_
      refine q_val ((by first | exact v_indexAddrN Tryz.underlying32 ti3 rfl rfl (hX (by repeat constructor)) (by omega) | exact v_indexAddr Tryz.underlying32 ti3 rfl rfl (hX (by repeat constructor)) (by omega))) (dd rfl) ?_
      refine q_val (v_load_int lone3 rfl (by repeat (first | exact Elem.sl (List.getElem?_eq_getElem (by omega)) | exact Elem.own (List.getElem?_eq_getElem (by omega)) | exact Elem.ownO (List.getElem?_eq_getElem (by omega)) | apply Elem.there))) (dd rfl) ?_
      refine q_val (v_move rfl) (dd rfl) ?_
      refine q_val (v_move rfl) (dd rfl) ?_
      refine q_val ((by first | exact v_indexAddrN Tryz.underlying32 ti3 rfl rfl (hX (by repeat constructor)) (by omega) | exact v_indexAddr Tryz.underlying32 ti3 rfl rfl (hX (by repeat constructor)) (by omega))) (dd rfl) ?_
      refine q_val (v_load_int lone3 rfl (by repeat (first | exact Elem.sl (List.getElem?_eq_getElem (by omega)) | exact Elem.own (List.getElem?_eq_getElem (by omega)) | exact Elem.ownO (List.getElem?_eq_getElem (by omega)) | apply Elem.there))) (dd rfl) ?_
      refine q_val (v_ne rfl rfl) (dd rfl) ?_
      refine q_nil ?_
      refine c_cond_p rfl (fun hne => ?_) (fun hne => ?_)
      · refine c_seq ?_
        refine c_region ?_
        refine o_val (v_assign rfl) (dd rfl) ?_
        refine o_nil ?_
        refine c_ret1 Tryz.func82 rfl rfl fun w O hS => ?_
        exact ⟨(), by rw [decide_eq_false]; intro q; subst q; exact hne rfl, trivial, trivial⟩
      · refine c_skip ?_
        refine c_inBlock ?_
        refine c_region ?_
        refine o_val ((by first | exact v_add64 rfl rfl (by omega) | exact v_add rfl rfl)) (dd rfl) ?_
        refine o_val (v_move rfl) (dd rfl) ?_
        refine o_nil ?_
        refine c_use (IH (k + 1) (by first | omega | (dsimp only; omega)) (⟨by omega, take_next hkx hky he (Classical.not_not.1 hne)⟩)) (by repeat (first | exact trivial | refine ⟨rfl, ?_⟩)) (eX (by repeat constructor))
    · refine c_exit rfl ?_
      refine c_seq ?_
      refine c_region ?_
      refine o_val (v_assign rfl) (dd rfl) ?_
      refine o_nil ?_
      refine c_ret1 Tryz.func82 rfl rfl fun w O hS => ?_
      refine ⟨(), ?_, trivial, trivial⟩
      rw [List.take_of_length_le (by omega), List.take_of_length_le (by omega)] at he
      rw [decide_eq_true he]
/-- Patches that are short enough to be compared. -/
def ShortT (p : Pt9) : Prop := p.2.2.1.length ≤ 1000000 ∧ ShortL p.2.2.2
set_option maxRecDepth 100000 in
theorem sameT_con (p q : Pt9) (dv lv dv' lv' : Value) (hp : ShortT p) (hq : ShortT q) : Con Tryz.prog 40 [.agg #[.int .i64 p.1, .string p.2.1, dv, lv], .agg #[.int .i64 q.1, .string q.2.1, dv', lv']] [Sl (eInt .i64) dv p.2.2.1, Sl ePr lv p.2.2.2, Sl (eInt .i64) dv' q.2.2.1, Sl ePr lv' q.2.2.2] (γ := Unit) (fun _ => .bool (decide (p = q))) (fun _ => True) (fun _ => []) := by
  obtain ⟨k, n, d, l⟩ := p
  obtain ⟨k', n', d', l'⟩ := q
  obtain ⟨hp1, hp2⟩ := hp
  obtain ⟨hq1, hq2⟩ := hq
  dsimp only at hp1 hp2 hq1 hq2 ⊢
  have h1 := eqInts_con dv dv' d d' hp1 hq1
  have h2 := samePrims_con lv lv' l l' hp2 hq2
  refine con_of Tryz.func40 rfl (dd rfl) fun w0 O0 => ?_
  refine c_seq ?_
  refine c_region ?_
  refine o_step (s_box rfl (dd rfl) (fun b2 => ?_))
  refine o_step (s_box rfl (dd rfl) (fun b3 => ?_))
  refine o_val (v_assign rfl) (dd rfl) ?_
  refine o_nil ?_
  refine c_seq ?_
  refine c_region ?_
  refine o_val (v_fieldAddrC 0 Tryz.underlying67 rfl ti3 (by decide) rfl) (dd rfl) ?_
  refine o_val (v_load lone3 rfl (hX (by repeat constructor)) rfl) (dd rfl) ?_
  refine o_val (v_fieldAddrC 0 Tryz.underlying67 rfl ti3 (by decide) rfl) (dd rfl) ?_
  refine o_val (v_load lone3 rfl (hX (by repeat constructor)) rfl) (dd rfl) ?_
  refine o_val (v_eq rfl rfl) (dd rfl) ?_
  refine o_val (v_move rfl) (dd rfl) ?_
  refine o_guard_t rfl rfl (fun g1 => ?_) (fun g1 => ?_)
  · refine o_val (v_fieldAddrC 1 Tryz.underlying67 rfl ti9 (by decide) rfl) (dd rfl) ?_
    refine o_on rfl rfl ?_
    refine o_val (v_load lone9 rfl (hX (by repeat constructor)) rfl) (dd rfl) ?_
    refine o_on rfl rfl ?_
    refine o_val (v_fieldAddrC 1 Tryz.underlying67 rfl ti9 (by decide) rfl) (dd rfl) ?_
    refine o_on rfl rfl ?_
    refine o_val (v_load lone9 rfl (hX (by repeat constructor)) rfl) (dd rfl) ?_
    refine o_on rfl rfl ?_
    refine o_val (v_seq rfl rfl) (dd rfl) ?_
    refine o_val (v_pick_t rfl rfl) (dd rfl) ?_
    refine o_val (v_move rfl) (dd rfl) ?_
    refine o_guard_t rfl rfl (fun g2 => ?_) (fun g2 => ?_)
    · refine o_val (v_fieldAddrC 2 Tryz.underlying67 rfl ti32 (by decide) rfl) (dd rfl) ?_
      refine o_on rfl rfl ?_
      refine o_val (v_load lone32 rfl (hX (by repeat constructor)) rfl) (dd rfl) ?_
      refine o_on rfl rfl ?_
      refine o_val (v_fieldAddrC 2 Tryz.underlying67 rfl ti32 (by decide) rfl) (dd rfl) ?_
      refine o_on rfl rfl ?_
      refine o_val (v_load lone32 rfl (hX (by repeat constructor)) rfl) (dd rfl) ?_
      refine o_on rfl rfl ?_
      refine o_step (s_callf_keep cl82 (h1) rfl (dd rfl) (rX (by repeat constructor)) (fun _ => sX) (fun _ _ => ?_))
      refine o_val (v_pick_t rfl rfl) (dd rfl) ?_
      refine o_val (v_move rfl) (dd rfl) ?_
      refine o_guard rfl rfl (fun g3 => ?_) (fun g3 => ?_)
      · have g3' : d = d' := of_decide_eq_true g3
        refine o_val (v_fieldAddrC 3 Tryz.underlying67 rfl ti62 (by decide) rfl) (dd rfl) ?_
        refine o_on rfl rfl ?_
        refine o_val (v_load lone62 rfl (hX (by repeat constructor)) rfl) (dd rfl) ?_
        refine o_on rfl rfl ?_
        refine o_val (v_fieldAddrC 3 Tryz.underlying67 rfl ti62 (by decide) rfl) (dd rfl) ?_
        refine o_on rfl rfl ?_
        refine o_val (v_load lone62 rfl (hX (by repeat constructor)) rfl) (dd rfl) ?_
        refine o_on rfl rfl ?_
        refine o_step (s_callf_keep cl83 (h2) rfl (dd rfl) (rX (by repeat constructor)) (fun _ => sX) (fun _ _ => ?_))
        refine o_val (v_pick_t rfl rfl) (dd rfl) ?_
        refine o_val (v_assign rfl) (dd rfl) ?_
        refine o_nil ?_
        refine c_ret1 Tryz.func40 rfl rfl fun w O hS => ?_
        subst g1; subst g2; subst g3'
        exact ⟨(), congrArg Value.bool (decide_eq_decide.2 ⟨fun h => by rw [h], fun h => by injection h with _ h; injection h with _ h; injection h with _ h⟩), trivial, trivial⟩
      · have g3' : ¬ d = d' := of_decide_eq_false g3
        refine o_off rfl rfl rfl (dd rfl) ?_
        refine o_off rfl rfl rfl (dd rfl) ?_
        refine o_off rfl rfl rfl (dd rfl) ?_
        refine o_off rfl rfl rfl (dd rfl) ?_
        refine o_off rfl rfl rfl (dd rfl) ?_
        refine o_val (v_pick_f rfl rfl) (dd rfl) ?_
        refine o_val (v_assign rfl) (dd rfl) ?_
        refine o_nil ?_
        refine c_ret1 Tryz.func40 rfl rfl fun w O hS => ?_
        refine ⟨(), ?_, trivial, trivial⟩
        rw [decide_eq_false]
        intro q
        injection q
        simp_all
    · skip
      refine o_off rfl rfl rfl (dd rfl) ?_
      refine o_off rfl rfl rfl (dd rfl) ?_
      refine o_off rfl rfl rfl (dd rfl) ?_
      refine o_off rfl rfl rfl (dd rfl) ?_
      refine o_off rfl rfl rfl (dd rfl) ?_
      refine o_val (v_pick_f rfl rfl) (dd rfl) ?_
      refine o_val (v_move rfl) (dd rfl) ?_
      refine o_off rfl rfl rfl (dd rfl) ?_
      refine o_off rfl rfl rfl (dd rfl) ?_
      refine o_off rfl rfl rfl (dd rfl) ?_
      refine o_off rfl rfl rfl (dd rfl) ?_
      refine o_off rfl rfl rfl (dd rfl) ?_
      refine o_val (v_pick_f rfl rfl) (dd rfl) ?_
      refine o_val (v_assign rfl) (dd rfl) ?_
      refine o_nil ?_
      refine c_ret1 Tryz.func40 rfl rfl fun w O hS => ?_
      refine ⟨(), ?_, trivial, trivial⟩
      rw [decide_eq_false]
      intro q
      injection q
      simp_all
  · skip
    refine o_off rfl rfl rfl (dd rfl) ?_
    refine o_off rfl rfl rfl (dd rfl) ?_
    refine o_off rfl rfl rfl (dd rfl) ?_
    refine o_off rfl rfl rfl (dd rfl) ?_
    refine o_off rfl rfl rfl (dd rfl) ?_
    refine o_val (v_pick_f rfl rfl) (dd rfl) ?_
    refine o_val (v_move rfl) (dd rfl) ?_
    refine o_off rfl rfl rfl (dd rfl) ?_
    refine o_off rfl rfl rfl (dd rfl) ?_
    refine o_off rfl rfl rfl (dd rfl) ?_
    refine o_off rfl rfl rfl (dd rfl) ?_
    refine o_off rfl rfl rfl (dd rfl) ?_
    refine o_val (v_pick_f rfl rfl) (dd rfl) ?_
    refine o_val (v_move rfl) (dd rfl) ?_
    refine o_off rfl rfl rfl (dd rfl) ?_
    refine o_off rfl rfl rfl (dd rfl) ?_
    refine o_off rfl rfl rfl (dd rfl) ?_
    refine o_off rfl rfl rfl (dd rfl) ?_
    refine o_off rfl rfl rfl (dd rfl) ?_
    refine o_val (v_pick_f rfl rfl) (dd rfl) ?_
    refine o_val (v_assign rfl) (dd rfl) ?_
    refine o_nil ?_
    refine c_ret1 Tryz.func40 rfl rfl fun w O hS => ?_
    refine ⟨(), ?_, trivial, trivial⟩
    rw [decide_eq_false]
    intro q
    injection q
    simp_all
set_option maxRecDepth 100000 in
theorem sameTR_con (p q : Pt9) (dv lv dv' lv' : Value) (hp : ShortT p) (hq : ShortT q) : Con Tryz.prog 29 [.agg #[.int .i64 p.1, .string p.2.1, dv, lv], .agg #[.int .i64 q.1, .string q.2.1, dv', lv']] [Sl (eInt .i64) dv p.2.2.1, Sl ePr lv p.2.2.2, Sl (eInt .i64) dv' q.2.2.1, Sl ePr lv' q.2.2.2] (γ := Unit) (fun _ => .bool (decide (p = q))) (fun _ => True) (fun _ => []) := by
  obtain ⟨k, n, d, l⟩ := p
  obtain ⟨k', n', d', l'⟩ := q
  obtain ⟨hp1, hp2⟩ := hp
  obtain ⟨hq1, hq2⟩ := hq
  dsimp only at hp1 hp2 hq1 hq2 ⊢
  have h2 := allR_con lv lv' l l' hp2 hq2
  refine con_of Tryz.func29 rfl (dd rfl) fun w0 O0 => ?_
  refine c_seq ?_
  refine c_region ?_
  refine o_step (s_box rfl (dd rfl) (fun b2 => ?_))
  refine o_step (s_box rfl (dd rfl) (fun b3 => ?_))
  refine o_val (v_assign rfl) (dd rfl) ?_
  refine o_nil ?_
  refine c_seq ?_
  refine c_seq ?_
  refine c_env (env' := [(2, _), (3, _), (4, _)]) (by repeat (first | exact trivial | refine ⟨rfl, ?_⟩)) ?_
  refine c_joinb (d := 26) (decide (k ≠ k' ∨ n ≠ n' ∨ d.length ≠ d'.length)) ?_ ?_
  rotate_left
  · intro J
    refine c_region ?_
    refine o_val (v_fieldAddrC 0 Tryz.underlying34 rfl ti3 (by decide) rfl) (dd rfl) ?_
    refine o_val (v_load lone3 rfl (hX (by repeat constructor)) rfl) (dd rfl) ?_
    refine o_val (v_fieldAddrC 0 Tryz.underlying34 rfl ti3 (by decide) rfl) (dd rfl) ?_
    refine o_val (v_load lone3 rfl (hX (by repeat constructor)) rfl) (dd rfl) ?_
    refine o_val (v_ne rfl rfl) (dd rfl) ?_
    refine o_val (v_move rfl) (dd rfl) ?_
    first | refine o_guard_f rfl rfl (fun g11 => ?_) (fun g11 => ?_) | refine o_guard rfl rfl (fun g11 => ?_) (fun g11 => ?_)
    · refine o_val (v_fieldAddrC 1 Tryz.underlying34 rfl ti9 (by decide) rfl) (dd rfl) ?_
      refine o_on rfl rfl ?_
      refine o_val (v_load lone9 rfl (hX (by repeat constructor)) rfl) (dd rfl) ?_
      refine o_on rfl rfl ?_
      refine o_val (v_fieldAddrC 1 Tryz.underlying34 rfl ti9 (by decide) rfl) (dd rfl) ?_
      refine o_on rfl rfl ?_
      refine o_val (v_load lone9 rfl (hX (by repeat constructor)) rfl) (dd rfl) ?_
      refine o_on rfl rfl ?_
      refine o_val (v_sne rfl rfl) (dd rfl) ?_
      refine o_val (v_pick_f rfl rfl) (dd rfl) ?_
      refine o_val (v_move rfl) (dd rfl) ?_
      first | refine o_guard_f rfl rfl (fun g18 => ?_) (fun g18 => ?_) | refine o_guard rfl rfl (fun g18 => ?_) (fun g18 => ?_)
      · refine o_val (v_fieldAddrC 2 Tryz.underlying34 rfl ti32 (by decide) rfl) (dd rfl) ?_
        refine o_on rfl rfl ?_
        refine o_val (v_load lone32 rfl (hX (by repeat constructor)) rfl) (dd rfl) ?_
        refine o_on rfl rfl ?_
        refine o_val ((by first | exact v_len_form Tryz.underlying32 rfl | exact v_len_sl Tryz.underlying32 rfl (hX (by repeat constructor)))) (dd rfl) ?_
        refine o_on rfl rfl ?_
        refine o_val (v_fieldAddrC 2 Tryz.underlying34 rfl ti32 (by decide) rfl) (dd rfl) ?_
        refine o_on rfl rfl ?_
        refine o_val (v_load lone32 rfl (hX (by repeat constructor)) rfl) (dd rfl) ?_
        refine o_on rfl rfl ?_
        refine o_val ((by first | exact v_len_form Tryz.underlying32 rfl | exact v_len_sl Tryz.underlying32 rfl (hX (by repeat constructor)))) (dd rfl) ?_
        refine o_on rfl rfl ?_
        refine o_val (v_ne rfl rfl) (dd rfl) ?_
        refine o_val (v_pick_f rfl rfl) (dd rfl) ?_
        refine o_nil ?_
        exact c_use J ⟨Env.as rfl (congrArg Value.bool (by first | rfl | (simp_all; done) | (simp_all; omega) | (simp; omega))), (by repeat (first | exact trivial | refine ⟨rfl, ?_⟩))⟩ (by first | exact Ent.refl _ | exact eX (by repeat constructor))
      · refine o_off rfl rfl rfl (dd rfl) ?_
        refine o_off rfl rfl rfl (dd rfl) ?_
        refine o_off rfl rfl rfl (dd rfl) ?_
        refine o_off rfl rfl rfl (dd rfl) ?_
        refine o_off rfl rfl rfl (dd rfl) ?_
        refine o_off rfl rfl rfl (dd rfl) ?_
        refine o_off rfl rfl rfl (dd rfl) ?_
        refine o_val (v_pick_t rfl rfl) (dd rfl) ?_
        refine o_nil ?_
        exact c_use J ⟨Env.as rfl (congrArg Value.bool (by first | rfl | (simp_all; done) | (simp_all; omega) | (simp; omega))), (by repeat (first | exact trivial | refine ⟨rfl, ?_⟩))⟩ (by first | exact Ent.refl _ | exact eX (by repeat constructor))
    · refine o_off rfl rfl rfl (dd rfl) ?_
      refine o_off rfl rfl rfl (dd rfl) ?_
      refine o_off rfl rfl rfl (dd rfl) ?_
      refine o_off rfl rfl rfl (dd rfl) ?_
      refine o_off rfl rfl rfl (dd rfl) ?_
      refine o_val (v_pick_t rfl rfl) (dd rfl) ?_
      refine o_val (v_move rfl) (dd rfl) ?_
      refine o_off rfl rfl rfl (dd rfl) ?_
      refine o_off rfl rfl rfl (dd rfl) ?_
      refine o_off rfl rfl rfl (dd rfl) ?_
      refine o_off rfl rfl rfl (dd rfl) ?_
      refine o_off rfl rfl rfl (dd rfl) ?_
      refine o_off rfl rfl rfl (dd rfl) ?_
      refine o_off rfl rfl rfl (dd rfl) ?_
      refine o_val (v_pick_t rfl rfl) (dd rfl) ?_
      refine o_nil ?_
      exact c_use J ⟨Env.as rfl (congrArg Value.bool (by first | rfl | (simp_all; done) | (simp_all; omega) | (simp; omega))), (by repeat (first | exact trivial | refine ⟨rfl, ?_⟩))⟩ (by first | exact Ent.refl _ | exact eX (by repeat constructor))
  refine c_cond_p rfl (fun hb => ?_) (fun hb => ?_)
  · have hne : ¬ ((k, n, d, l) = (k', n', d', l')) := fun q => by
      cases q
      rcases hb with h | h | h <;> exact h rfl
    refine c_seq ?_
    refine c_region ?_
    refine o_val (v_assign rfl) (dd rfl) ?_
    refine o_nil ?_
    refine c_ret1 Tryz.func29 rfl rfl fun w O hS => ?_
    exact ⟨(), by rw [decide_eq_false hne], trivial, trivial⟩
  · have e1 : k = k' := Classical.byContradiction fun h => hb (.inl h)
    have e2 : n = n' := Classical.byContradiction fun h => hb (.inr (.inl h))
    have e3 : d.length = d'.length := by omega
    subst e1; subst e2
    refine c_skip ?_
    refine c_seq ?_
    refine c_seq ?_
    refine c_region ?_
    refine o_val (v_assign rfl) (dd rfl) ?_
    refine o_nil ?_
    refine c_block ?_
    refine c_loopR (γ := Nat) [(2, _), (3, _), (4, _)] (fun j => d.length - j) (fun j => j ≤ d.length ∧ d.take j = d'.take j) (fun j => [(5, .int .i64 j)]) (fun _ => [Blk b2 34 [.int .i64 k, .string n, dv, lv], Blk b3 34 [.int .i64 k, .string n, dv', lv'], Sl (eInt .i64) dv d, Sl (eInt .i64) dv' d', Sl ePr lv l, Sl ePr lv' l']) (0) (⟨Nat.zero_le _, rfl⟩) (by repeat (first | exact trivial | refine ⟨rfl, ?_⟩)) (eX (by repeat constructor)) ?_
    rintro j ⟨hj, he⟩ IH
    try dsimp only [List.cons_append, List.nil_append]
    refine c_seq ?_
    refine c_seq ?_
    refine c_region ?_
    refine o_val (v_move rfl) (dd rfl) ?_
    refine o_val (v_fieldAddrC 2 Tryz.underlying34 rfl ti32 (by decide) rfl) (dd rfl) ?_
    refine o_val (v_load lone32 rfl (hX (by repeat constructor)) rfl) (dd rfl) ?_
    refine o_val ((by first | exact v_len_form Tryz.underlying32 rfl | exact v_len_sl Tryz.underlying32 rfl (hX (by repeat constructor)))) (dd rfl) ?_
    refine o_val (v_lt rfl rfl) (dd rfl) ?_
    refine o_nil ?_
    refine c_cond_p rfl (fun hlt => ?_) (fun hlt => ?_)
    · have hkx : j < d.length := by omega
      have hky : j < d'.length := by omega
      refine c_skip ?_
      refine c_seq ?_
      refine c_block ?_
      refine c_seq ?_
      refine c_quiet rfl (by kernel_rfl) ?_
      refine q_val (v_fieldAddrC 2 Tryz.underlying34 rfl ti32 (by decide) rfl) (dd rfl) ?_
      refine q_val (v_load lone32 rfl (hX (by repeat constructor)) rfl) (dd rfl) ?_
      refine q_val (v_move rfl) (dd rfl) ?_
      refine q_val ((by first | exact v_indexAddrN Tryz.underlying32 ti3 rfl rfl (hX (by repeat constructor)) (by omega) | exact v_indexAddr Tryz.underlying32 ti3 rfl rfl (hX (by repeat constructor)) (by omega))) (dd rfl) ?_
      refine q_val (v_load_int lone3 rfl (by repeat (first | exact Elem.sl (List.getElem?_eq_getElem (by omega)) | exact Elem.own (List.getElem?_eq_getElem (by omega)) | exact Elem.ownO (List.getElem?_eq_getElem (by omega)) | apply Elem.there))) (dd rfl) ?_
      refine q_val (v_fieldAddrC 2 Tryz.underlying34 rfl ti32 (by decide) rfl) (dd rfl) ?_
      refine q_val (v_load lone32 rfl (hX (by repeat constructor)) rfl) (dd rfl) ?_
      refine q_val (v_move rfl) (dd rfl) ?_
      refine q_val ((by first | exact v_indexAddrN Tryz.underlying32 ti3 rfl rfl (hX (by repeat constructor)) (by omega) | exact v_indexAddr Tryz.underlying32 ti3 rfl rfl (hX (by repeat constructor)) (by omega))) (dd rfl) ?_
      refine q_val (v_load_int lone3 rfl (by repeat (first | exact Elem.sl (List.getElem?_eq_getElem (by omega)) | exact Elem.own (List.getElem?_eq_getElem (by omega)) | exact Elem.ownO (List.getElem?_eq_getElem (by omega)) | apply Elem.there))) (dd rfl) ?_
      refine q_val (v_ne rfl rfl) (dd rfl) ?_
      refine q_nil ?_
      refine c_cond_p rfl (fun hne => ?_) (fun hne => ?_)
      · refine c_seq ?_
        refine c_region ?_
        refine o_val (v_assign rfl) (dd rfl) ?_
        refine o_nil ?_
        refine c_ret1 Tryz.func29 rfl rfl fun w O hS => ?_
        exact ⟨(), by rw [decide_eq_false]; intro q; cases q; exact hne rfl, trivial, trivial⟩
      · refine c_skip ?_
        refine c_inBlock ?_
        refine c_region ?_
        refine o_val (v_move rfl) (dd rfl) ?_
        refine o_val ((by first | exact v_add64 rfl rfl (by omega) | exact v_add rfl rfl)) (dd rfl) ?_
        refine o_val (v_assign rfl) (dd rfl) ?_
        refine o_nil ?_
        refine c_use (IH (j + 1) (by first | omega | (dsimp only; omega)) (⟨by omega, take_next hkx hky he (Classical.not_not.1 hne)⟩)) (by repeat (first | exact trivial | refine ⟨rfl, ?_⟩)) (eX (by repeat constructor))
    · have ed : d = d' := by rwa [List.take_of_length_le (by omega), List.take_of_length_le (by omega)] at he
      subst ed
      refine c_exit rfl ?_
      refine c_seq ?_
      refine c_region ?_
      refine o_val (v_fieldAddrC 3 Tryz.underlying34 rfl ti31 (by decide) rfl) (dd rfl) ?_
      refine o_val (v_load lone31 rfl (hX (by repeat constructor)) rfl) (dd rfl) ?_
      refine o_val (v_fieldAddrC 3 Tryz.underlying34 rfl ti31 (by decide) rfl) (dd rfl) ?_
      refine o_val (v_load lone31 rfl (hX (by repeat constructor)) rfl) (dd rfl) ?_
      refine o_step (s_callf cl26 (h2) rfl (dd rfl) (pXs (by repeat constructor)) fun _ _ => ?_)
      refine o_val (v_assign rfl) (dd rfl) ?_
      refine o_nil ?_
      refine c_ret1 Tryz.func29 rfl rfl fun w O hS => ?_
      exact ⟨(), congrArg Value.bool (decide_eq_decide.2 ⟨fun h => by rw [h], fun h => by injection h with _ h; injection h with _ h; injection h with _ h⟩), trivial, trivial⟩
end Go.Proofs.YtmgkeippepeggaaGreatDoor
/- Chapter 09: what is read is short; a reading, of each kind. -/
namespace Go.Proofs.YtmgkeippepeggaaGreatDoor
open Go Go.Lib
theorem some_short {α : Type} {take : St9 → St9 × α} (h : ∀ s s' x, take s = (s', x) → s'.2 = false → s'.1.length < s.1.length) {most : Int} {s : St9} : (takeSome take most s).2.length ≤ s.1.length := by
  unfold takeSome
  split
  · exact Nat.zero_le _
  · rename_i h1
    split
    · exact Nat.zero_le _
    · rename_i h2
      have hb : (takeMany take (takeNum s).2.toNat (takeNum s).1 []).1.2 = false := by
        cases q : (takeMany take (takeNum s).2.toNat (takeNum s).1 []).1.2 with
        | false => rfl
        | true => exact absurd q h2
      have h3 := takeMany_short h (takeNum s).2.toNat (takeNum s).1 [] hb
      have h4 := many_len (take := take) (takeNum s).2.toNat (takeNum s).1 []
      have h5 := goes_len goes_num s
      simp only [List.length_nil] at h4
      omega
theorem less_text (m : Int) : ∀ s s' x, takeText m s = (s', x) → s'.2 = false → s'.1.length < s.1.length := fun _ _ _ e hb => takeText_less e hb
theorem prim_short {s : St9} (h : s.1.length ≤ big9) : (takePrim s).2.2.2.2.2.1.length ≤ 1000000 ∧ (takePrim s).2.2.2.2.2.2.length ≤ 1000000 := ⟨(prim_ok h).2.2.1.1, (prim_ok h).2.2.2.1⟩
theorem prims_short {m : Int} {s : St9} (h : s.1.length ≤ big9) : ShortL (takePrims m s).2 :=
  ⟨Nat.le_trans (some_short (take := takePrim) fun _ _ _ e hb => takePrim_less e hb) h, fun p hp => some_ok (most := m) (ok := fun p : Pr9 => p.2.2.2.2.1.length ≤ 1000000 ∧ p.2.2.2.2.2.length ≤ 1000000) goes_prim (fun s hs => prim_short hs) h p hp⟩
theorem patch_size {s : St9} (h : s.1.length ≤ big9) : SizeT (takePatch s).2 := by
  unfold takePatch
  split
  · exact ⟨Nat.zero_le _, Nat.zero_le _, Nat.zero_le _, fun _ h => by cases h⟩
  · exact rawT_ok h
theorem patch_short {s : St9} (h : s.1.length ≤ big9) : ShortT (takePatch s).2 := by
  obtain ⟨_, h1, h2, h3⟩ := patch_size h
  exact ⟨h1, h2, fun p hp => ⟨(h3 p hp).2.2.1.1, (h3 p hp).2.2.2.1⟩⟩
/-- What is read next, and how much it may be. -/
abbrev Ask9 := Int × Int × Int
def stepR (a : Ask9) (s : St9) : St9 :=
  if a.1 = 0 then (takeNum s).1 else if a.1 = 1 then (takeFlag s).1 else if a.1 = 2 then (takeText a.2.1 s).1 else if a.1 = 3 then (takeTexts a.2.1 a.2.2 s).1
  else if a.1 = 4 then (takePrim s).1 else if a.1 = 5 then (takePrims a.2.1 s).1 else if a.1 = 6 then (takePatch s).1 else s
theorem stepR_ends {B : ByteArray} {s : St9} (a : Ask9) (h : EndsB B s) : EndsB B (stepR a s) := by
  unfold stepR
  split
  · exact h.goes goes_num
  · split
    · exact h.goes goes_flag
    · split
      · exact h.goes (goes_text _)
      · split
        · exact h.goes (goes_some (goes_text _) _)
        · split
          · exact h.goes goes_prim
          · split
            · exact h.goes (goes_some goes_prim _)
            · split
              · exact h.goes goes_patch
              · exact h
end Go.Proofs.YtmgkeippepeggaaGreatDoor
/- Chapter 09: the document's readers: patches. -/
namespace Go.Proofs.YtmgkeippepeggaaGreatDoor
open Go Go.SL Go.Lib
theorem num_bad {s : St9} (h : s.2 = true) : (takeNum s).1.2 = true := by
  unfold takeNum num9
  rw [if_pos h]; rfl
theorem prims_bad {m : Int} {s : St9} (h : s.2 = true) : (takePrims m s).1.2 = true := by
  unfold takePrims takeSome
  rw [if_pos (.inl (num_bad h))]; rfl
/-- How far the numbers are read that the document reads on and on. -/
def OnP (n : Nat) (s0 : St9) (k : Nat) (sk : St9) (out : List Int) : Prop := (sk.2 = false → takeMany takeNum (n - k) sk out = takeMany takeNum n s0 []) ∧ (sk.2 = true → (takeMany takeNum n s0 []).1.2 = true)
theorem onP_next {n k : Nat} {s0 sk : St9} {out : List Int} (hk : k < n) (h : OnP n s0 k sk out) : OnP n s0 (k + 1) (takeNum sk).1 (out ++ [(takeNum sk).2]) := by
  cases hs : sk.2 with
  | true => exact ⟨fun g => (by rw [num_bad hs] at g; cases g), fun _ => h.2 hs⟩
  | false =>
    have h1 := takeMany_step takeNum (out := out) hk hs
    rw [h.1 hs] at h1
    exact ⟨fun _ => h1.symm, fun g => by rw [h1, takeMany_bad takeNum _ _ _ g]; exact g⟩
theorem onP_end {n k : Nat} {s0 sk : St9} {out : List Int} (hk : n ≤ k) (h : OnP n s0 k sk out) : (takeMany takeNum n s0 []).1.2 = sk.2 ∧ (sk.2 = false → takeMany takeNum n s0 [] = (sk, out)) := by
  cases hs : sk.2 with
  | true => exact ⟨h.2 hs, fun g => by cases g⟩
  | false => 
    have h1 := h.1 hs
    rw [takeMany_end takeNum hk] at h1
    exact ⟨by rw [← h1]; exact hs, fun _ => h1.symm⟩
attribute [local irreducible] Cfg Kont StepK Val Con Qops Any Sl Own Blk BlkR Rd Pu ExA AllA Has Pick Ent Elem Beside Callable TI Lone OwnO AndA
set_option maxRecDepth 100000 in
theorem takePatchRef_con (B : ByteArray) (s : St9) (hB : B.size ≤ big9) (h : EndsB B s) : Con Tryz.prog 65 [inS B s] [] (γ := Value × Value)
    (fun g => .tuple #[inS B (takePatch s).1, .agg #[.int .i64 (takePatch s).2.1, .string (takePatch s).2.2.1, g.1, g.2]]) (fun _ => True) (fun g => [Sl (eInt .i64) g.1 (takePatch s).2.2.2.1, Sl ePr g.2 (takePatch s).2.2.2.2]) := by
  have hB' : B.size ≤ 4611686018427387904 := by unfold big9 at hB; omega
  have hlen : ∀ {s : St9}, EndsB B s → s.1.length ≤ big9 := fun h => by have := h.at.2.2; unfold big9 at *; omega
  have hS := spoilRef_con B s
  obtain ⟨s1, id, h1⟩ : ∃ s1 id, takeNum s = (s1, id) := ⟨_, _, rfl⟩
  have c1 := takeNumRef_con B s hB' h
  have e1 := h.goes goes_num
  rw [h1] at c1 e1
  obtain ⟨s2, t, h2⟩ : ∃ s2 t, takeText 60 s1 = (s2, t) := ⟨_, _, rfl⟩
  have c2 := takeTextRef_con B s1 60 hB' e1
  have e2 := e1.goes (goes_text 60)
  have ht : t.size ≤ big9 := by have := text_ok (most := 60) (hlen e1); rw [h2] at this; exact this
  rw [h2] at c2 e2
  obtain ⟨s3, m, h3⟩ : ∃ s3 m, takeNum s2 = (s3, m) := ⟨_, _, rfl⟩
  have c3 := takeNumRef_con B s2 hB' e2
  have e3 := e2.goes goes_num
  rw [h3] at c3 e3
  have hsome : takeSome takeNum 8 s2 = if s3.2 = true ∨ m < 0 ∨ 8 < m then (spoil9 s2, []) else if (takeMany takeNum m.toNat s3 []).1.2 = true then (spoil9 s2, []) else takeMany takeNum m.toNat s3 [] := by
    unfold takeSome; rw [h3]
  have hbadT : ∀ c : St9 × List Int, c.1.2 = true → takeSome takeNum 8 s2 = c → takePatch s = (spoil9 s, pt0) := fun c hc e => by
    have hr : (rawPatch s).1.2 = true := by
      unfold rawPatch
      simp only [h1, h2, e]
      exact prims_bad hc
    unfold takePatch
    rw [if_pos (.inl hr)]
  unfold inS inV at *
  dsimp only at c1 c2 c3
  refine con_of Tryz.func65 rfl (dd rfl) fun w0 O0 => ?_
  refine c_seq ?_
  refine c_region ?_
  refine o_step (s_box rfl (dd rfl) (fun b1 => ?_))
  refine o_step (s_alloc ti48 (dd rfl) (fun b2 => ?_))
  refine o_step (s_alloc ti34 (dd rfl) (fun b3 => ?_))
  refine o_nil ?_
  refine c_seq ?_
  refine c_region ?_
  refine o_val (v_buildS (places := [(0, 1), (1, 1), (2, 1), (3, 1)]) (cells := [.int .i64 0, .string ⟨#[]⟩, .slice none 0 0, .slice none 0 0]) Tryz.underlying34 ti34 (by kernel_rfl) rfl (by repeat (first | exact PartsC.nil | (apply PartsC.one (by first | exact OneC.lit rfl | exact OneC.sl (hX (by repeat constructor)) )) | (apply PartsC.lit rfl))) rfl) (dd rfl) ?_
  refine o_step (s_alloc ti34 (dd rfl) (fun b4 => ?_))
  refine o_step (s_store_all ti34 rfl rfl (by first | exact CellsV.lit rfl | exact CellsV.one (by first | exact OneC.lit rfl | exact OneC.sl (hX (by repeat constructor)) )) (by repeat (first | exact OneAll.nil | (refine OneAll.cons ?_ ?_; · first | exact OneC.lit rfl | exact OneC.sl (hX (by repeat constructor)) ) | exact OneAll.rd (hX (by repeat constructor)))) rfl (pB (by repeat constructor)) rfl (?_))
  refine o_nil ?_
  refine c_seq ?_
  refine c_region ?_
  refine o_val (v_load_all ⟨_, Tryz.underlying48⟩ ti48 rfl (hX (by repeat constructor)) rfl) (dd rfl) ?_
  refine o_step (s_callf cl59 (c1) rfl (dd rfl) (pXs (by repeat constructor)) fun _ _ => ?_)
  refine o_val (v_move rfl) (dd rfl) ?_
  refine o_val (v_extract rfl rfl) (dd rfl) ?_
  refine o_val (v_extract rfl rfl) (dd rfl) ?_
  refine o_step (s_alloc ti48 (dd rfl) (fun b5 => ?_))
  refine o_step (s_store_all ti48 rfl rfl (by first | exact CellsV.lit rfl | exact CellsV.one (by first | exact OneC.lit rfl | exact OneC.sl (hX (by repeat constructor)) )) (by repeat (first | exact OneAll.nil | (refine OneAll.cons ?_ ?_; · first | exact OneC.lit rfl | exact OneC.sl (hX (by repeat constructor)) ) | exact OneAll.rd (hX (by repeat constructor)))) rfl (pB (by repeat constructor)) rfl (?_))
  refine o_val (v_assign rfl) (dd rfl) ?_
  refine o_nil ?_
  refine c_seq ?_
  refine c_region ?_
  refine o_val (v_load_all ⟨_, Tryz.underlying48⟩ ti48 rfl (hX (by repeat constructor)) rfl) (dd rfl) ?_
  refine o_step (s_callf cl61 (c2) rfl (dd rfl) (pXs (by repeat constructor)) fun _ _ => ?_)
  refine o_val (v_move rfl) (dd rfl) ?_
  refine o_val (v_extract rfl rfl) (dd rfl) ?_
  refine o_val (v_extract rfl rfl) (dd rfl) ?_
  refine o_step (s_store_all ti48 rfl rfl (by first | exact CellsV.lit rfl | exact CellsV.one (by first | exact OneC.lit rfl | exact OneC.sl (hX (by repeat constructor)) )) (by repeat (first | exact OneAll.nil | (refine OneAll.cons ?_ ?_; · first | exact OneC.lit rfl | exact OneC.sl (hX (by repeat constructor)) ) | exact OneAll.rd (hX (by repeat constructor)))) rfl (pB (by repeat constructor)) rfl (?_))
  refine o_val (v_assign rfl) (dd rfl) ?_
  refine o_nil ?_
  refine c_seq ?_
  refine c_region ?_
  refine o_val (v_load_all ⟨_, Tryz.underlying48⟩ ti48 rfl (hX (by repeat constructor)) rfl) (dd rfl) ?_
  refine o_step (s_callf cl59 (c3) rfl (dd rfl) (pXs (by repeat constructor)) fun _ _ => ?_)
  refine o_val (v_move rfl) (dd rfl) ?_
  refine o_val (v_extract rfl rfl) (dd rfl) ?_
  refine o_val (v_extract rfl rfl) (dd rfl) ?_
  refine o_step (s_store_all ti48 rfl rfl (by first | exact CellsV.lit rfl | exact CellsV.one (by first | exact OneC.lit rfl | exact OneC.sl (hX (by repeat constructor)) )) (by repeat (first | exact OneAll.nil | (refine OneAll.cons ?_ ?_; · first | exact OneC.lit rfl | exact OneC.sl (hX (by repeat constructor)) ) | exact OneAll.rd (hX (by repeat constructor)))) rfl (pB (by repeat constructor)) rfl (?_))
  refine o_val (v_assign rfl) (dd rfl) ?_
  refine o_nil ?_
  refine c_seq ?_
  refine c_seq ?_
  refine c_env (env' := [(1, _), (2, _), (3, _), (4, _), (5, _), (6, _), (7, _), (8, _)]) (by repeat (first | exact trivial | refine ⟨rfl, ?_⟩)) ?_
  refine c_joinb (d := 40) (decide (s3.2 = true ∨ m < 0 ∨ 8 < m)) ?_ ?_
  rotate_left
  · intro J
    refine c_region ?_
    refine o_val (v_fieldAddrC 2 Tryz.underlying48 rfl ti4 (by decide) rfl) (dd rfl) ?_
    refine o_val (v_load lone4 rfl (hX (by repeat constructor)) rfl) (dd rfl) ?_
    refine o_val (v_move rfl) (dd rfl) ?_
    first | refine o_guard_f rfl rfl (fun g33 => ?_) (fun g33 => ?_) | refine o_guard rfl rfl (fun g33 => ?_) (fun g33 => ?_)
    · refine o_val (v_move rfl) (dd rfl) ?_
      refine o_on rfl rfl ?_
      refine o_val (v_lt rfl rfl) (dd rfl) ?_
      refine o_val (v_pick_f rfl rfl) (dd rfl) ?_
      refine o_val (v_move rfl) (dd rfl) ?_
      first | refine o_guard_f rfl rfl (fun g37 => ?_) (fun g37 => ?_) | refine o_guard rfl rfl (fun g37 => ?_) (fun g37 => ?_)
      · refine o_val (v_move rfl) (dd rfl) ?_
        refine o_on rfl rfl ?_
        refine o_val (v_gt rfl rfl) (dd rfl) ?_
        refine o_val (v_pick_f rfl rfl) (dd rfl) ?_
        refine o_nil ?_
        exact c_use J ⟨Env.as rfl (congrArg Value.bool (by first | rfl | (simp_all; done) | (simp_all; omega) | (simp; omega))), (by repeat (first | exact trivial | refine ⟨rfl, ?_⟩))⟩ (by first | exact Ent.refl _ | exact eX (by repeat constructor))
      · refine o_off rfl rfl rfl (dd rfl) ?_
        refine o_off rfl rfl rfl (dd rfl) ?_
        refine o_val (v_pick_t rfl rfl) (dd rfl) ?_
        refine o_nil ?_
        exact c_use J ⟨Env.as rfl (congrArg Value.bool (by first | rfl | (simp_all; done) | (simp_all; omega) | (simp; omega))), (by repeat (first | exact trivial | refine ⟨rfl, ?_⟩))⟩ (by first | exact Ent.refl _ | exact eX (by repeat constructor))
    · refine o_off rfl rfl rfl (dd rfl) ?_
      refine o_off rfl rfl rfl (dd rfl) ?_
      refine o_val (v_pick_t rfl rfl) (dd rfl) ?_
      refine o_val (v_move rfl) (dd rfl) ?_
      refine o_off rfl rfl rfl (dd rfl) ?_
      refine o_off rfl rfl rfl (dd rfl) ?_
      refine o_val (v_pick_t rfl rfl) (dd rfl) ?_
      refine o_nil ?_
      exact c_use J ⟨Env.as rfl (congrArg Value.bool (by first | rfl | (simp_all; done) | (simp_all; omega) | (simp; omega))), (by repeat (first | exact trivial | refine ⟨rfl, ?_⟩))⟩ (by first | exact Ent.refl _ | exact eX (by repeat constructor))
  refine c_cond_p rfl (fun hq => ?_) (fun hq => ?_)
  · have hR := hbadT (spoil9 s2, []) rfl (by rw [hsome, if_pos hq])
    rw [hR]
    refine c_seq ?_
    refine c_held [BlkR b1 48 [.string B, .int .i64 (plc B s), .bool s.2], BlkR b4 34 [.int .i64 0, .string ⟨#[]⟩, .slice none 0 0, .slice none 0 0]] rfl ?_
    refine a_take 0 rfl (by kernel_rfl) (by kernel_rfl) (by kernel_rfl) (v_load_all ⟨_, Tryz.underlying48⟩ ti48 rfl (hX (by repeat constructor)) rfl) (eX (by repeat constructor)) (dd rfl) ?_
    refine a_take 2 rfl (by kernel_rfl) (by kernel_rfl) (by kernel_rfl) (v_load_all ⟨_, Tryz.underlying34⟩ ti34 rfl (hX (by repeat constructor)) rfl) (eX (by repeat constructor)) (dd rfl) ?_
    refine a_one 1 rfl (by kernel_rfl) (s_callf_keep cl92 (hS) rfl (dd rfl) (rX (by repeat constructor)) (fun _ => sX) (fun _ _ => a_on (eX (by repeat constructor)) ?_))
    refine a_one 3 rfl (by kernel_rfl) (s_store_all ti48 rfl rfl (by first | exact CellsV.lit rfl | exact CellsV.one (by first | exact OneC.lit rfl | exact OneC.sl (hX (by repeat constructor)) )) (by repeat (first | exact OneAll.nil | (refine OneAll.cons ?_ ?_; · first | exact OneC.lit rfl | exact OneC.sl (hX (by repeat constructor)) ) | exact OneAll.rd (hX (by repeat constructor)))) rfl (pB (by repeat constructor)) rfl (a_on (eX (by repeat constructor)) ?_))
    refine a_one 4 rfl (by kernel_rfl) (s_store_all ti34 rfl rfl (by first | exact CellsV.lit rfl | exact CellsV.one (by first | exact OneC.lit rfl | exact OneC.sl (hX (by repeat constructor)) )) (by repeat (first | exact OneAll.nil | (refine OneAll.cons ?_ ?_; · first | exact OneC.lit rfl | exact OneC.sl (hX (by repeat constructor)) ) | exact OneAll.rd (hX (by repeat constructor)))) rfl (pB (by repeat constructor)) rfl (a_on (eX (by repeat constructor)) ?_))
    refine a_done (by kernel_rfl) ?_ _
    refine c_ret_cc Tryz.func65 rfl ⟨_, Tryz.underlying48⟩ ti48 ⟨_, Tryz.underlying34⟩ ti34 rfl rfl (hX (by repeat constructor)) (hX (by repeat constructor)) fun w O hS => ?_
    exact ⟨(.slice none 0 0, .slice none 0 0), rfl, trivial, Ent.get hS (eX (by repeat constructor))⟩
  · have hm : 0 ≤ m ∧ m ≤ 8 := by omega
    have hb3 : s3.2 = false := by cases e : s3.2 with | false => rfl | true => exact absurd (.inl e) hq
    refine c_skip ?_
    refine c_seq ?_
    refine c_region ?_
    refine o_val (v_assign rfl) (dd rfl) ?_
    refine o_nil ?_
    refine c_seq ?_
    refine c_seq ?_
    refine c_region ?_
    refine o_val (v_assign rfl) (dd rfl) ?_
    refine o_nil ?_
    refine c_block ?_
    refine c_loopR (γ := Nat × St9 × List Int × Value) [(1, _), (2, _), (3, _), (4, _), (5, _), (6, _), (7, _), (8, _)] (fun g => m.toNat - g.1) (fun g => g.1 ≤ m.toNat ∧ EndsB B g.2.1 ∧ g.2.2.1.length = g.1 ∧ OnP m.toNat s3 g.1 g.2.1 g.2.2.1) (fun g => [(10, .int .i64 g.1), (9, g.2.2.2)]) (fun g => [Blk b1 48 [.string B, .int .i64 (plc B s), .bool s.2], Blk b2 48 [.string ⟨#[]⟩, .int .i64 0, .bool false], Blk b3 34 [.int .i64 0, .string ⟨#[]⟩, .slice none 0 0, .slice none 0 0], Blk b4 34 [.int .i64 0, .string ⟨#[]⟩, .slice none 0 0, .slice none 0 0], Blk b5 48 [.string B, .int .i64 (plc B g.2.1), .bool g.2.1.2], Own (eInt .i64) 3 g.2.2.2 g.2.2.1]) ((0, s3, [], .slice none 0 0)) (⟨Nat.zero_le _, e3, rfl, fun _ => rfl, fun g => by rw [hb3] at g; cases g⟩) (by repeat (first | exact trivial | refine ⟨rfl, ?_⟩)) (eX (by repeat constructor)) ?_
    rintro ⟨k, sk, out, v⟩ ⟨hk, hEk, hlk, hOn⟩ IH
    dsimp only at hk hEk hlk hOn ⊢
    have hTT := takeNumRef_con B sk hB' hEk
    unfold inS inV at hTT
    try dsimp only [List.cons_append, List.nil_append]
    refine c_seq ?_
    refine c_seq ?_
    refine c_region ?_
    refine o_val (v_move rfl) (dd rfl) ?_
    refine o_val (v_move rfl) (dd rfl) ?_
    refine o_val (v_lt rfl rfl) (dd rfl) ?_
    refine o_nil ?_
    refine c_cond_p rfl (fun hlt => ?_) (fun hlt => ?_)
    · refine c_skip ?_
      refine c_seq ?_
      refine c_block ?_
      refine c_seq ?_
      refine c_region ?_
      refine o_val (v_load_all ⟨_, Tryz.underlying48⟩ ti48 rfl (hX (by repeat constructor)) rfl) (dd rfl) ?_
      refine o_step (s_callf cl59 (hTT) rfl (dd rfl) (pXs (by repeat constructor)) fun _ _ => ?_)
      refine o_val (v_move rfl) (dd rfl) ?_
      refine o_val (v_extract rfl rfl) (dd rfl) ?_
      refine o_val (v_extract rfl rfl) (dd rfl) ?_
      refine o_step (s_alloc ti48 (dd rfl) (fun b11 => ?_))
      refine o_step (s_store_all ti48 rfl rfl (by first | exact CellsV.lit rfl | exact CellsV.one (by first | exact OneC.lit rfl | exact OneC.sl (hX (by repeat constructor)) )) (by repeat (first | exact OneAll.nil | (refine OneAll.cons ?_ ?_; · first | exact OneC.lit rfl | exact OneC.sl (hX (by repeat constructor)) ) | exact OneAll.rd (hX (by repeat constructor)))) rfl (pB (by repeat constructor)) rfl (?_))
      refine o_val (v_assign rfl) (dd rfl) ?_
      refine o_nil ?_
      refine c_seq ?_
      refine c_region ?_
      refine o_val (v_load_all ⟨_, Tryz.underlying48⟩ ti48 rfl (hX (by repeat constructor)) rfl) (dd rfl) ?_
      refine o_step (s_store_all ti48 rfl rfl (by first | exact CellsV.lit rfl | exact CellsV.one (by first | exact OneC.lit rfl | exact OneC.sl (hX (by repeat constructor)) )) (by repeat (first | exact OneAll.nil | (refine OneAll.cons ?_ ?_; · first | exact OneC.lit rfl | exact OneC.sl (hX (by repeat constructor)) ) | exact OneAll.rd (hX (by repeat constructor)))) rfl (pB (by repeat constructor)) rfl (?_))
      refine o_nil ?_
      refine c_region ?_
      refine o_val (v_move rfl) (dd rfl) ?_
      refine o_val (v_move rfl) (dd rfl) ?_
      refine o_step (s_buildSlice Tryz.underlying32 ti3 rfl rfl rfl (by decide) (by decide) (beside_int .i64 [(takeNum sk).2]) rfl rfl (dd rfl) fun v1 => ?_)
      refine o_step (s_append Tryz.underlying32 ti3 rfl (by decide) rfl rfl (dd rfl) (pB (by repeat constructor)) (pX (by repeat constructor)) rfl (by (first | omega | (simp only [maxLen, List.length_append, List.length_drop, List.length_take, List.length_nil, List.length_cons]; omega))) (by (first | omega | (simp only [maxLen, List.length_append, List.length_drop, List.length_take, List.length_nil, List.length_cons]; omega))) fun v2 => ?_)
      refine o_val (v_assign rfl) (dd rfl) ?_
      refine o_nil ?_
      refine c_inBlock ?_
      refine c_region ?_
      refine o_val (v_move rfl) (dd rfl) ?_
      refine o_val ((by first | exact v_add64 rfl rfl (by omega) | exact v_add rfl rfl)) (dd rfl) ?_
      refine o_val (v_assign rfl) (dd rfl) ?_
      refine o_nil ?_
      refine c_use (IH ((k + 1, (takeNum sk).1, out ++ [(takeNum sk).2], v2)) (by first | omega | (dsimp only; omega)) (⟨by dsimp only; omega, hEk.goes goes_num, by simp [hlk], onP_next (by omega) hOn⟩)) (by repeat (first | exact trivial | refine ⟨rfl, ?_⟩)) (eX (by repeat constructor))
    · obtain ⟨hE1, hE2⟩ := onP_end (by omega) hOn
      obtain ⟨s5, l, h5⟩ : ∃ s5 l, takePrims 24 sk = (s5, l) := ⟨_, _, rfl⟩
      have c5 := takePrimsRef_con B sk 24 hB hEk
      have hl : l.length ≤ 24 := by have := some_len (take := takePrim) (most := 24) (s := sk) (n := 24) (by decide); unfold takePrims at h5; rw [h5] at this; exact this
      have hle : ∀ x ∈ l, SizeP x := by have := some_ok (most := 24) goes_prim (fun s hs => prim_ok hs) (hlen hEk); unfold takePrims at h5; rw [h5] at this; exact this
      rw [h5] at c5
      unfold inS inV at c5
      dsimp only at c5
      have hR := fun dv lv => rightTRef_con (id, t, out, l) dv lv ⟨ht, by dsimp only; omega, by dsimp only; omega, hle⟩
      dsimp only at hR
      have hres : takePatch s = if s5.2 = true ∨ rightT (id, t, out, l) = false then (spoil9 s, pt0) else (s5, (id, t, out, l)) := by
        cases hsk : sk.2 with
        | true =>
          have h5b : s5.2 = true := by have := prims_bad (m := 24) hsk; rw [h5] at this; exact this
          rw [if_pos (.inl h5b)]
          exact hbadT (spoil9 s2, []) rfl (by rw [hsome, if_neg hq, if_pos (hE1.trans hsk)])
        | false =>
          have hs4 : takeSome takeNum 8 s2 = (sk, out) := by rw [hsome, if_neg hq, if_neg (by rw [hE1, hsk]; decide)]; exact hE2 hsk
          have hraw : rawPatch s = (s5, (id, t, out, l)) := by unfold rawPatch; simp only [h1, h2, hs4, h5]
          unfold takePatch
          rw [hraw]
      refine c_exit rfl ?_
      refine c_seq ?_
      refine c_region ?_
      refine o_val (v_load_all ⟨_, Tryz.underlying48⟩ ti48 rfl (hX (by repeat constructor)) rfl) (dd rfl) ?_
      refine o_step (s_callf cl64 (c5) rfl (dd rfl) (pXs (by repeat constructor)) fun g5 _ => ?_)
      refine o_val (v_move rfl) (dd rfl) ?_
      refine o_val (v_extract rfl rfl) (dd rfl) ?_
      refine o_val (v_extract rfl rfl) (dd rfl) ?_
      refine o_step (s_store_all ti48 rfl rfl (by first | exact CellsV.lit rfl | exact CellsV.one (by first | exact OneC.lit rfl | exact OneC.sl (hX (by repeat constructor)) )) (by repeat (first | exact OneAll.nil | (refine OneAll.cons ?_ ?_; · first | exact OneC.lit rfl | exact OneC.sl (hX (by repeat constructor)) ) | exact OneAll.rd (hX (by repeat constructor)))) rfl (pB (by repeat constructor)) rfl (?_))
      refine o_val (v_assign rfl) (dd rfl) ?_
      refine o_nil ?_
      refine c_seq ?_
      refine c_region ?_
      refine o_val (v_move rfl) (dd rfl) ?_
      refine o_val (v_move rfl) (dd rfl) ?_
      refine o_val (v_move rfl) (dd rfl) ?_
      refine o_val (v_move rfl) (dd rfl) ?_
      refine o_val (v_buildS (places := [(0, 1), (1, 1), (2, 1), (3, 1)]) (cells := [_, _, _, _]) Tryz.underlying34 ti34 (by kernel_rfl) rfl (by repeat (first | exact PartsC.nil | (apply PartsC.one (by first | exact OneC.lit rfl | exact OneC.sl (hX (by repeat constructor)) )) | (apply PartsC.lit rfl))) rfl) (dd rfl) ?_
      refine o_step (s_alloc ti34 (dd rfl) (fun b14 => ?_))
      refine o_step (s_store_all ti34 rfl rfl (by first | exact CellsV.lit rfl | exact CellsV.one (by first | exact OneC.lit rfl | exact OneC.sl (hX (by repeat constructor)) )) (by repeat (first | exact OneAll.nil | (refine OneAll.cons ?_ ?_; · first | exact OneC.lit rfl | exact OneC.sl (hX (by repeat constructor)) ) | exact OneAll.rd (hX (by repeat constructor)))) rfl (pB (by repeat constructor)) rfl (?_))
      refine o_nil ?_
      refine c_seq ?_
      refine c_seq ?_
      refine c_env (env' := [(1, _), (2, _), (3, _), (4, _), (5, _), (14, _)]) (by repeat (first | exact trivial | refine ⟨rfl, ?_⟩)) ?_
      refine c_joinb (d := 75) (decide (s5.2 = true ∨ rightT (id, t, out, l) = false)) ?_ ?_
      rotate_left
      · intro J
        refine c_region ?_
        refine o_val (v_fieldAddrC 2 Tryz.underlying48 rfl ti4 (by decide) rfl) (dd rfl) ?_
        refine o_val (v_load lone4 rfl (hX (by repeat constructor)) rfl) (dd rfl) ?_
        refine o_val (v_move rfl) (dd rfl) ?_
        first | refine o_guard_f rfl rfl (fun g71 => ?_) (fun g71 => ?_) | refine o_guard rfl rfl (fun g71 => ?_) (fun g71 => ?_)
        · refine o_val (v_load_all ⟨_, Tryz.underlying34⟩ ti34 rfl (hX (by repeat constructor)) rfl) (dd rfl) ?_
          refine o_on rfl rfl ?_
          refine o_step (s_callf_keep cl22 (hR v g5) rfl (dd rfl) (rX (by repeat constructor)) (fun _ => sX) (fun _ _ => ?_))
          refine o_on rfl rfl ?_
          refine o_val (v_not rfl) (dd rfl) ?_
          refine o_val (v_pick_f rfl rfl) (dd rfl) ?_
          refine o_nil ?_
          exact c_use J ⟨Env.as rfl (congrArg Value.bool (by first | rfl | (simp_all; done) | (simp_all; omega) | (simp; omega))), (by repeat (first | exact trivial | refine ⟨rfl, ?_⟩))⟩ (by first | exact Ent.refl _ | exact eX (by repeat constructor))
        · refine o_off rfl rfl rfl (dd rfl) ?_
          refine o_off rfl rfl rfl (dd rfl) ?_
          refine o_off rfl rfl rfl (dd rfl) ?_
          refine o_val (v_pick_t rfl rfl) (dd rfl) ?_
          refine o_nil ?_
          exact c_use J ⟨Env.as rfl (congrArg Value.bool (by first | rfl | (simp_all; done) | (simp_all; omega) | (simp; omega))), (by repeat (first | exact trivial | refine ⟨rfl, ?_⟩))⟩ (by first | exact Ent.refl _ | exact eX (by repeat constructor))
      refine c_cond_p rfl (fun hz => ?_) (fun hz => ?_)
      · rw [hres, if_pos hz]
        refine c_seq ?_
        refine c_held [BlkR b1 48 [.string B, .int .i64 (plc B s), .bool s.2], BlkR b4 34 [.int .i64 0, .string ⟨#[]⟩, .slice none 0 0, .slice none 0 0]] rfl ?_
        refine a_take 0 rfl (by kernel_rfl) (by kernel_rfl) (by kernel_rfl) (v_load_all ⟨_, Tryz.underlying48⟩ ti48 rfl (hX (by repeat constructor)) rfl) (eX (by repeat constructor)) (dd rfl) ?_
        refine a_take 2 rfl (by kernel_rfl) (by kernel_rfl) (by kernel_rfl) (v_load_all ⟨_, Tryz.underlying34⟩ ti34 rfl (hX (by repeat constructor)) rfl) (eX (by repeat constructor)) (dd rfl) ?_
        refine a_one 1 rfl (by kernel_rfl) (s_callf_keep cl92 (hS) rfl (dd rfl) (rX (by repeat constructor)) (fun _ => sX) (fun _ _ => a_on (eX (by repeat constructor)) ?_))
        refine a_one 3 rfl (by kernel_rfl) (s_store_all ti48 rfl rfl (by first | exact CellsV.lit rfl | exact CellsV.one (by first | exact OneC.lit rfl | exact OneC.sl (hX (by repeat constructor)) )) (by repeat (first | exact OneAll.nil | (refine OneAll.cons ?_ ?_; · first | exact OneC.lit rfl | exact OneC.sl (hX (by repeat constructor)) ) | exact OneAll.rd (hX (by repeat constructor)))) rfl (pB (by repeat constructor)) rfl (a_on (eX (by repeat constructor)) ?_))
        refine a_one 4 rfl (by kernel_rfl) (s_store_all ti34 rfl rfl (by first | exact CellsV.lit rfl | exact CellsV.one (by first | exact OneC.lit rfl | exact OneC.sl (hX (by repeat constructor)) )) (by repeat (first | exact OneAll.nil | (refine OneAll.cons ?_ ?_; · first | exact OneC.lit rfl | exact OneC.sl (hX (by repeat constructor)) ) | exact OneAll.rd (hX (by repeat constructor)))) rfl (pB (by repeat constructor)) rfl (a_on (eX (by repeat constructor)) ?_))
        refine a_done (by kernel_rfl) ?_ _
        refine c_ret_cc Tryz.func65 rfl ⟨_, Tryz.underlying48⟩ ti48 ⟨_, Tryz.underlying34⟩ ti34 rfl rfl (hX (by repeat constructor)) (hX (by repeat constructor)) fun w O hS => ?_
        exact ⟨(.slice none 0 0, .slice none 0 0), rfl, trivial, Ent.get hS (eX (by repeat constructor))⟩
      · rw [hres, if_neg hz]
        refine c_skip ?_
        refine c_seq ?_
        refine c_held [BlkR b5 48 [.string B, .int .i64 (plc B s5), .bool s5.2], BlkR b14 34 [.int .i64 id, .string t, v, g5]] rfl ?_
        refine a_take 0 rfl (by kernel_rfl) (by kernel_rfl) (by kernel_rfl) (v_load_all ⟨_, Tryz.underlying48⟩ ti48 rfl (hX (by repeat constructor)) rfl) (eX (by repeat constructor)) (dd rfl) ?_
        refine a_take 1 rfl (by kernel_rfl) (by kernel_rfl) (by kernel_rfl) (v_load_all ⟨_, Tryz.underlying34⟩ ti34 rfl (hX (by repeat constructor)) rfl) (eX (by repeat constructor)) (dd rfl) ?_
        refine a_one 2 rfl (by kernel_rfl) (s_store_all ti48 rfl rfl (by first | exact CellsV.lit rfl | exact CellsV.one (by first | exact OneC.lit rfl | exact OneC.sl (hX (by repeat constructor)) )) (by repeat (first | exact OneAll.nil | (refine OneAll.cons ?_ ?_; · first | exact OneC.lit rfl | exact OneC.sl (hX (by repeat constructor)) ) | exact OneAll.rd (hX (by repeat constructor)))) rfl (pB (by repeat constructor)) rfl (a_on (eX (by repeat constructor)) ?_))
        refine a_one 3 rfl (by kernel_rfl) (s_store_all ti34 rfl rfl (by first | exact CellsV.lit rfl | exact CellsV.one (by first | exact OneC.lit rfl | exact OneC.sl (hX (by repeat constructor)) )) (by repeat (first | exact OneAll.nil | (refine OneAll.cons ?_ ?_; · first | exact OneC.lit rfl | exact OneC.sl (hX (by repeat constructor)) ) | exact OneAll.rd (hX (by repeat constructor)))) rfl (pB (by repeat constructor)) rfl (a_on (eX (by repeat constructor)) ?_))
        refine a_done (by kernel_rfl) ?_ _
        refine c_ret_cc Tryz.func65 rfl ⟨_, Tryz.underlying48⟩ ti48 ⟨_, Tryz.underlying34⟩ ti34 rfl rfl (hX (by repeat constructor)) (hX (by repeat constructor)) fun w O hS => ?_
        exact ⟨(v, g5), rfl, trivial, Ent.get hS (eX (by repeat constructor))⟩
end Go.Proofs.YtmgkeippepeggaaGreatDoor

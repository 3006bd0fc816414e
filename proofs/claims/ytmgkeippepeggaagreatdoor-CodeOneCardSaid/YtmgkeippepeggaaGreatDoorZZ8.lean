/- The texts S4, R1, A1, K1, R2, one behind the other. -/
import Derived.Test.YtmgkeippepeggaaGreatDoorZZ7
import Derived.Test.YtmgkeippepeggaaGreatDoorRows
import Derived.Lay
import Derived.Stop.LaidErr
import Derived.Lib.LaidTab
set_option linter.unusedVariables false
set_option linter.unusedSimpArgs false
/- Chapter 09: changes and patches, as the document and as the program have them. -/
namespace Go.Proofs.YtmgkeippepeggaaGreatDoor
open Go Go.SL Go.Lib
attribute [local irreducible] Cfg Kont StepK Val Con Qops Any Sl Own Blk BlkR Rd Pu ExA AllA Has Pick Ent Elem Beside Callable TI Lone OwnO AndA
set_option maxRecDepth 100000 in
theorem oldPr_con (v : Value) (l : List Pr9) (hl : l.length ≤ 1000000) : Con Tryz.prog 27 [v] [Sl ePr v l] (γ := Value) (fun r => r) (fun _ => True) (fun r => [Own ePr 30 r l]) := by
  refine con_of Tryz.func27 rfl (dd rfl) fun w0 O0 => ?_
  refine c_seq ?_
  refine c_region ?_
  refine o_val (v_assign rfl) (dd rfl) ?_
  refine o_nil ?_
  refine c_seq ?_
  refine c_region ?_
  refine o_val (v_assign rfl) (dd rfl) ?_
  refine o_nil ?_
  refine c_seq ?_
  refine c_seq ?_
  refine c_region ?_
  refine o_val (v_move rfl) (dd rfl) ?_
  refine o_val ((by first | exact v_len_form Tryz.underlying62 rfl | exact v_len_sl Tryz.underlying62 rfl (hX (by repeat constructor)))) (dd rfl) ?_
  refine o_val (v_move rfl) (dd rfl) ?_
  refine o_nil ?_
  refine c_block ?_
  refine c_loopR (γ := Nat × Value) [(2, _), (6, _), (7, _)] (fun g => l.length - g.1) (fun g => g.1 ≤ l.length) (fun g => [(8, .int .i64 g.1), (3, g.2)]) (fun g => [Sl ePr v l, Own ePr 30 g.2 (l.take g.1)]) ((0, .slice none 0 0)) (Nat.zero_le _) (by repeat (first | exact trivial | refine ⟨rfl, ?_⟩)) (eX (by repeat constructor)) ?_
  rintro ⟨k, r⟩ hk IH
  dsimp only at hk ⊢
  try dsimp only [List.cons_append, List.nil_append]
  refine c_seq ?_
  refine c_region ?_
  refine o_val (v_lt rfl rfl) (dd rfl) ?_
  refine o_nil ?_
  refine c_seq ?_
  refine c_cond_p rfl (fun hlt => ?_) (fun hlt => ?_)
  · have hk' : k < l.length := by omega
    refine c_skip ?_
    refine c_seq ?_
    refine c_block ?_
    refine c_seq ?_
    refine c_region ?_
    refine o_val ((by first | exact v_indexAddrN Tryz.underlying62 ti58 rfl rfl (hX (by repeat constructor)) (by omega) | exact v_indexAddr Tryz.underlying62 ti58 rfl rfl (hX (by repeat constructor)) (by omega))) (dd rfl) ?_
    refine o_step (s_load_shape ⟨_, Tryz.underlying58⟩ ti58 rfl (dd rfl) (by repeat (first|exact el1 (by omega)|exact el2 (by omega)|exact el3 (by omega)|apply Elem.there)) (pr_open) (fun g => ?_))
    refine o_step (s_alloc ti58 (dd rfl) (fun b5 => ?_))
    refine o_step (s_store_all ti58 rfl rfl (by first | exact CellsV.lit rfl | exact CellsV.one (by first | exact OneC.lit rfl | exact OneC.sl (hX (by repeat constructor)) )) (by repeat (first | exact OneAll.nil | (refine OneAll.cons ?_ ?_; · first | exact OneC.lit rfl | exact OneC.sl (hX (by repeat constructor)) ) | exact OneAll.rd (hX (by repeat constructor)))) rfl (pB (by repeat constructor)) rfl (?_))
    refine o_nil ?_
    refine c_region ?_
    refine o_val (v_move rfl) (dd rfl) ?_
    refine o_val (v_load_all ⟨_, Tryz.underlying58⟩ ti58 rfl (hX (by repeat constructor)) rfl) (dd rfl) ?_
    refine o_step (s_buildSlice Tryz.underlying31 ti30 rfl rfl rfl (by decide) (by decide) (beside_agg1 (beside_of (Lp := [Sl eStr g.1 l[k].2.2.2.2.1, Sl eStr g.2 l[k].2.2.2.2.2]) (pXs (by repeat constructor)) fun w O => pr_close (z := l[k]) w O)) rfl rfl (dd rfl) fun v1 => ?_)
    refine o_step (s_append Tryz.underlying31 ti30 rfl (by decide) rfl rfl (dd rfl) (pB (by repeat constructor)) (pX (by repeat constructor)) rfl (by (first | omega | (simp only [maxLen, List.length_append, List.length_drop, List.length_take, List.length_nil, List.length_cons]; omega))) (by (first | omega | (simp only [maxLen, List.length_append, List.length_drop, List.length_take, List.length_nil, List.length_cons]; omega))) fun v2 => ?_)
    refine o_val (v_assign rfl) (dd rfl) ?_
    refine o_nil ?_
    refine c_inBlock ?_
    refine c_region ?_
    refine o_val ((by first | exact v_add64 rfl rfl (by omega) | exact v_add rfl rfl)) (dd rfl) ?_
    refine o_val (v_move rfl) (dd rfl) ?_
    refine o_nil ?_
    rw [← List.take_succ_eq_append_getElem hk']
    refine c_use (IH ((k + 1, v2)) (by first | omega | (dsimp only; omega)) (by dsimp only; omega)) (by repeat (first | exact trivial | refine ⟨rfl, ?_⟩)) (eX (by repeat constructor))
  · refine c_exit rfl ?_
    refine c_seq ?_
    refine c_region ?_
    refine o_val (v_move rfl) (dd rfl) ?_
    refine o_val (v_assign rfl) (dd rfl) ?_
    refine o_nil ?_
    refine c_ret1 Tryz.func27 rfl rfl fun w O hS => ?_
    exact ⟨r, rfl, trivial, by rw [List.take_of_length_le (by omega)] at hS; exact Ent.get hS (eX (by repeat constructor))⟩
set_option maxRecDepth 100000 in
theorem newPr_con (v : Value) (l : List Pr9) (hl : l.length ≤ 1000000) : Con Tryz.prog 48 [v] [Sl ePr v l] (γ := Value) (fun r => r) (fun _ => True) (fun r => [Own ePr 58 r l]) := by
  refine con_of Tryz.func48 rfl (dd rfl) fun w0 O0 => ?_
  refine c_seq ?_
  refine c_region ?_
  refine o_val (v_assign rfl) (dd rfl) ?_
  refine o_nil ?_
  refine c_seq ?_
  refine c_region ?_
  refine o_val (v_assign rfl) (dd rfl) ?_
  refine o_nil ?_
  refine c_seq ?_
  refine c_seq ?_
  refine c_region ?_
  refine o_val (v_move rfl) (dd rfl) ?_
  refine o_val ((by first | exact v_len_form Tryz.underlying31 rfl | exact v_len_sl Tryz.underlying31 rfl (hX (by repeat constructor)))) (dd rfl) ?_
  refine o_val (v_move rfl) (dd rfl) ?_
  refine o_nil ?_
  refine c_block ?_
  refine c_loopR (γ := Nat × Value) [(2, _), (6, _), (7, _)] (fun g => l.length - g.1) (fun g => g.1 ≤ l.length) (fun g => [(8, .int .i64 g.1), (3, g.2)]) (fun g => [Sl ePr v l, Own ePr 58 g.2 (l.take g.1)]) ((0, .slice none 0 0)) (Nat.zero_le _) (by repeat (first | exact trivial | refine ⟨rfl, ?_⟩)) (eX (by repeat constructor)) ?_
  rintro ⟨k, r⟩ hk IH
  dsimp only at hk ⊢
  try dsimp only [List.cons_append, List.nil_append]
  refine c_seq ?_
  refine c_region ?_
  refine o_val (v_lt rfl rfl) (dd rfl) ?_
  refine o_nil ?_
  refine c_seq ?_
  refine c_cond_p rfl (fun hlt => ?_) (fun hlt => ?_)
  · have hk' : k < l.length := by omega
    refine c_skip ?_
    refine c_seq ?_
    refine c_block ?_
    refine c_seq ?_
    refine c_region ?_
    refine o_val ((by first | exact v_indexAddrN Tryz.underlying31 ti30 rfl rfl (hX (by repeat constructor)) (by omega) | exact v_indexAddr Tryz.underlying31 ti30 rfl rfl (hX (by repeat constructor)) (by omega))) (dd rfl) ?_
    refine o_step (s_load_shape ⟨_, Tryz.underlying30⟩ ti30 rfl (dd rfl) (by repeat (first|exact el1 (by omega)|exact el2 (by omega)|exact el3 (by omega)|apply Elem.there)) (pr_open) (fun g => ?_))
    refine o_step (s_alloc ti30 (dd rfl) (fun b5 => ?_))
    refine o_step (s_store_all ti30 rfl rfl (by first | exact CellsV.lit rfl | exact CellsV.one (by first | exact OneC.lit rfl | exact OneC.sl (hX (by repeat constructor)) )) (by repeat (first | exact OneAll.nil | (refine OneAll.cons ?_ ?_; · first | exact OneC.lit rfl | exact OneC.sl (hX (by repeat constructor)) ) | exact OneAll.rd (hX (by repeat constructor)))) rfl (pB (by repeat constructor)) rfl (?_))
    refine o_nil ?_
    refine c_region ?_
    refine o_val (v_move rfl) (dd rfl) ?_
    refine o_val (v_load_all ⟨_, Tryz.underlying30⟩ ti30 rfl (hX (by repeat constructor)) rfl) (dd rfl) ?_
    refine o_step (s_buildSlice Tryz.underlying62 ti58 rfl rfl rfl (by decide) (by decide) (beside_agg1 (beside_of (Lp := [Sl eStr g.1 l[k].2.2.2.2.1, Sl eStr g.2 l[k].2.2.2.2.2]) (pXs (by repeat constructor)) fun w O => pr_close (z := l[k]) w O)) rfl rfl (dd rfl) fun v1 => ?_)
    refine o_step (s_append Tryz.underlying62 ti58 rfl (by decide) rfl rfl (dd rfl) (pB (by repeat constructor)) (pX (by repeat constructor)) rfl (by (first | omega | (simp only [maxLen, List.length_append, List.length_drop, List.length_take, List.length_nil, List.length_cons]; omega))) (by (first | omega | (simp only [maxLen, List.length_append, List.length_drop, List.length_take, List.length_nil, List.length_cons]; omega))) fun v2 => ?_)
    refine o_val (v_assign rfl) (dd rfl) ?_
    refine o_nil ?_
    refine c_inBlock ?_
    refine c_region ?_
    refine o_val ((by first | exact v_add64 rfl rfl (by omega) | exact v_add rfl rfl)) (dd rfl) ?_
    refine o_val (v_move rfl) (dd rfl) ?_
    refine o_nil ?_
    rw [← List.take_succ_eq_append_getElem hk']
    refine c_use (IH ((k + 1, v2)) (by first | omega | (dsimp only; omega)) (by dsimp only; omega)) (by repeat (first | exact trivial | refine ⟨rfl, ?_⟩)) (eX (by repeat constructor))
  · refine c_exit rfl ?_
    refine c_seq ?_
    refine c_region ?_
    refine o_val (v_move rfl) (dd rfl) ?_
    refine o_val (v_assign rfl) (dd rfl) ?_
    refine o_nil ?_
    refine c_ret1 Tryz.func48 rfl rfl fun w O hS => ?_
    exact ⟨r, rfl, trivial, by rw [List.take_of_length_le (by omega)] at hS; exact Ent.get hS (eX (by repeat constructor))⟩
set_option maxRecDepth 100000 in
theorem oldT_con (p : Pt9) (dv lv : Value) (hl : p.2.2.2.length ≤ 1000000) : Con Tryz.prog 30 [.agg #[.int .i64 p.1, .string p.2.1, dv, lv]] [Sl (eInt .i64) dv p.2.2.1, Sl ePr lv p.2.2.2] (γ := Value) (fun r => .agg #[.int .i64 p.1, .string p.2.1, dv, r]) (fun _ => True) (fun r => [Sl (eInt .i64) dv p.2.2.1, Sl ePr r p.2.2.2]) := by
  have h := con_pu (oldPr_con lv p.2.2.2 hl) fun _ _ _ h => form_of h
  refine con_of Tryz.func30 rfl (dd rfl) fun w0 O0 => ?_
  refine c_seq ?_
  refine c_region ?_
  refine o_step (s_box rfl (dd rfl) (fun b1 => ?_))
  refine o_step (s_alloc ti34 (dd rfl) (fun b2 => ?_))
  refine o_nil ?_
  refine c_seq ?_
  refine c_held [BlkR b1 67 [.int .i64 p.1, .string p.2.1, dv, lv], Sl (eInt .i64) dv p.2.2.1] rfl ?_
  refine a_take 0 rfl (by kernel_rfl) (by kernel_rfl) (by kernel_rfl) (v_fieldAddrC 0 Tryz.underlying67 rfl ti3 (by decide) rfl) (eX (by repeat constructor)) (dd rfl) ?_
  refine a_take 1 rfl (by kernel_rfl) (by kernel_rfl) (by kernel_rfl) (v_load lone3 rfl (hX (by repeat constructor)) rfl) (eX (by repeat constructor)) (dd rfl) ?_
  refine a_take 2 rfl (by kernel_rfl) (by kernel_rfl) (by kernel_rfl) (v_fieldAddrC 1 Tryz.underlying67 rfl ti9 (by decide) rfl) (eX (by repeat constructor)) (dd rfl) ?_
  refine a_take 3 rfl (by kernel_rfl) (by kernel_rfl) (by kernel_rfl) (v_load lone9 rfl (hX (by repeat constructor)) rfl) (eX (by repeat constructor)) (dd rfl) ?_
  refine a_take 4 rfl (by kernel_rfl) (by kernel_rfl) (by kernel_rfl) (v_fieldAddrC 2 Tryz.underlying67 rfl ti32 (by decide) rfl) (eX (by repeat constructor)) (dd rfl) ?_
  refine a_take 5 rfl (by kernel_rfl) (by kernel_rfl) (by kernel_rfl) (v_load lone32 rfl (hX (by repeat constructor)) rfl) (eX (by repeat constructor)) (dd rfl) ?_
  refine a_take 6 rfl (by kernel_rfl) (by kernel_rfl) (by kernel_rfl) (v_fieldAddrC 3 Tryz.underlying67 rfl ti62 (by decide) rfl) (eX (by repeat constructor)) (dd rfl) ?_
  refine a_take 7 rfl (by kernel_rfl) (by kernel_rfl) (by kernel_rfl) (v_load lone62 rfl (hX (by repeat constructor)) rfl) (eX (by repeat constructor)) (dd rfl) ?_
  refine a_one 8 rfl (by kernel_rfl) (s_callf cl27 (h) rfl (dd rfl) (pXs (by repeat constructor)) (fun r hr => a_on (eX (by repeat constructor)) ?_))
  obtain ⟨-, a0, c0, rfl⟩ := hr
  refine a_take 9 rfl (by kernel_rfl) (by kernel_rfl) (by kernel_rfl) (v_buildS (places := [(0, 1), (1, 1), (2, 1), (3, 1)]) (cells := [_, _, _, _]) Tryz.underlying34 ti34 (by kernel_rfl) rfl (by repeat (first | exact PartsC.nil | (apply PartsC.one (by first | exact OneC.lit rfl | exact OneC.sl (hX (by repeat constructor)) )) | (apply PartsC.lit rfl))) rfl) (eX (by repeat constructor)) (dd rfl) ?_
  refine a_one 10 rfl (by kernel_rfl) (s_store_all ti34 rfl rfl (by first | exact CellsV.lit rfl | exact CellsV.one (by first | exact OneC.lit rfl | exact OneC.sl (hX (by repeat constructor)) )) (by repeat (first | exact OneAll.nil | (refine OneAll.cons ?_ ?_; · first | exact OneC.lit rfl | exact OneC.sl (hX (by repeat constructor)) ) | exact OneAll.rd (hX (by repeat constructor)))) rfl (pB (by repeat constructor)) rfl (a_on (eX (by repeat constructor)) ?_))
  refine a_done (by kernel_rfl) ?_ _
  refine c_ret_cell Tryz.func30 rfl ⟨_, Tryz.underlying34⟩ ti34 rfl (hX (by repeat constructor)) fun w O hS => ?_
  exact ⟨.slice a0 p.2.2.2.length c0, rfl, trivial, Ent.get hS (eX (by repeat constructor))⟩
set_option maxRecDepth 100000 in
theorem newT_con (p : Pt9) (dv lv : Value) (hl : p.2.2.2.length ≤ 1000000) : Con Tryz.prog 50 [.agg #[.int .i64 p.1, .string p.2.1, dv, lv]] [Sl (eInt .i64) dv p.2.2.1, Sl ePr lv p.2.2.2] (γ := Value) (fun r => .agg #[.int .i64 p.1, .string p.2.1, dv, r]) (fun _ => True) (fun r => [Sl (eInt .i64) dv p.2.2.1, Sl ePr r p.2.2.2]) := by
  have h := con_pu (newPr_con lv p.2.2.2 hl) fun _ _ _ h => form_of h
  refine con_of Tryz.func50 rfl (dd rfl) fun w0 O0 => ?_
  refine c_seq ?_
  refine c_region ?_
  refine o_step (s_box rfl (dd rfl) (fun b1 => ?_))
  refine o_step (s_alloc ti67 (dd rfl) (fun b2 => ?_))
  refine o_nil ?_
  refine c_seq ?_
  refine c_held [BlkR b1 34 [.int .i64 p.1, .string p.2.1, dv, lv], Sl (eInt .i64) dv p.2.2.1] rfl ?_
  refine a_take 0 rfl (by kernel_rfl) (by kernel_rfl) (by kernel_rfl) (v_fieldAddrC 0 Tryz.underlying34 rfl ti3 (by decide) rfl) (eX (by repeat constructor)) (dd rfl) ?_
  refine a_take 1 rfl (by kernel_rfl) (by kernel_rfl) (by kernel_rfl) (v_load lone3 rfl (hX (by repeat constructor)) rfl) (eX (by repeat constructor)) (dd rfl) ?_
  refine a_take 2 rfl (by kernel_rfl) (by kernel_rfl) (by kernel_rfl) (v_fieldAddrC 1 Tryz.underlying34 rfl ti9 (by decide) rfl) (eX (by repeat constructor)) (dd rfl) ?_
  refine a_take 3 rfl (by kernel_rfl) (by kernel_rfl) (by kernel_rfl) (v_load lone9 rfl (hX (by repeat constructor)) rfl) (eX (by repeat constructor)) (dd rfl) ?_
  refine a_take 4 rfl (by kernel_rfl) (by kernel_rfl) (by kernel_rfl) (v_fieldAddrC 2 Tryz.underlying34 rfl ti32 (by decide) rfl) (eX (by repeat constructor)) (dd rfl) ?_
  refine a_take 5 rfl (by kernel_rfl) (by kernel_rfl) (by kernel_rfl) (v_load lone32 rfl (hX (by repeat constructor)) rfl) (eX (by repeat constructor)) (dd rfl) ?_
  refine a_take 6 rfl (by kernel_rfl) (by kernel_rfl) (by kernel_rfl) (v_fieldAddrC 3 Tryz.underlying34 rfl ti31 (by decide) rfl) (eX (by repeat constructor)) (dd rfl) ?_
  refine a_take 7 rfl (by kernel_rfl) (by kernel_rfl) (by kernel_rfl) (v_load lone31 rfl (hX (by repeat constructor)) rfl) (eX (by repeat constructor)) (dd rfl) ?_
  refine a_one 8 rfl (by kernel_rfl) (s_callf cl48 (h) rfl (dd rfl) (pXs (by repeat constructor)) (fun r hr => a_on (eX (by repeat constructor)) ?_))
  obtain ⟨-, a0, c0, rfl⟩ := hr
  refine a_take 9 rfl (by kernel_rfl) (by kernel_rfl) (by kernel_rfl) (v_buildS (places := [(0, 1), (1, 1), (2, 1), (3, 1)]) (cells := [_, _, _, _]) Tryz.underlying67 ti67 (by kernel_rfl) rfl (by repeat (first | exact PartsC.nil | (apply PartsC.one (by first | exact OneC.lit rfl | exact OneC.sl (hX (by repeat constructor)) )) | (apply PartsC.lit rfl))) rfl) (eX (by repeat constructor)) (dd rfl) ?_
  refine a_one 10 rfl (by kernel_rfl) (s_store_all ti67 rfl rfl (by first | exact CellsV.lit rfl | exact CellsV.one (by first | exact OneC.lit rfl | exact OneC.sl (hX (by repeat constructor)) )) (by repeat (first | exact OneAll.nil | (refine OneAll.cons ?_ ?_; · first | exact OneC.lit rfl | exact OneC.sl (hX (by repeat constructor)) ) | exact OneAll.rd (hX (by repeat constructor)))) rfl (pB (by repeat constructor)) rfl (a_on (eX (by repeat constructor)) ?_))
  refine a_done (by kernel_rfl) ?_ _
  refine c_ret_cell Tryz.func50 rfl ⟨_, Tryz.underlying67⟩ ti67 rfl (hX (by repeat constructor)) fun w O hS => ?_
  exact ⟨.slice a0 p.2.2.2.length c0, rfl, trivial, Ent.get hS (eX (by repeat constructor))⟩
end Go.Proofs.YtmgkeippepeggaaGreatDoor
/- Chapter 09: read. -/
namespace Go.Proofs.YtmgkeippepeggaaGreatDoor
open Go Go.SL Go.Lib
attribute [local irreducible] Cfg Kont StepK Val Con Qops Any Sl Own Blk BlkR Rd Pu ExA AllA Has Pick Ent Elem Beside Callable TI Lone OwnO AndA
set_option maxRecDepth 100000 in
theorem read_con (B : ByteArray) (i : Nat) (bv : Value) (s : St9) (a : Ask9) (te : TypeId) (pe : Value) (hB : B.size ≤ big9) (h : EndsB B s) : Con Tryz.prog 19 [ptr i, inS B s, .agg #[.int .i64 a.1, .int .i64 a.2.1, .int .i64 a.2.2]] [Blk i 92 [bv, .bool s.2], Sl eByte bv s.1, G1 te pe, G3] (γ := Value)
    (fun _ => .tuple #[inS B (stepR a s), .bool true]) (fun _ => True) (fun g => [Blk i 92 [g, .bool (stepR a s).2], Sl eByte g (stepR a s).1]) := by
  have hB' : B.size ≤ 4611686018427387904 := by unfold big9 at hB; omega
  have hs : s.1.length ≤ big9 := by have := h.at.2.2; unfold big9 at *; omega
  obtain ⟨k, m, e⟩ := a
  unfold stepR
  dsimp only
  unfold inS inV
  refine con_of Tryz.func19 rfl (dd rfl) fun w0 O0 => ?_
  refine c_seq ?_
  refine c_region ?_
  refine o_step (s_box rfl (dd rfl) (fun b4 => ?_))
  refine o_step (s_box rfl (dd rfl) (fun b5 => ?_))
  refine o_step (s_alloc ti48 (dd rfl) (fun b6 => ?_))
  refine o_val (v_assign rfl) (dd rfl) ?_
  refine o_nil ?_
  refine c_seq ?_
  refine c_seq ?_
  refine c_region ?_
  refine o_val (v_fieldAddrC 0 Tryz.underlying50 rfl ti3 (by decide) rfl) (dd rfl) ?_
  refine o_val (v_load lone3 rfl (hX (by repeat constructor)) rfl) (dd rfl) ?_
  refine o_nil ?_
  refine c_block ?_
  refine c_seq ?_
  refine c_region ?_
  refine o_val (v_eq rfl rfl) (dd rfl) ?_
  refine o_val (v_assign rfl) (dd rfl) ?_
  refine o_nil ?_
  refine c_cond_p rfl (fun h0 => ?_) (fun h0 => ?_)
  · have r1 := takeNumRef_con B s hB' h
    have r2 := inNum_con i bv s te pe
    rw [if_pos h0]
    unfold inS inV at r1
    refine c_seq ?_
    refine c_region ?_
    refine o_val (v_load_all ⟨_, Tryz.underlying48⟩ ti48 rfl (hX (by repeat constructor)) rfl) (dd rfl) ?_
    refine o_step (s_callf cl59 (r1) rfl (dd rfl) (pXs (by repeat constructor)) fun _ _ => ?_)
    refine o_val (v_move rfl) (dd rfl) ?_
    refine o_val (v_extract rfl rfl) (dd rfl) ?_
    refine o_val (v_extract rfl rfl) (dd rfl) ?_
    refine o_step (s_alloc ti48 (dd rfl) (fun b8 => ?_))
    refine o_step (s_store_all ti48 rfl rfl (by first | exact CellsV.lit rfl | exact CellsV.one (by first | exact OneC.lit rfl | exact OneC.sl (hX (by repeat constructor)) )) (by repeat (first | exact OneAll.nil | (refine OneAll.cons ?_ ?_; · first | exact OneC.lit rfl | exact OneC.sl (hX (by repeat constructor)) ) | exact OneAll.rd (hX (by repeat constructor)))) rfl (pB (by repeat constructor)) rfl (?_))
    refine o_val (v_assign rfl) (dd rfl) ?_
    refine o_nil ?_
    refine c_seq ?_
    refine c_held [BlkR b8 48 [.string B, .int .i64 (plc B (takeNum s).1), .bool (takeNum s).1.2]] rfl ?_
    refine a_take 0 rfl (by kernel_rfl) (by kernel_rfl) (by kernel_rfl) (v_load_all ⟨_, Tryz.underlying48⟩ ti48 rfl (hX (by repeat constructor)) rfl) (eX (by repeat constructor)) (dd rfl) ?_
    refine a_take 1 rfl (by kernel_rfl) (by kernel_rfl) (by kernel_rfl) (v_move rfl) (eX (by repeat constructor)) (dd rfl) ?_
    refine a_take 3 rfl (by kernel_rfl) (by kernel_rfl) (by kernel_rfl) (v_move rfl) (eX (by repeat constructor)) (dd rfl) ?_
    refine a_one 2 rfl (by kernel_rfl) (s_callf cl14 (r2) rfl (dd rfl) (pXs (by repeat constructor)) (fun v _ => a_on (eX (by repeat constructor)) ?_))
    refine a_take 4 rfl (by kernel_rfl) (by kernel_rfl) (by kernel_rfl) (v_eq rfl rfl) (eX (by repeat constructor)) (dd rfl) ?_
    refine a_one 5 rfl (by kernel_rfl) (s_store_all ti48 rfl rfl (by first | exact CellsV.lit rfl | exact CellsV.one (by first | exact OneC.lit rfl | exact OneC.sl (hX (by repeat constructor)) )) (by repeat (first | exact OneAll.nil | (refine OneAll.cons ?_ ?_; · first | exact OneC.lit rfl | exact OneC.sl (hX (by repeat constructor)) ) | exact OneAll.rd (hX (by repeat constructor)))) rfl (pB (by repeat constructor)) rfl (a_on (eX (by repeat constructor)) ?_))
    refine a_take 6 rfl (by kernel_rfl) (by kernel_rfl) (by kernel_rfl) (v_assign rfl) (eX (by repeat constructor)) (dd rfl) ?_
    refine a_done (by kernel_rfl) ?_ _
    refine c_ret_ct Tryz.func19 rfl ⟨_, Tryz.underlying48⟩ ti48 rfl rfl (hX (by repeat constructor)) fun w O hS => ?_
    exact ⟨v, by rw [decide_eq_true rfl]; rfl, trivial, Ent.get hS (eX (by repeat constructor))⟩
  · rw [if_neg h0]
    refine c_seq ?_
    refine c_region ?_
    refine o_val (v_eq rfl rfl) (dd rfl) ?_
    refine o_val (v_assign rfl) (dd rfl) ?_
    refine o_nil ?_
    refine c_cond_p rfl (fun h1 => ?_) (fun h1 => ?_)
    · have r1 := takeFlagRef_con B s hB' h
      have r2 := inFlag_con i bv s te pe
      rw [if_pos h1]
      unfold inS inV at r1
      refine c_seq ?_
      refine c_region ?_
      refine o_val (v_load_all ⟨_, Tryz.underlying48⟩ ti48 rfl (hX (by repeat constructor)) rfl) (dd rfl) ?_
      refine o_step (s_callf cl60 (r1) rfl (dd rfl) (pXs (by repeat constructor)) fun _ _ => ?_)
      refine o_val (v_move rfl) (dd rfl) ?_
      refine o_val (v_extract rfl rfl) (dd rfl) ?_
      refine o_val (v_extract rfl rfl) (dd rfl) ?_
      refine o_step (s_alloc ti48 (dd rfl) (fun b10 => ?_))
      refine o_step (s_store_all ti48 rfl rfl (by first | exact CellsV.lit rfl | exact CellsV.one (by first | exact OneC.lit rfl | exact OneC.sl (hX (by repeat constructor)) )) (by repeat (first | exact OneAll.nil | (refine OneAll.cons ?_ ?_; · first | exact OneC.lit rfl | exact OneC.sl (hX (by repeat constructor)) ) | exact OneAll.rd (hX (by repeat constructor)))) rfl (pB (by repeat constructor)) rfl (?_))
      refine o_val (v_assign rfl) (dd rfl) ?_
      refine o_nil ?_
      refine c_seq ?_
      refine c_held [BlkR b10 48 [.string B, .int .i64 (plc B (takeFlag s).1), .bool (takeFlag s).1.2]] rfl ?_
      refine a_take 0 rfl (by kernel_rfl) (by kernel_rfl) (by kernel_rfl) (v_load_all ⟨_, Tryz.underlying48⟩ ti48 rfl (hX (by repeat constructor)) rfl) (eX (by repeat constructor)) (dd rfl) ?_
      refine a_take 1 rfl (by kernel_rfl) (by kernel_rfl) (by kernel_rfl) (v_move rfl) (eX (by repeat constructor)) (dd rfl) ?_
      refine a_take 3 rfl (by kernel_rfl) (by kernel_rfl) (by kernel_rfl) (v_move rfl) (eX (by repeat constructor)) (dd rfl) ?_
      refine a_one 2 rfl (by kernel_rfl) (s_callf cl15 (r2) rfl (dd rfl) (pXs (by repeat constructor)) (fun v _ => a_on (eX (by repeat constructor)) ?_))
      refine a_take 4 rfl (by kernel_rfl) (by kernel_rfl) (by kernel_rfl) (v_beq Tryz.underlying4 rfl rfl) (eX (by repeat constructor)) (dd rfl) ?_
      refine a_one 5 rfl (by kernel_rfl) (s_store_all ti48 rfl rfl (by first | exact CellsV.lit rfl | exact CellsV.one (by first | exact OneC.lit rfl | exact OneC.sl (hX (by repeat constructor)) )) (by repeat (first | exact OneAll.nil | (refine OneAll.cons ?_ ?_; · first | exact OneC.lit rfl | exact OneC.sl (hX (by repeat constructor)) ) | exact OneAll.rd (hX (by repeat constructor)))) rfl (pB (by repeat constructor)) rfl (a_on (eX (by repeat constructor)) ?_))
      refine a_take 6 rfl (by kernel_rfl) (by kernel_rfl) (by kernel_rfl) (v_assign rfl) (eX (by repeat constructor)) (dd rfl) ?_
      refine a_done (by kernel_rfl) ?_ _
      refine c_ret_ct Tryz.func19 rfl ⟨_, Tryz.underlying48⟩ ti48 rfl rfl (hX (by repeat constructor)) fun w O hS => ?_
      exact ⟨v, by rw [decide_eq_true rfl]; rfl, trivial, Ent.get hS (eX (by repeat constructor))⟩
    · rw [if_neg h1]
      refine c_seq ?_
      refine c_region ?_
      refine o_val (v_eq rfl rfl) (dd rfl) ?_
      refine o_val (v_assign rfl) (dd rfl) ?_
      refine o_nil ?_
      refine c_cond_p rfl (fun h2 => ?_) (fun h2 => ?_)
      · have r1 := takeTextRef_con B s m hB' h
        have r2 := inText_con i bv s m te pe
        rw [if_pos h2]
        unfold inS inV at r1
        refine c_seq ?_
        refine c_region ?_
        refine o_val (v_load_all ⟨_, Tryz.underlying48⟩ ti48 rfl (hX (by repeat constructor)) rfl) (dd rfl) ?_
        refine o_val (v_fieldAddrC 1 Tryz.underlying50 rfl ti3 (by decide) rfl) (dd rfl) ?_
        refine o_val (v_load lone3 rfl (hX (by repeat constructor)) rfl) (dd rfl) ?_
        refine o_step (s_callf cl61 (r1) rfl (dd rfl) (pXs (by repeat constructor)) fun _ _ => ?_)
        refine o_val (v_move rfl) (dd rfl) ?_
        refine o_val (v_extract rfl rfl) (dd rfl) ?_
        refine o_val (v_extract rfl rfl) (dd rfl) ?_
        refine o_step (s_alloc ti48 (dd rfl) (fun b12 => ?_))
        refine o_step (s_store_all ti48 rfl rfl (by first | exact CellsV.lit rfl | exact CellsV.one (by first | exact OneC.lit rfl | exact OneC.sl (hX (by repeat constructor)) )) (by repeat (first | exact OneAll.nil | (refine OneAll.cons ?_ ?_; · first | exact OneC.lit rfl | exact OneC.sl (hX (by repeat constructor)) ) | exact OneAll.rd (hX (by repeat constructor)))) rfl (pB (by repeat constructor)) rfl (?_))
        refine o_val (v_assign rfl) (dd rfl) ?_
        refine o_nil ?_
        refine c_seq ?_
        refine c_held [BlkR b12 48 [.string B, .int .i64 (plc B (takeText m s).1), .bool (takeText m s).1.2], BlkR b5 50 [.int .i64 k, .int .i64 m, .int .i64 e]] rfl ?_
        refine a_take 0 rfl (by kernel_rfl) (by kernel_rfl) (by kernel_rfl) (v_load_all ⟨_, Tryz.underlying48⟩ ti48 rfl (hX (by repeat constructor)) rfl) (eX (by repeat constructor)) (dd rfl) ?_
        refine a_take 1 rfl (by kernel_rfl) (by kernel_rfl) (by kernel_rfl) (v_move rfl) (eX (by repeat constructor)) (dd rfl) ?_
        refine a_take 2 rfl (by kernel_rfl) (by kernel_rfl) (by kernel_rfl) (v_fieldAddrC 1 Tryz.underlying50 rfl ti3 (by decide) rfl) (eX (by repeat constructor)) (dd rfl) ?_
        refine a_take 3 rfl (by kernel_rfl) (by kernel_rfl) (by kernel_rfl) (v_load lone3 rfl (hX (by repeat constructor)) rfl) (eX (by repeat constructor)) (dd rfl) ?_
        refine a_take 5 rfl (by kernel_rfl) (by kernel_rfl) (by kernel_rfl) (v_move rfl) (eX (by repeat constructor)) (dd rfl) ?_
        refine a_one 4 rfl (by kernel_rfl) (s_callf cl16 (r2) rfl (dd rfl) (pXs (by repeat constructor)) (fun v _ => a_on (eX (by repeat constructor)) ?_))
        refine a_take 6 rfl (by kernel_rfl) (by kernel_rfl) (by kernel_rfl) (v_seq rfl rfl) (eX (by repeat constructor)) (dd rfl) ?_
        refine a_one 7 rfl (by kernel_rfl) (s_store_all ti48 rfl rfl (by first | exact CellsV.lit rfl | exact CellsV.one (by first | exact OneC.lit rfl | exact OneC.sl (hX (by repeat constructor)) )) (by repeat (first | exact OneAll.nil | (refine OneAll.cons ?_ ?_; · first | exact OneC.lit rfl | exact OneC.sl (hX (by repeat constructor)) ) | exact OneAll.rd (hX (by repeat constructor)))) rfl (pB (by repeat constructor)) rfl (a_on (eX (by repeat constructor)) ?_))
        refine a_take 8 rfl (by kernel_rfl) (by kernel_rfl) (by kernel_rfl) (v_assign rfl) (eX (by repeat constructor)) (dd rfl) ?_
        refine a_done (by kernel_rfl) ?_ _
        refine c_ret_ct Tryz.func19 rfl ⟨_, Tryz.underlying48⟩ ti48 rfl rfl (hX (by repeat constructor)) fun w O hS => ?_
        exact ⟨v, by rw [decide_eq_true rfl]; rfl, trivial, Ent.get hS (eX (by repeat constructor))⟩
      · rw [if_neg h2]
        refine c_seq ?_
        refine c_region ?_
        refine o_val (v_eq rfl rfl) (dd rfl) ?_
        refine o_val (v_assign rfl) (dd rfl) ?_
        refine o_nil ?_
        refine c_cond_p rfl (fun h3 => ?_) (fun h3 => ?_)
        · have r1 := takeTextsRef_con B s m e hB' h
          have r2 := inTexts_con i bv s m e te pe
          have hl : (takeTexts m e s).2.length ≤ 1000000 := Nat.le_trans (some_short (less_text e)) hs
          have r3 := fun u v => same_ref_con u v (takeTexts m e s).2 (takeTexts m e s).2 hl hl
          rw [if_pos h3]
          unfold inS inV at r1
          refine c_seq ?_
          refine c_region ?_
          refine o_val (v_load_all ⟨_, Tryz.underlying48⟩ ti48 rfl (hX (by repeat constructor)) rfl) (dd rfl) ?_
          refine o_val (v_fieldAddrC 1 Tryz.underlying50 rfl ti3 (by decide) rfl) (dd rfl) ?_
          refine o_val (v_load lone3 rfl (hX (by repeat constructor)) rfl) (dd rfl) ?_
          refine o_val (v_fieldAddrC 2 Tryz.underlying50 rfl ti3 (by decide) rfl) (dd rfl) ?_
          refine o_val (v_load lone3 rfl (hX (by repeat constructor)) rfl) (dd rfl) ?_
          refine o_step (s_callf cl62 (r1) rfl (dd rfl) (pXs (by repeat constructor)) fun u _ => ?_)
          refine o_val (v_move rfl) (dd rfl) ?_
          refine o_val (v_extract rfl rfl) (dd rfl) ?_
          refine o_val (v_extract rfl rfl) (dd rfl) ?_
          refine o_step (s_alloc ti48 (dd rfl) (fun b14 => ?_))
          refine o_step (s_store_all ti48 rfl rfl (by first | exact CellsV.lit rfl | exact CellsV.one (by first | exact OneC.lit rfl | exact OneC.sl (hX (by repeat constructor)) )) (by repeat (first | exact OneAll.nil | (refine OneAll.cons ?_ ?_; · first | exact OneC.lit rfl | exact OneC.sl (hX (by repeat constructor)) ) | exact OneAll.rd (hX (by repeat constructor)))) rfl (pB (by repeat constructor)) rfl (?_))
          refine o_val (v_assign rfl) (dd rfl) ?_
          refine o_nil ?_
          refine c_seq ?_
          refine c_held [BlkR b14 48 [.string B, .int .i64 (plc B (takeTexts m e s).1), .bool (takeTexts m e s).1.2], BlkR b5 50 [.int .i64 k, .int .i64 m, .int .i64 e]] rfl ?_
          refine a_take 0 rfl (by kernel_rfl) (by kernel_rfl) (by kernel_rfl) (v_load_all ⟨_, Tryz.underlying48⟩ ti48 rfl (hX (by repeat constructor)) rfl) (eX (by repeat constructor)) (dd rfl) ?_
          refine a_take 1 rfl (by kernel_rfl) (by kernel_rfl) (by kernel_rfl) (v_move rfl) (eX (by repeat constructor)) (dd rfl) ?_
          refine a_take 2 rfl (by kernel_rfl) (by kernel_rfl) (by kernel_rfl) (v_fieldAddrC 1 Tryz.underlying50 rfl ti3 (by decide) rfl) (eX (by repeat constructor)) (dd rfl) ?_
          refine a_take 3 rfl (by kernel_rfl) (by kernel_rfl) (by kernel_rfl) (v_load lone3 rfl (hX (by repeat constructor)) rfl) (eX (by repeat constructor)) (dd rfl) ?_
          refine a_take 4 rfl (by kernel_rfl) (by kernel_rfl) (by kernel_rfl) (v_fieldAddrC 2 Tryz.underlying50 rfl ti3 (by decide) rfl) (eX (by repeat constructor)) (dd rfl) ?_
          refine a_take 5 rfl (by kernel_rfl) (by kernel_rfl) (by kernel_rfl) (v_load lone3 rfl (hX (by repeat constructor)) rfl) (eX (by repeat constructor)) (dd rfl) ?_
          refine a_take 7 rfl (by kernel_rfl) (by kernel_rfl) (by kernel_rfl) (v_move rfl) (eX (by repeat constructor)) (dd rfl) ?_
          refine a_one 6 rfl (by kernel_rfl) (s_callf cl17 (r2) rfl (dd rfl) (pXs (by repeat constructor)) (fun g _ => a_on (eX (by repeat constructor)) ?_))
          refine a_one 8 rfl (by kernel_rfl) (s_callf_keep cl23 (r3 g.2 u) rfl (dd rfl) (rX (by repeat constructor)) (fun _ => sX) (fun _ _ => a_on (eX (by repeat constructor)) ?_))
          refine a_one 9 rfl (by kernel_rfl) (s_store_all ti48 rfl rfl (by first | exact CellsV.lit rfl | exact CellsV.one (by first | exact OneC.lit rfl | exact OneC.sl (hX (by repeat constructor)) )) (by repeat (first | exact OneAll.nil | (refine OneAll.cons ?_ ?_; · first | exact OneC.lit rfl | exact OneC.sl (hX (by repeat constructor)) ) | exact OneAll.rd (hX (by repeat constructor)))) rfl (pB (by repeat constructor)) rfl (a_on (eX (by repeat constructor)) ?_))
          refine a_take 10 rfl (by kernel_rfl) (by kernel_rfl) (by kernel_rfl) (v_assign rfl) (eX (by repeat constructor)) (dd rfl) ?_
          refine a_done (by kernel_rfl) ?_ _
          refine c_ret_ct Tryz.func19 rfl ⟨_, Tryz.underlying48⟩ ti48 rfl rfl (hX (by repeat constructor)) fun w O hS => ?_
          exact ⟨g.1, by rw [decide_eq_true rfl]; rfl, trivial, Ent.get hS (eX (by repeat constructor))⟩
        · rw [if_neg h3]
          refine c_seq ?_
          refine c_region ?_
          refine o_val (v_eq rfl rfl) (dd rfl) ?_
          refine o_val (v_assign rfl) (dd rfl) ?_
          refine o_nil ?_
          refine c_cond_p rfl (fun h4 => ?_) (fun h4 => ?_)
          · have r1 := takePrimRef_con B s hB h
            have r2 := inPrim_con i bv s hs te pe
            have r3 := fun o w o' w' => samePrR_con (takePrim s).2 (takePrim s).2 o w o' w' (prim_short hs) (prim_short hs)
            rw [if_pos h4]
            unfold inS inV at r1
            refine c_seq ?_
            refine c_region ?_
            refine o_val (v_load_all ⟨_, Tryz.underlying48⟩ ti48 rfl (hX (by repeat constructor)) rfl) (dd rfl) ?_
            refine o_step (s_callf cl63 (r1) rfl (dd rfl) (pXs (by repeat constructor)) fun u _ => ?_)
            refine o_val (v_move rfl) (dd rfl) ?_
            refine o_val (v_extract rfl rfl) (dd rfl) ?_
            refine o_val (v_extract rfl rfl) (dd rfl) ?_
            refine o_step (s_alloc ti48 (dd rfl) (fun b16 => ?_))
            refine o_step (s_alloc ti30 (dd rfl) (fun b17 => ?_))
            refine o_step (s_store_all ti48 rfl rfl (by first | exact CellsV.lit rfl | exact CellsV.one (by first | exact OneC.lit rfl | exact OneC.sl (hX (by repeat constructor)) )) (by repeat (first | exact OneAll.nil | (refine OneAll.cons ?_ ?_; · first | exact OneC.lit rfl | exact OneC.sl (hX (by repeat constructor)) ) | exact OneAll.rd (hX (by repeat constructor)))) rfl (pB (by repeat constructor)) rfl (?_))
            refine o_step (s_store_all ti30 rfl rfl (by first | exact CellsV.lit rfl | exact CellsV.one (by first | exact OneC.lit rfl | exact OneC.sl (hX (by repeat constructor)) )) (by repeat (first | exact OneAll.nil | (refine OneAll.cons ?_ ?_; · first | exact OneC.lit rfl | exact OneC.sl (hX (by repeat constructor)) ) | exact OneAll.rd (hX (by repeat constructor)))) rfl (pB (by repeat constructor)) rfl (?_))
            refine o_nil ?_
            refine c_seq ?_
            refine c_held [BlkR b16 48 [.string B, .int .i64 (plc B (takePrim s).1), .bool (takePrim s).1.2], BlkR b17 30 [.int .i64 (takePrim s).2.1, .string (takePrim s).2.2.1, .string (takePrim s).2.2.2.1, .int .i64 (takePrim s).2.2.2.2.1, u.1, u.2]] rfl ?_
            refine a_take 0 rfl (by kernel_rfl) (by kernel_rfl) (by kernel_rfl) (v_load_all ⟨_, Tryz.underlying48⟩ ti48 rfl (hX (by repeat constructor)) rfl) (eX (by repeat constructor)) (dd rfl) ?_
            refine a_take 1 rfl (by kernel_rfl) (by kernel_rfl) (by kernel_rfl) (v_move rfl) (eX (by repeat constructor)) (dd rfl) ?_
            refine a_take 3 rfl (by kernel_rfl) (by kernel_rfl) (by kernel_rfl) (v_load_all ⟨_, Tryz.underlying30⟩ ti30 rfl (hX (by repeat constructor)) rfl) (eX (by repeat constructor)) (dd rfl) ?_
            refine a_one 2 rfl (by kernel_rfl) (s_callf cl25 (r2) rfl (dd rfl) (pXs (by repeat constructor)) (fun g _ => a_on (eX (by repeat constructor)) ?_))
            refine a_one 4 rfl (by kernel_rfl) (s_callf cl24 (r3 g.2.1 g.2.2 u.1 u.2) rfl (dd rfl) (pXs (by repeat constructor)) (fun _ _ => a_on (eX (by repeat constructor)) ?_))
            refine a_one 5 rfl (by kernel_rfl) (s_store_all ti48 rfl rfl (by first | exact CellsV.lit rfl | exact CellsV.one (by first | exact OneC.lit rfl | exact OneC.sl (hX (by repeat constructor)) )) (by repeat (first | exact OneAll.nil | (refine OneAll.cons ?_ ?_; · first | exact OneC.lit rfl | exact OneC.sl (hX (by repeat constructor)) ) | exact OneAll.rd (hX (by repeat constructor)))) rfl (pB (by repeat constructor)) rfl (a_on (eX (by repeat constructor)) ?_))
            refine a_take 6 rfl (by kernel_rfl) (by kernel_rfl) (by kernel_rfl) (v_assign rfl) (eX (by repeat constructor)) (dd rfl) ?_
            refine a_done (by kernel_rfl) ?_ _
            refine c_ret_ct Tryz.func19 rfl ⟨_, Tryz.underlying48⟩ ti48 rfl rfl (hX (by repeat constructor)) fun w O hS => ?_
            exact ⟨g.1, by rw [decide_eq_true rfl]; rfl, trivial, Ent.get hS (eX (by repeat constructor))⟩
          · rw [if_neg h4]
            refine c_seq ?_
            refine c_region ?_
            refine o_val (v_eq rfl rfl) (dd rfl) ?_
            refine o_val (v_assign rfl) (dd rfl) ?_
            refine o_nil ?_
            refine c_cond_p rfl (fun h5 => ?_) (fun h5 => ?_)
            · have r1 := takePrimsRef_con B s m hB h
              have r2 := inPrims_con i bv s m hs te pe
              have hsh := prims_short (m := m) hs
              have r3 := fun v => oldPr_con v (takePrims m s).2 hsh.1
              have r4 := fun u v => allR_con u v (takePrims m s).2 (takePrims m s).2 hsh hsh
              rw [if_pos h5]
              unfold inS inV at r1
              refine c_seq ?_
              refine c_region ?_
              refine o_val (v_load_all ⟨_, Tryz.underlying48⟩ ti48 rfl (hX (by repeat constructor)) rfl) (dd rfl) ?_
              refine o_val (v_fieldAddrC 1 Tryz.underlying50 rfl ti3 (by decide) rfl) (dd rfl) ?_
              refine o_val (v_load lone3 rfl (hX (by repeat constructor)) rfl) (dd rfl) ?_
              refine o_step (s_callf cl64 (r1) rfl (dd rfl) (pXs (by repeat constructor)) fun u _ => ?_)
              refine o_val (v_move rfl) (dd rfl) ?_
              refine o_val (v_extract rfl rfl) (dd rfl) ?_
              refine o_val (v_extract rfl rfl) (dd rfl) ?_
              refine o_step (s_alloc ti48 (dd rfl) (fun b18 => ?_))
              refine o_step (s_store_all ti48 rfl rfl (by first | exact CellsV.lit rfl | exact CellsV.one (by first | exact OneC.lit rfl | exact OneC.sl (hX (by repeat constructor)) )) (by repeat (first | exact OneAll.nil | (refine OneAll.cons ?_ ?_; · first | exact OneC.lit rfl | exact OneC.sl (hX (by repeat constructor)) ) | exact OneAll.rd (hX (by repeat constructor)))) rfl (pB (by repeat constructor)) rfl (?_))
              refine o_val (v_assign rfl) (dd rfl) ?_
              refine o_nil ?_
              refine c_seq ?_
              refine c_held [BlkR b18 48 [.string B, .int .i64 (plc B (takePrims m s).1), .bool (takePrims m s).1.2], BlkR b5 50 [.int .i64 k, .int .i64 m, .int .i64 e]] rfl ?_
              refine a_take 0 rfl (by kernel_rfl) (by kernel_rfl) (by kernel_rfl) (v_load_all ⟨_, Tryz.underlying48⟩ ti48 rfl (hX (by repeat constructor)) rfl) (eX (by repeat constructor)) (dd rfl) ?_
              refine a_take 1 rfl (by kernel_rfl) (by kernel_rfl) (by kernel_rfl) (v_move rfl) (eX (by repeat constructor)) (dd rfl) ?_
              refine a_take 2 rfl (by kernel_rfl) (by kernel_rfl) (by kernel_rfl) (v_fieldAddrC 1 Tryz.underlying50 rfl ti3 (by decide) rfl) (eX (by repeat constructor)) (dd rfl) ?_
              refine a_take 3 rfl (by kernel_rfl) (by kernel_rfl) (by kernel_rfl) (v_load lone3 rfl (hX (by repeat constructor)) rfl) (eX (by repeat constructor)) (dd rfl) ?_
              refine a_take 6 rfl (by kernel_rfl) (by kernel_rfl) (by kernel_rfl) (v_move rfl) (eX (by repeat constructor)) (dd rfl) ?_
              refine a_one 4 rfl (by kernel_rfl) (s_callf cl28 (r2) rfl (dd rfl) (pXs (by repeat constructor)) (fun g _ => a_on (eX (by repeat constructor)) ?_))
              refine a_one 5 rfl (by kernel_rfl) (s_callf cl27 (r3 g.2) rfl (dd rfl) (pXs (by repeat constructor)) (fun o _ => a_on (eX (by repeat constructor)) ?_))
              refine a_one 7 rfl (by kernel_rfl) (s_callf cl26 (r4 o u) rfl (dd rfl) (pXs (by repeat constructor)) (fun _ _ => a_on (eX (by repeat constructor)) ?_))
              refine a_one 8 rfl (by kernel_rfl) (s_store_all ti48 rfl rfl (by first | exact CellsV.lit rfl | exact CellsV.one (by first | exact OneC.lit rfl | exact OneC.sl (hX (by repeat constructor)) )) (by repeat (first | exact OneAll.nil | (refine OneAll.cons ?_ ?_; · first | exact OneC.lit rfl | exact OneC.sl (hX (by repeat constructor)) ) | exact OneAll.rd (hX (by repeat constructor)))) rfl (pB (by repeat constructor)) rfl (a_on (eX (by repeat constructor)) ?_))
              refine a_take 9 rfl (by kernel_rfl) (by kernel_rfl) (by kernel_rfl) (v_assign rfl) (eX (by repeat constructor)) (dd rfl) ?_
              refine a_done (by kernel_rfl) ?_ _
              refine c_ret_ct Tryz.func19 rfl ⟨_, Tryz.underlying48⟩ ti48 rfl rfl (hX (by repeat constructor)) fun w O hS => ?_
              exact ⟨g.1, by rw [decide_eq_true rfl]; rfl, trivial, Ent.get hS (eX (by repeat constructor))⟩
            · rw [if_neg h5]
              refine c_seq ?_
              refine c_region ?_
              refine o_val (v_eq rfl rfl) (dd rfl) ?_
              refine o_val (v_assign rfl) (dd rfl) ?_
              refine o_nil ?_
              refine c_cond_p rfl (fun h6 => ?_) (fun h6 => ?_)
              · have r1 := takePatchRef_con B s hB h
                have r2 := inPatch_con i bv s hs te pe
                have hsh := patch_short hs
                have r3 := fun dv lv => oldT_con (takePatch s).2 dv lv hsh.2.1
                have r4 := fun d l d' l' => sameTR_con (takePatch s).2 (takePatch s).2 d l d' l' hsh hsh
                rw [if_pos h6]
                unfold inS inV at r1
                refine c_seq ?_
                refine c_region ?_
                refine o_val (v_load_all ⟨_, Tryz.underlying48⟩ ti48 rfl (hX (by repeat constructor)) rfl) (dd rfl) ?_
                refine o_step (s_callf cl65 (r1) rfl (dd rfl) (pXs (by repeat constructor)) fun u _ => ?_)
                refine o_val (v_move rfl) (dd rfl) ?_
                refine o_val (v_extract rfl rfl) (dd rfl) ?_
                refine o_val (v_extract rfl rfl) (dd rfl) ?_
                refine o_step (s_alloc ti48 (dd rfl) (fun b20 => ?_))
                refine o_step (s_alloc ti34 (dd rfl) (fun b21 => ?_))
                refine o_step (s_store_all ti48 rfl rfl (by first | exact CellsV.lit rfl | exact CellsV.one (by first | exact OneC.lit rfl | exact OneC.sl (hX (by repeat constructor)) )) (by repeat (first | exact OneAll.nil | (refine OneAll.cons ?_ ?_; · first | exact OneC.lit rfl | exact OneC.sl (hX (by repeat constructor)) ) | exact OneAll.rd (hX (by repeat constructor)))) rfl (pB (by repeat constructor)) rfl (?_))
                refine o_step (s_store_all ti34 rfl rfl (by first | exact CellsV.lit rfl | exact CellsV.one (by first | exact OneC.lit rfl | exact OneC.sl (hX (by repeat constructor)) )) (by repeat (first | exact OneAll.nil | (refine OneAll.cons ?_ ?_; · first | exact OneC.lit rfl | exact OneC.sl (hX (by repeat constructor)) ) | exact OneAll.rd (hX (by repeat constructor)))) rfl (pB (by repeat constructor)) rfl (?_))
                refine o_nil ?_
                refine c_seq ?_
                refine c_held [BlkR b20 48 [.string B, .int .i64 (plc B (takePatch s).1), .bool (takePatch s).1.2], BlkR b21 34 [.int .i64 (takePatch s).2.1, .string (takePatch s).2.2.1, u.1, u.2]] rfl ?_
                refine a_take 0 rfl (by kernel_rfl) (by kernel_rfl) (by kernel_rfl) (v_load_all ⟨_, Tryz.underlying48⟩ ti48 rfl (hX (by repeat constructor)) rfl) (eX (by repeat constructor)) (dd rfl) ?_
                refine a_take 1 rfl (by kernel_rfl) (by kernel_rfl) (by kernel_rfl) (v_move rfl) (eX (by repeat constructor)) (dd rfl) ?_
                refine a_take 4 rfl (by kernel_rfl) (by kernel_rfl) (by kernel_rfl) (v_load_all ⟨_, Tryz.underlying34⟩ ti34 rfl (hX (by repeat constructor)) rfl) (eX (by repeat constructor)) (dd rfl) ?_
                refine a_one 2 rfl (by kernel_rfl) (s_callf cl31 (r2) rfl (dd rfl) (pXs (by repeat constructor)) (fun g _ => a_on (eX (by repeat constructor)) ?_))
                refine a_one 3 rfl (by kernel_rfl) (s_callf cl30 (r3 g.2.1 g.2.2) rfl (dd rfl) (pXs (by repeat constructor)) (fun o _ => a_on (eX (by repeat constructor)) ?_))
                refine a_one 5 rfl (by kernel_rfl) (s_callf cl29 (r4 g.2.1 o u.1 u.2) rfl (dd rfl) (pXs (by repeat constructor)) (fun _ _ => a_on (eX (by repeat constructor)) ?_))
                refine a_one 6 rfl (by kernel_rfl) (s_store_all ti48 rfl rfl (by first | exact CellsV.lit rfl | exact CellsV.one (by first | exact OneC.lit rfl | exact OneC.sl (hX (by repeat constructor)) )) (by repeat (first | exact OneAll.nil | (refine OneAll.cons ?_ ?_; · first | exact OneC.lit rfl | exact OneC.sl (hX (by repeat constructor)) ) | exact OneAll.rd (hX (by repeat constructor)))) rfl (pB (by repeat constructor)) rfl (a_on (eX (by repeat constructor)) ?_))
                refine a_take 7 rfl (by kernel_rfl) (by kernel_rfl) (by kernel_rfl) (v_assign rfl) (eX (by repeat constructor)) (dd rfl) ?_
                refine a_done (by kernel_rfl) ?_ _
                refine c_ret_ct Tryz.func19 rfl ⟨_, Tryz.underlying48⟩ ti48 rfl rfl (hX (by repeat constructor)) fun w O hS => ?_
                exact ⟨g.1, by rw [decide_eq_true rfl]; rfl, trivial, Ent.get hS (eX (by repeat constructor))⟩
              · rw [if_neg h6]
                refine c_skip ?_
                refine c_inBlock ?_
                refine c_seq ?_
                refine c_region ?_
                refine o_val (v_load_all ⟨_, Tryz.underlying48⟩ ti48 rfl (hX (by repeat constructor)) rfl) (dd rfl) ?_
                refine o_step (s_store_all ti48 rfl rfl (by first | exact CellsV.lit rfl | exact CellsV.one (by first | exact OneC.lit rfl | exact OneC.sl (hX (by repeat constructor)) )) (by repeat (first | exact OneAll.nil | (refine OneAll.cons ?_ ?_; · first | exact OneC.lit rfl | exact OneC.sl (hX (by repeat constructor)) ) | exact OneAll.rd (hX (by repeat constructor)))) rfl (pB (by repeat constructor)) rfl (?_))
                refine o_val (v_assign rfl) (dd rfl) ?_
                refine o_nil ?_
                refine c_ret_ct Tryz.func19 rfl ⟨_, Tryz.underlying48⟩ ti48 rfl rfl (hX (by repeat constructor)) fun w O hS => ?_
                exact ⟨bv, rfl, trivial, Ent.get hS (eX (by repeat constructor))⟩
end Go.Proofs.YtmgkeippepeggaaGreatDoor
/- Chapter 09: alive. -/
namespace Go.Proofs.YtmgkeippepeggaaGreatDoor
open Go Go.SL Go.Lib
theorem takeFlag_enc (b : Bool) (r : List UInt8) : takeFlag (flagB b ++ r, false) = ((r, false), b) := by
  have h1 : clamp9 (if b then 1 else 0) = if b then 1 else 0 := by cases b <;> rfl
  have e : flagB b ++ r = itoa (if b then 1 else 0) ++ 59 :: r := by unfold flagB numB; rw [h1]; simp
  unfold takeFlag num9
  rw [e]
  dsimp only
  rw [if_neg (by decide), number_enc (.inr rfl) (itoa_len (by cases b <;> exact ⟨by decide, by decide⟩))]
  dsimp only
  rw [if_pos (by cases b <;> simp), show (itoa (if b then 1 else 0)).length + 1 = (itoa (if b then 1 else 0) ++ [59]).length by simp, show itoa (if b then 1 else 0) ++ 59 :: r = (itoa (if b then 1 else 0) ++ [59]) ++ r by simp, List.drop_left]
  cases b <;> rfl
def abB : ByteArray := ⟨#[97, 98]⟩
def aB : ByteArray := ⟨#[97]⟩
def pA : Pr9 := (1, aB, ⟨#[]⟩, 0, [], [])
def aliveL : List UInt8 := numB (-7) ++ (textB abB ++ (flagB true ++ primB pA))
theorem alive1 : takeNum (aliveL, false) = ((textB abB ++ (flagB true ++ primB pA), false), -7) := takeNum_enc (by decide) _
theorem alive2 : takeText 5 (textB abB ++ (flagB true ++ primB pA), false) = ((flagB true ++ primB pA, false), abB) := takeText_enc (by decide) (by decide) _
theorem alive3 : takeFlag (flagB true ++ primB pA, false) = ((primB pA, false), true) := takeFlag_enc true _
theorem alive4 : takePrim (primB pA, false) = (([], false), pA) := by
  have := takePrim_enc (p := pA) (by decide) ⟨by decide, by decide⟩ []
  rwa [List.append_nil] at this
theorem alive5 : takeNum ([], false) = (([], true), 0) := rfl
theorem alive6 : sB aliveL = ⟨#[45, 55, 59, 50, 58, 97, 98, 44, 49, 59, 49, 59, 49, 58, 97, 44, 48, 58, 44, 48, 59, 48, 59, 48, 59]⟩ := by decide +kernel
theorem alive7 : aliveL.length = 25 := by decide +kernel
theorem alive8 : (numB (-7)).length ≤ 15 ∧ (textB abB).length ≤ 15 ∧ (flagB true).length ≤ 15 ∧ (primB pA).length ≤ 25 := by decide +kernel
attribute [local irreducible] Cfg Kont StepK Val Con Qops Any Sl Own Blk BlkR Rd Pu ExA AllA Has Pick Ent Elem Beside Callable TI Lone OwnO AndA
set_option maxRecDepth 100000 in
theorem alive_con (te : TypeId) (pe : Value) : Con Tryz.prog 10 [] [G1 te pe, G3] (γ := Unit) (fun _ => .bool true) (fun _ => True) (fun _ => []) := by
  obtain ⟨l1, l2, l3, l4⟩ := alive8
  have c1 := fun b => num_con b (.slice none 0 0) [] (-7) (by decide) (by simp; omega)
  have c2 := fun b v => text_con b v ([] ++ numB (-7)) abB (by simp; omega)
  have c3 := fun b v => flag_con b v ([] ++ numB (-7) ++ textB abB) true (by simp; omega)
  have c4 := fun b v => prim_con b v (.slice none 0 0) (.slice none 0 0) ([] ++ numB (-7) ++ textB abB ++ flagB true) pA ⟨by decide, by decide, by decide, by decide⟩ (by simp; omega)
  have hL : [] ++ numB (-7) ++ textB abB ++ flagB true ++ primB pA = aliveL := by unfold aliveL; simp only [List.nil_append, List.append_assoc]
  rw [hL] at c4
  have c5 := fun b v => bytes_con b v aliveL (by rw [alive7]; decide)
  have c6 := fun v => of_con v aliveL (by rw [alive7]; decide)
  have c7 := fun i v => inNum_con i v (aliveL, false) te pe
  have c8 := fun i v => inText_con i v (textB abB ++ (flagB true ++ primB pA), false) 5 te pe
  have c9 := fun i v => inFlag_con i v (flagB true ++ primB pA, false) te pe
  have cA := fun i v => inPrim_con i v (primB pA, false) (by show (primB pA).length ≤ 1000000; omega) te pe
  have cB := fun i v => done_con i v ([], false)
  have cC := fun i v => left_con i v ([], false)
  have cD := fun i v => inNum_con i v ([], false) te pe
  have cE := fun i v => done_con i v ([], true)
  have cF := fun o w => samePr_con pA pA o w (.slice none 0 0) (.slice none 0 0) ⟨by decide, by decide⟩ ⟨by decide, by decide⟩
  rw [alive1] at c7
  rw [alive2] at c8
  rw [alive3] at c9
  rw [alive4] at cA
  rw [alive5] at cD
  dsimp only at c7 c8 c9 cA cB cC cD cE
  unfold pA abB aB at *
  dsimp only at c4 cA cF
  refine con_of Tryz.func10 rfl (dd rfl) fun w0 O0 => ?_
  refine c_seq ?_
  refine c_region ?_
  refine o_val (v_assign rfl) (dd rfl) ?_
  refine o_nil ?_
  refine c_seq ?_
  refine c_region ?_
  refine o_step (s_alloc ti27 (dd rfl) (fun b1 => ?_))
  refine o_nil ?_
  refine c_seq ?_
  refine c_region ?_
  refine o_step (s_callf cl32 (c1 b1) rfl (dd rfl) (pXs (by repeat constructor)) fun v1 _ => ?_)
  refine o_nil ?_
  refine c_seq ?_
  refine c_region ?_
  refine o_step (s_callf cl34 (c2 b1 v1) rfl (dd rfl) (pXs (by repeat constructor)) fun v2 _ => ?_)
  refine o_nil ?_
  refine c_seq ?_
  refine c_region ?_
  refine o_step (s_callf cl33 (c3 b1 v2) rfl (dd rfl) (pXs (by repeat constructor)) fun v3 _ => ?_)
  refine o_nil ?_
  refine c_seq ?_
  refine c_region ?_
  refine o_val (v_buildS (places := [(0, 1), (1, 1), (2, 1), (3, 1), (4, 1), (5, 1)]) (cells := [_, _, .string ⟨#[]⟩, .int .i64 0, .slice none 0 0, .slice none 0 0]) Tryz.underlying58 ti58 (by kernel_rfl) rfl (by repeat (first | exact PartsC.nil | (apply PartsC.one (by first | exact OneC.lit rfl | exact OneC.sl (hX (by repeat constructor)) )) | (apply PartsC.lit rfl))) rfl) (dd rfl) ?_
  refine o_step (s_callf cl36 (c4 b1 v3) rfl (dd rfl) (pXs (by repeat constructor)) fun v4 _ => ?_)
  refine o_nil ?_
  refine c_seq ?_
  refine c_region ?_
  refine o_step (s_callf_keep cl12 (c5 b1 v4) rfl (dd rfl) (rX (by repeat constructor)) (fun _ => sX) (fun v5 _ => ?_))
  refine o_step (s_callf cl13 (c6 v5) rfl (dd rfl) (pXs (by repeat constructor)) fun g _ => ?_)
  refine o_val (v_assign rfl) (dd rfl) ?_
  refine o_nil ?_
  refine c_seq ?_
  refine c_seq ?_
  refine c_region ?_
  refine o_val (v_move rfl) (dd rfl) ?_
  refine o_val (v_eq_ptr_nil Tryz.underlying40 rfl rfl) (dd rfl) ?_
  refine o_nil ?_
  refine c_cond_f rfl ?_
  refine c_skip ?_
  refine c_seq ?_
  refine c_region ?_
  refine o_val (v_move rfl) (dd rfl) ?_
  refine o_step (s_callf cl14 (c7 g.1 g.2) rfl (dd rfl) (pXs (by repeat constructor)) fun w1 _ => ?_)
  refine o_val (v_move rfl) (dd rfl) ?_
  refine o_step (s_callf cl16 (c8 g.1 w1) rfl (dd rfl) (pXs (by repeat constructor)) fun w2 _ => ?_)
  refine o_val (v_move rfl) (dd rfl) ?_
  refine o_step (s_callf cl15 (c9 g.1 w2) rfl (dd rfl) (pXs (by repeat constructor)) fun w3 _ => ?_)
  refine o_val (v_move rfl) (dd rfl) ?_
  refine o_step (s_callf cl25 (cA g.1 w3) rfl (dd rfl) (pXs (by repeat constructor)) fun h _ => ?_)
  refine o_step (s_alloc ti58 (dd rfl) (fun b6 => ?_))
  refine o_val (v_assign rfl) (dd rfl) ?_
  refine o_val (v_assign rfl) (dd rfl) ?_
  refine o_val (v_assign rfl) (dd rfl) ?_
  refine o_step (s_store_all ti58 rfl rfl (by first | exact CellsV.lit rfl | exact CellsV.one (by first | exact OneC.lit rfl | exact OneC.sl (hX (by repeat constructor)) )) (by repeat (first | exact OneAll.nil | (refine OneAll.cons ?_ ?_; · first | exact OneC.lit rfl | exact OneC.sl (hX (by repeat constructor)) ) | exact OneAll.rd (hX (by repeat constructor)))) rfl (pB (by repeat constructor)) rfl (?_))
  refine o_nil ?_
  refine c_seq ?_
  refine c_region ?_
  refine o_val (v_move rfl) (dd rfl) ?_
  refine o_step (s_callf_keep cl20 (cB g.1 h.1) rfl (dd rfl) (rX (by repeat constructor)) (fun _ => sX) (fun _ _ => ?_))
  refine o_val (v_assign rfl) (dd rfl) ?_
  refine o_nil ?_
  refine c_seq ?_
  refine c_region ?_
  refine o_step (s_callf_keep cl12 (c5 b1 v4) rfl (dd rfl) (rX (by repeat constructor)) (fun _ => sX) (fun v6 _ => ?_))
  refine o_val (v_conv_bytes Tryz.underlying25 Tryz.underlying5 Tryz.underlying9 rfl (hX (by repeat constructor))) (dd rfl) ?_
  refine o_val (v_seq rfl rfl) (dd rfl) ?_
  refine o_val (v_move rfl) (dd rfl) ?_
  refine o_guard rfl rfl (fun _ => ?_) (fun h_ => absurd ((show _ = true from decide_eq_true alive6).symm.trans h_) (by decide))
  refine o_val (v_move rfl) (dd rfl) ?_
  refine o_on rfl rfl ?_
  refine o_val (v_eq rfl rfl) (dd rfl) ?_
  refine o_val (v_pick_t rfl rfl) (dd rfl) ?_
  refine o_val (v_move rfl) (dd rfl) ?_
  refine o_guard rfl rfl (fun _ => ?_) (fun h_ => absurd ((show _ = true from decide_eq_true rfl).symm.trans h_) (by decide))
  refine o_val (v_move rfl) (dd rfl) ?_
  refine o_on rfl rfl ?_
  refine o_val (v_seq rfl rfl) (dd rfl) ?_
  refine o_val (v_pick_t rfl rfl) (dd rfl) ?_
  refine o_val (v_move rfl) (dd rfl) ?_
  refine o_guard rfl rfl (fun _ => ?_) (fun h_ => absurd ((show _ = true from decide_eq_true rfl).symm.trans h_) (by decide))
  refine o_val (v_move rfl) (dd rfl) ?_
  refine o_val (v_pick_t rfl rfl) (dd rfl) ?_
  refine o_val (v_move rfl) (dd rfl) ?_
  refine o_guard rfl rfl (fun _ => ?_) (fun h_ => absurd ((show _ = true from rfl).symm.trans h_) (by decide))
  refine o_val (v_load_all ⟨_, Tryz.underlying58⟩ ti58 rfl (hX (by repeat constructor)) rfl) (dd rfl) ?_
  refine o_on rfl rfl ?_
  refine o_val (v_buildS (places := [(0, 1), (1, 1), (2, 1), (3, 1), (4, 1), (5, 1)]) (cells := [_, _, .string ⟨#[]⟩, .int .i64 0, .slice none 0 0, .slice none 0 0]) Tryz.underlying58 ti58 (by kernel_rfl) rfl (by repeat (first | exact PartsC.nil | (apply PartsC.one (by first | exact OneC.lit rfl | exact OneC.sl (hX (by repeat constructor)) )) | (apply PartsC.lit rfl))) rfl) (dd rfl) ?_
  refine o_on rfl rfl ?_
  refine o_step (s_callf cl39 (cF h.2.1 h.2.2) rfl (dd rfl) (pXs (by repeat constructor)) fun _ _ => ?_)
  refine o_val (v_pick_t rfl rfl) (dd rfl) ?_
  refine o_val (v_move rfl) (dd rfl) ?_
  refine o_guard rfl rfl (fun _ => ?_) (fun h_ => absurd ((show _ = true from decide_eq_true rfl).symm.trans h_) (by decide))
  refine o_val (v_move rfl) (dd rfl) ?_
  refine o_val (v_pick_t rfl rfl) (dd rfl) ?_
  refine o_val (v_move rfl) (dd rfl) ?_
  refine o_guard rfl rfl (fun _ => ?_) (fun h_ => absurd ((show _ = true from decide_eq_true rfl).symm.trans h_) (by decide))
  refine o_val (v_move rfl) (dd rfl) ?_
  refine o_on rfl rfl ?_
  refine o_step (s_callf_keep cl18 (cC g.1 h.1) rfl (dd rfl) (rX (by repeat constructor)) (fun _ => sX) (fun _ _ => ?_))
  refine o_on rfl rfl ?_
  refine o_val (v_eq rfl rfl) (dd rfl) ?_
  refine o_val (v_pick_t rfl rfl) (dd rfl) ?_
  refine o_val (v_move rfl) (dd rfl) ?_
  refine o_guard rfl rfl (fun _ => ?_) (fun h_ => absurd ((show _ = true from decide_eq_true rfl).symm.trans h_) (by decide))
  refine o_val (v_move rfl) (dd rfl) ?_
  refine o_on rfl rfl ?_
  refine o_step (s_callf cl14 (cD g.1 h.1) rfl (dd rfl) (pXs (by repeat constructor)) fun w4 _ => ?_)
  refine o_on rfl rfl ?_
  refine o_val (v_eq rfl rfl) (dd rfl) ?_
  refine o_val (v_pick_t rfl rfl) (dd rfl) ?_
  refine o_val (v_move rfl) (dd rfl) ?_
  refine o_guard rfl rfl (fun _ => ?_) (fun h_ => absurd ((show _ = true from decide_eq_true rfl).symm.trans h_) (by decide))
  refine o_val (v_move rfl) (dd rfl) ?_
  refine o_on rfl rfl ?_
  refine o_step (s_callf_keep cl20 (cE g.1 w4) rfl (dd rfl) (rX (by repeat constructor)) (fun _ => sX) (fun _ _ => ?_))
  refine o_on rfl rfl ?_
  refine o_val (v_not rfl) (dd rfl) ?_
  refine o_val (v_pick_t rfl rfl) (dd rfl) ?_
  refine o_val (v_assign rfl) (dd rfl) ?_
  refine o_nil ?_
  refine c_ret1 Tryz.func10 rfl rfl fun w O hS => ?_
  exact ⟨(), rfl, trivial, trivial⟩
end Go.Proofs.YtmgkeippepeggaaGreatDoor
/- Chapter 09: CodeReads. -/
namespace Go.Proofs.YtmgkeippepeggaaGreatDoor
open Go Go.SL Go.Lib
abbrev eAsk : Enc Ask9 := ePair (eInt .i64) (ePair (eInt .i64) (eInt .i64))
theorem plc_end {B : ByteArray} {s : St9} (h : EndsB B s) : (plc B s : Int) = B.size ↔ s.1 = [] := by
  have h1 := h.at.1
  have h2 := h.at.2.2
  constructor
  · intro q; exact List.length_eq_zero_iff.1 (by omega)
  · intro q; rw [q] at h2; simp only [List.length_nil] at h2; omega
attribute [local irreducible] Cfg Kont StepK Val Con Qops Any Sl Own Blk BlkR Rd Pu ExA AllA Has Pick Ent Elem Beside Callable TI Lone OwnO AndA
set_option maxRecDepth 100000 in
theorem reads_con (v u : Value) (l : List UInt8) (asks : List Ask9) (te : TypeId) (pe : Value) (hl : l.length ≤ 140737488355328) (ha : asks.length ≤ 140737488355328) : Con Tryz.prog 5 [v, u] [Sl eByte v l, Sl eAsk u asks, G1 te pe, G3] (γ := Unit) (fun _ => .bool true) (fun _ => True) (fun _ => []) := by
  have hal := alive_con te pe
  refine con_of Tryz.func5 rfl (dd rfl) fun w0 O0 => ?_
  refine c_seq ?_
  refine c_region ?_
  refine o_val (v_assign rfl) (dd rfl) ?_
  refine o_nil ?_
  refine c_seq ?_
  refine c_seq ?_
  refine c_env (env' := [(0, _), (1, _), (4, _)]) (by repeat (first | exact trivial | refine ⟨rfl, ?_⟩)) ?_
  refine c_joinb (d := 18) (decide (3000 < l.length ∨ 40 < asks.length)) ?_ ?_
  rotate_left
  · intro J
    refine c_region ?_
    refine o_val (v_move rfl) (dd rfl) ?_
    refine o_val ((by first | exact v_len_form Tryz.underlying25 rfl | exact v_len_sl Tryz.underlying25 rfl (hX (by repeat constructor)))) (dd rfl) ?_
    refine o_val (v_gt rfl rfl) (dd rfl) ?_
    refine o_val (v_move rfl) (dd rfl) ?_
    first | refine o_guard_f rfl rfl (fun g14 => ?_) (fun g14 => ?_) | refine o_guard rfl rfl (fun g14 => ?_) (fun g14 => ?_)
    · refine o_val (v_move rfl) (dd rfl) ?_
      refine o_on rfl rfl ?_
      refine o_val ((by first | exact v_len_form Tryz.underlying46 rfl | exact v_len_sl Tryz.underlying46 rfl (hX (by repeat constructor)))) (dd rfl) ?_
      refine o_on rfl rfl ?_
      refine o_val (v_gt rfl rfl) (dd rfl) ?_
      refine o_val (v_pick_f rfl rfl) (dd rfl) ?_
      refine o_nil ?_
      exact c_use J ⟨Env.as rfl (congrArg Value.bool (by first | rfl | (simp_all; done) | (simp_all; omega) | exact decide_eq_decide.2 (by omega) | exact (decide_eq_true (by omega)).symm)), (by repeat (first | exact trivial | refine ⟨rfl, ?_⟩))⟩ (by first | exact Ent.refl _ | exact eX (by repeat constructor))
    · refine o_off rfl rfl rfl (dd rfl) ?_
      refine o_off rfl rfl rfl (dd rfl) ?_
      refine o_off rfl rfl rfl (dd rfl) ?_
      refine o_val (v_pick_t rfl rfl) (dd rfl) ?_
      refine o_nil ?_
      exact c_use J ⟨Env.as rfl (congrArg Value.bool (by first | rfl | (simp_all; done) | (simp_all; omega) | exact decide_eq_decide.2 (by omega) | exact (decide_eq_true (by omega)).symm)), (by repeat (first | exact trivial | refine ⟨rfl, ?_⟩))⟩ (by first | exact Ent.refl _ | exact eX (by repeat constructor))
  refine c_cond_p rfl (fun h0 => ?_) (fun h0 => ?_)
  · refine c_seq ?_
    refine c_region ?_
    refine o_step (s_callf cl10 (hal) rfl (dd rfl) (pXs (by repeat constructor)) fun _ _ => ?_)
    refine o_val (v_assign rfl) (dd rfl) ?_
    refine o_nil ?_
    refine c_ret1 Tryz.func5 rfl rfl fun w O hS => ?_
    exact ⟨(), rfl, trivial, trivial⟩
  · have hof := of_con v l (by omega)
    obtain ⟨B, hB⟩ : ∃ B, B = sB l := ⟨_, rfl⟩
    have hBs : B.size = l.length := by rw [hB, sB_size]
    have hst : EndsB B (l, false) ∧ plc B (l, false) = 0 := by have := EndsB.start B false; rwa [show B.data.toList = l by rw [hB, sB_list]] at this
    refine c_skip ?_
    refine c_seq ?_
    refine c_joinR (γ := Nat × Value × Nat) [(1, _), (4, _)] (fun _ => True) (fun g => [(5, ptr g.1), (6, ptr g.2.2)]) (fun g => [Blk g.1 92 [g.2.1, .bool false], Sl eByte g.2.1 l, Blk g.2.2 48 [.string B, .int .i64 0, .bool false], Sl eAsk u asks, G1 te pe, G3]) (by repeat (first | exact trivial | refine ⟨rfl, ?_⟩)) ?_ ?_
    rotate_left
    · intro MEET
      rw [hB] at MEET
      skip
      refine c_held [Sl eByte v l] rfl ?_
      refine a_take 0 rfl (by kernel_rfl) (by kernel_rfl) (by kernel_rfl) (v_move rfl) (eX (by repeat constructor)) (dd rfl) ?_
      refine a_take 2 rfl (by kernel_rfl) (by kernel_rfl) (by kernel_rfl) (v_move rfl) (eX (by repeat constructor)) (dd rfl) ?_
      refine a_take 3 rfl (by kernel_rfl) (by kernel_rfl) (by kernel_rfl) (v_conv_bytes Tryz.underlying25 Tryz.underlying5 Tryz.underlying9 rfl (hX (by repeat constructor))) (eX (by repeat constructor)) (dd rfl) ?_
      refine a_take 4 rfl (by kernel_rfl) (by kernel_rfl) (by kernel_rfl) (v_buildS (places := [(0, 1), (1, 1), (2, 1)]) (cells := [_, .int .i64 0, .bool false]) Tryz.underlying48 ti48 (by kernel_rfl) rfl (by repeat (first | exact PartsC.nil | (apply PartsC.one (by first | exact OneC.lit rfl | exact OneC.sl (hX (by repeat constructor)) )) | (apply PartsC.lit rfl))) rfl) (eX (by repeat constructor)) (dd rfl) ?_
      refine a_two 1 5 rfl rfl (by kernel_rfl) ?_ ?_
      · skip
        refine s_callf cl13 (hof) rfl (dd rfl) (pXs (by repeat constructor)) (fun g _ => a_on (eX (by repeat constructor)) ?_)
        refine a_one 5 rfl (by kernel_rfl) (s_alloc ti48 (dd rfl) (fun b6 => a_on (eX (by repeat constructor)) ?_))
        refine a_take 6 rfl (by kernel_rfl) (by kernel_rfl) (by kernel_rfl) (v_assign rfl) (eX (by repeat constructor)) (dd rfl) ?_
        refine a_one 7 rfl (by kernel_rfl) (s_store_all ti48 rfl rfl (by first | exact CellsV.lit rfl | exact CellsV.one (by first | exact OneC.lit rfl | exact OneC.sl (hX (by repeat constructor)) )) (by repeat (first | exact OneAll.nil | (refine OneAll.cons ?_ ?_; · first | exact OneC.lit rfl | exact OneC.sl (hX (by repeat constructor)) ) | exact OneAll.rd (hX (by repeat constructor)))) rfl (pB (by repeat constructor)) rfl (a_on (eX (by repeat constructor)) ?_))
        refine a_done (by kernel_rfl) ?_ _
        refine c_use (MEET ((g.1, g.2, b6)) (trivial)) (by repeat (first | exact trivial | refine ⟨rfl, ?_⟩)) (eX (by repeat constructor))
      · skip
        refine s_alloc ti48 (dd rfl) (fun b6 => a_on (eX (by repeat constructor)) ?_)
        refine a_one 1 rfl (by kernel_rfl) (s_callf cl13 (hof) rfl (dd rfl) (pXs (by repeat constructor)) (fun g _ => a_on (eX (by repeat constructor)) ?_))
        refine a_take 6 rfl (by kernel_rfl) (by kernel_rfl) (by kernel_rfl) (v_assign rfl) (eX (by repeat constructor)) (dd rfl) ?_
        refine a_one 7 rfl (by kernel_rfl) (s_store_all ti48 rfl rfl (by first | exact CellsV.lit rfl | exact CellsV.one (by first | exact OneC.lit rfl | exact OneC.sl (hX (by repeat constructor)) )) (by repeat (first | exact OneAll.nil | (refine OneAll.cons ?_ ?_; · first | exact OneC.lit rfl | exact OneC.sl (hX (by repeat constructor)) ) | exact OneAll.rd (hX (by repeat constructor)))) rfl (pB (by repeat constructor)) rfl (a_on (eX (by repeat constructor)) ?_))
        refine a_done (by kernel_rfl) ?_ _
        refine c_use (MEET ((g.1, g.2, b6)) (trivial)) (by repeat (first | exact trivial | refine ⟨rfl, ?_⟩)) (eX (by repeat constructor))
    rintro ⟨i, bv, b6⟩ -
    dsimp only [List.cons_append, List.nil_append]
    refine c_seq ?_
    refine c_seq ?_
    refine c_region ?_
    refine o_val (v_move rfl) (dd rfl) ?_
    refine o_val (v_eq_ptr_nil Tryz.underlying40 rfl rfl) (dd rfl) ?_
    refine o_nil ?_
    refine c_cond_f rfl ?_
    refine c_skip ?_
    refine c_seq ?_
    refine c_seq ?_
    refine c_region ?_
    refine o_val (v_move rfl) (dd rfl) ?_
    refine o_val ((by first | exact v_len_form Tryz.underlying46 rfl | exact v_len_sl Tryz.underlying46 rfl (hX (by repeat constructor)))) (dd rfl) ?_
    refine o_val (v_move rfl) (dd rfl) ?_
    refine o_nil ?_
    refine c_block ?_
    refine c_loopR (γ := Nat × St9 × Value) [(4, _), (5, _), (6, _), (27, _), (28, _)] (fun g => asks.length - g.1) (fun g => g.1 ≤ asks.length ∧ EndsB B g.2.1) (fun g => [(29, .int .i64 g.1)]) (fun g => [Blk i 92 [g.2.2, .bool g.2.1.2], Sl eByte g.2.2 g.2.1.1, Blk b6 48 [.string B, .int .i64 (plc B g.2.1), .bool g.2.1.2], Sl eAsk u asks, G1 te pe, G3]) ((0, (l, false), bv)) (⟨Nat.zero_le _, hst.1⟩) (by repeat (first | exact trivial | refine ⟨rfl, ?_⟩)) ((by rw [hst.2]; exact (eX (by repeat constructor)))) ?_
    rintro ⟨k, s, r⟩ ⟨hk, hE⟩ IH
    dsimp only at hk hE ⊢
    try dsimp only [List.cons_append, List.nil_append]
    refine c_seq ?_
    refine c_region ?_
    refine o_val (v_lt rfl rfl) (dd rfl) ?_
    refine o_nil ?_
    refine c_seq ?_
    refine c_cond_p rfl (fun hlt => ?_) (fun hlt => ?_)
    · have hk' : k < asks.length := by omega
      have hr := read_con B i r s asks[k] te pe (by unfold big9; omega) hE
      have hE2 := stepR_ends asks[k] hE
      obtain ⟨s2, hs2⟩ : ∃ s2, s2 = stepR asks[k] s := ⟨_, rfl⟩
      rw [← hs2] at hr hE2
      have hlf := fun w => left_con i w s2
      have hdn := fun w => done_con i w s2
      have hlen := hE2.at.2.2
      have hple := hE2.at.1
      have hpe := plc_end hE2
      unfold inS inV at hr
      refine c_skip ?_
      refine c_seq ?_
      refine c_block ?_
      refine c_seq ?_
      refine c_region ?_
      refine o_val ((by first | exact v_indexAddrN Tryz.underlying46 ti50 rfl rfl (hX (by repeat constructor)) (by omega) | exact v_indexAddr Tryz.underlying46 ti50 rfl rfl (hX (by repeat constructor)) (by omega))) (dd rfl) ?_
      refine o_val (v_load_p (by repeat (first | exact PEnc.int _ | exact PEnc.str | exact PEnc.bool | exact PEnc.byte | exact PEnc.raw | apply PEnc.pair | apply PEnc.map)) ⟨_, Tryz.underlying50⟩ ti50 rfl (by repeat (first|exact el1 (by omega)|exact el2 (by omega)|exact el3 (by omega)|apply Elem.there))) (dd rfl) ?_
      refine o_step (s_alloc ti50 (dd rfl) (fun b8 => ?_))
      refine o_step (s_store_all ti50 rfl rfl (by first | exact CellsV.lit rfl | exact CellsV.one (by first | exact OneC.lit rfl | exact OneC.sl (hX (by repeat constructor)) )) (by repeat (first | exact OneAll.nil | (refine OneAll.cons ?_ ?_; · first | exact OneC.lit rfl | exact OneC.sl (hX (by repeat constructor)) ) | exact OneAll.rd (hX (by repeat constructor)))) rfl (pB (by repeat constructor)) rfl (?_))
      refine o_nil ?_
      refine c_seq ?_
      refine c_region ?_
      refine o_val (v_move rfl) (dd rfl) ?_
      refine o_val (v_load_all ⟨_, Tryz.underlying48⟩ ti48 rfl (hX (by repeat constructor)) rfl) (dd rfl) ?_
      refine o_val (v_load_all ⟨_, Tryz.underlying50⟩ ti50 rfl (hX (by repeat constructor)) rfl) (dd rfl) ?_
      refine o_step (s_callf cl19 (hr) rfl (dd rfl) (pXs (by repeat constructor)) fun w _ => ?_)
      refine o_val (v_move rfl) (dd rfl) ?_
      refine o_val (v_extract rfl rfl) (dd rfl) ?_
      refine o_val (v_extract rfl rfl) (dd rfl) ?_
      refine o_step (s_alloc ti48 (dd rfl) (fun b9 => ?_))
      refine o_step (s_store_all ti48 rfl rfl (by first | exact CellsV.lit rfl | exact CellsV.one (by first | exact OneC.lit rfl | exact OneC.sl (hX (by repeat constructor)) )) (by repeat (first | exact OneAll.nil | (refine OneAll.cons ?_ ?_; · first | exact OneC.lit rfl | exact OneC.sl (hX (by repeat constructor)) ) | exact OneAll.rd (hX (by repeat constructor)))) rfl (pB (by repeat constructor)) rfl (?_))
      refine o_val (v_assign rfl) (dd rfl) ?_
      refine o_nil ?_
      refine c_seq ?_
      refine c_region ?_
      refine o_val (v_load_all ⟨_, Tryz.underlying48⟩ ti48 rfl (hX (by repeat constructor)) rfl) (dd rfl) ?_
      refine o_step (s_store_all ti48 rfl rfl (by first | exact CellsV.lit rfl | exact CellsV.one (by first | exact OneC.lit rfl | exact OneC.sl (hX (by repeat constructor)) )) (by repeat (first | exact OneAll.nil | (refine OneAll.cons ?_ ?_; · first | exact OneC.lit rfl | exact OneC.sl (hX (by repeat constructor)) ) | exact OneAll.rd (hX (by repeat constructor)))) rfl (pB (by repeat constructor)) rfl (?_))
      refine o_nil ?_
      refine c_seq ?_
      refine c_quiet rfl (by kernel_rfl) ?_
      refine q_val (v_move rfl) (dd rfl) ?_
      refine q_val (v_not rfl) (dd rfl) ?_
      refine q_val (v_move rfl) (dd rfl) ?_
      refine q_on rfl rfl ?_
      refine q_val (v_move rfl) (dd rfl) ?_
      refine q_on rfl rfl ?_
      refine q_call_keep cl18 (hlf w) rfl (first := []) (cap := []) (fun _ _ => rfl) rfl rfl (dd rfl) (rX (by repeat constructor)) ?_
      refine q_on rfl rfl ?_
      refine q_val (v_fieldAddrC 0 Tryz.underlying48 rfl ti9 (by decide) rfl) (dd rfl) ?_
      refine q_on rfl rfl ?_
      refine q_val (v_load lone9 rfl (hX (by repeat constructor)) rfl) (dd rfl) ?_
      refine q_on rfl rfl ?_
      refine q_val (v_len_str Tryz.underlying9 rfl) (dd rfl) ?_
      refine q_on rfl rfl ?_
      refine q_val (v_fieldAddrC 1 Tryz.underlying48 rfl ti3 (by decide) rfl) (dd rfl) ?_
      refine q_on rfl rfl ?_
      refine q_val (v_load lone3 rfl (hX (by repeat constructor)) rfl) (dd rfl) ?_
      refine q_on rfl rfl ?_
      refine q_val ((by first | exact v_sub64 rfl rfl (by omega) | exact v_sub rfl rfl)) (dd rfl) ?_
      refine q_on rfl rfl ?_
      refine q_val (v_ne rfl rfl) (dd rfl) ?_
      refine q_val (v_pick_f rfl rfl) (dd rfl) ?_
      refine q_val (v_move rfl) (dd rfl) ?_
      refine q_guard rfl rfl (fun _ => ?_) (fun h_ => absurd ((show _ = false from decide_eq_false (by omega)).symm.trans h_) (by decide))
      refine q_val (v_move rfl) (dd rfl) ?_
      refine q_on rfl rfl ?_
      refine q_call_keep cl20 (hdn w) rfl (first := []) (cap := []) (fun _ _ => rfl) rfl rfl (dd rfl) (rX (by repeat constructor)) ?_
      refine q_on rfl rfl ?_
      refine q_val (v_fieldAddrC 2 Tryz.underlying48 rfl ti4 (by decide) rfl) (dd rfl) ?_
      refine q_on rfl rfl ?_
      refine q_val (v_load lone4 rfl (hX (by repeat constructor)) rfl) (dd rfl) ?_
      refine q_on rfl rfl ?_
      refine q_val (v_not rfl) (dd rfl) ?_
      refine q_on rfl rfl ?_
      refine q_val (v_move rfl) (dd rfl) ?_
      refine q_guard rfl rfl (fun hb => ?_) (fun hb => ?_)
      · have hb2 : s2.2 = false := by simpa using hb
        have hz : decide (decide (s2 = ([], false)) ≠ decide ((plc B s2 : Int) = (B.size : Int))) = false := by
          have : decide (s2 = ([], false)) = decide ((plc B s2 : Int) = (B.size : Int)) := decide_eq_decide.2 (Iff.trans ⟨fun q => by rw [q], fun q => Prod.ext q hb2⟩ hpe.symm)
          rw [this]; simp
        refine q_val (v_fieldAddrC 1 Tryz.underlying48 rfl ti3 (by decide) rfl) (dd rfl) ?_
        refine q_on rfl rfl ?_
        refine q_val (v_load lone3 rfl (hX (by repeat constructor)) rfl) (dd rfl) ?_
        refine q_on rfl rfl ?_
        refine q_val (v_fieldAddrC 0 Tryz.underlying48 rfl ti9 (by decide) rfl) (dd rfl) ?_
        refine q_on rfl rfl ?_
        refine q_val (v_load lone9 rfl (hX (by repeat constructor)) rfl) (dd rfl) ?_
        refine q_on rfl rfl ?_
        refine q_val (v_len_str Tryz.underlying9 rfl) (dd rfl) ?_
        refine q_on rfl rfl ?_
        refine q_val (v_eq rfl rfl) (dd rfl) ?_
        refine q_on rfl rfl ?_
        refine q_val (v_pick_t rfl rfl) (dd rfl) ?_
        refine q_on rfl rfl ?_
        refine q_val (v_bne Tryz.underlying4 rfl rfl) (dd rfl) ?_
        refine q_val (v_pick_f rfl rfl) (dd rfl) ?_
        refine q_nil ?_
        rw [hz]
        refine c_cond_f rfl ?_
        refine c_skip ?_
        refine c_inBlock ?_
        refine c_region ?_
        refine o_val ((by first | exact v_add64 rfl rfl (by omega) | exact v_add rfl rfl)) (dd rfl) ?_
        refine o_val (v_move rfl) (dd rfl) ?_
        refine o_nil ?_
        refine c_use (IH ((k + 1, s2, w)) (by first | omega | (dsimp only; omega)) (⟨by dsimp only; omega, hE2⟩)) (by repeat (first | exact trivial | refine ⟨rfl, ?_⟩)) (eX (by repeat constructor))
      · have hb2 : s2.2 = true := by simpa using hb
        have hz : decide (decide (s2 = ([], false)) ≠ false) = false := by
          rw [decide_eq_false (p := s2 = ([], false)) (by intro q; rw [q] at hb2; cases hb2)]; rfl
        refine q_off rfl rfl rfl (dd rfl) ?_
        refine q_off rfl rfl rfl (dd rfl) ?_
        refine q_off rfl rfl rfl (dd rfl) ?_
        refine q_off rfl rfl rfl (dd rfl) ?_
        refine q_off rfl rfl rfl (dd rfl) ?_
        refine q_off rfl rfl rfl (dd rfl) ?_
        refine q_on rfl rfl ?_
        refine q_val (v_pick_f rfl rfl) (dd rfl) ?_
        refine q_on rfl rfl ?_
        refine q_val (v_bne Tryz.underlying4 rfl rfl) (dd rfl) ?_
        refine q_val (v_pick_f rfl rfl) (dd rfl) ?_
        refine q_nil ?_
        rw [hz]
        refine c_cond_f rfl ?_
        refine c_skip ?_
        refine c_inBlock ?_
        refine c_region ?_
        refine o_val ((by first | exact v_add64 rfl rfl (by omega) | exact v_add rfl rfl)) (dd rfl) ?_
        refine o_val (v_move rfl) (dd rfl) ?_
        refine o_nil ?_
        refine c_use (IH ((k + 1, s2, w)) (by first | omega | (dsimp only; omega)) (⟨by dsimp only; omega, hE2⟩)) (by repeat (first | exact trivial | refine ⟨rfl, ?_⟩)) (eX (by repeat constructor))
    · refine c_exit rfl ?_
      refine c_seq ?_
      refine c_region ?_
      refine o_step (s_callf cl10 (hal) rfl (dd rfl) (pXs (by repeat constructor)) fun _ _ => ?_)
      refine o_val (v_assign rfl) (dd rfl) ?_
      refine o_nil ?_
      refine c_ret1 Tryz.func5 rfl rfl fun w O hS => ?_
      exact ⟨(), rfl, trivial, trivial⟩
end Go.Proofs.YtmgkeippepeggaaGreatDoor
/- What all rows of this seat want: the start, the openers of the arguments' types. -/
namespace Go.Proofs.YtmgkeippepeggaaGreatDoor
open Go Go.SL Go.RowKit Go.ChangeShapes Go.WideShapes Go.ChangeAt Go.Lib

abbrev laidL : List (String × DataW Unit) := [("math/bits.deBruijn32tab", Rows.laid_math_bits_deBruijn32tab), ("math/bits.deBruijn64tab", Rows.laid_math_bits_deBruijn64tab), ("internal/strconv.uint64pow10", Rows.laid_internal_strconv_uint64pow10), ("unicode/utf8.acceptRanges", Rows.laid_unicode_utf8_acceptRanges), ("strconv.ErrRange", Rows.laid_strconv_ErrRange), ("strconv.ErrSyntax", Rows.laid_strconv_ErrSyntax), ("unicode/utf8.first", Rows.laid_unicode_utf8_first)]
theorem own : ownKnob Tryz.prog.godebug = none := by kernel_rfl
theorem laidOut : laidOutB Tryz.prog = true := by kernel_rfl
theorem start_met (os : Os) (args : Array Value) : laidMetH Tryz.prog laidL ((World.laidAll Tryz.prog os laidL).forCall (fun _ _ => 0) ⟨#[], args, []⟩).memory := by
  rw [MakeChecks.laidMetH_plain _ _ _ (by kernel_rfl)]; exact laidMet_laidAll _ (by kernel_rfl) (by kernel_rfl)
theorem start_shaped (os : Os) (args : Array Value) : ((World.laidAll Tryz.prog os laidL).forCall (fun _ _ => 0) ⟨#[], args, []⟩).Shaped Tryz.checked.prog := World.shaped_of_RefB (by kernel_rfl) (by kernel_rfl)
theorem reach : reachBytes = 140737488351232 := by decide
theorem star : "*" ++ "errors.errorString" = "*errors.errorString" := by decide
theorem errRow (u : TypeId) (h : Tryz.prog.typeName? 3 u = some "*errors.errorString") : u = 195 :=
  typeName_ptr_named (nm := "errors.errorString") (by rw [star]; kernel_rfl) (by kernel_rfl) (by decide) u (by rw [star]; exact h)
theorem glob_at {W : World} (h : W.ShapedOpen Tryz.prog) {g : Nat} {t : TypeId} {cs : Array Value} {name : String} (hg : g < Tryz.prog.globals.size) (h0 : (((begin Tryz.prog (fun _ _ => 0) default).world.heap[g]?).bind Obj.row?).map (·.2) = some t) (hn : Tryz.prog.globalNamed name = some g) (hv : W.var? Tryz.prog name = some cs) : (BlkR g t cs.toList).h W (readAll W) := by
  obtain ⟨⟨zero, t'⟩, h0', e0⟩ := Option.map_eq_some_iff.1 h0
  obtain rfl : t' = t := e0
  obtain ⟨ds, hh, _, _⟩ := h.1 g zero t' hg h0'
  have h1 : g < W.heap.size := by
    rcases Nat.lt_or_ge g W.heap.size with h | h
    · exact h
    · rw [Array.getElem?_eq_none h] at hh; cases hh
  unfold World.var? at hv
  rw [hn, Option.bind_some, hh] at hv
  have e : ds = cs := by simpa using hv
  subst e
  exact ⟨readAll_lt h1, (0, 0), by rw [hh]⟩
theorem g13 {W : World} (hs : W.ShapedOpen Tryz.prog) (hl : laidMetH Tryz.prog laidL W) : ∃ te pe, (G1 te pe).h W (readAll W) ∧ G3.h W (readAll W) := by
  rw [MakeChecks.laidMetH_plain _ _ _ (by kernel_rfl)] at hl
  have h3 : laidMet Tryz.prog (("internal/strconv.uint64pow10", tabData .u64 pow10Tab) :: _) W := hl.tail.tail
  have h1 : TabIs Tryz.prog W "internal/strconv.uint64pow10" .u64 pow10Tab := tabIs_of_head (g := 3) (t := 189) (e := 153) (n := 20) (by kernel_rfl) (by kernel_rfl) Tryz.underlying189 Tryz.underlying153 (by kernel_rfl) (by kernel_rfl) h3
  obtain ⟨a0, s0, hv0, -, -, -⟩ := laid_sentinel hl.tail.tail.tail.tail.tail (g := 1) (ti := 129) (tp := 195) (te := 197) (ts := 9) (by kernel_rfl) (by kernel_rfl) Tryz.underlying129 errRow Tryz.underlying195 Tryz.underlying197 rfl rfl Tryz.underlying9 (by kernel_rfl) (by kernel_rfl)
  exact ⟨_, _, glob_at (cs := #[.iface 195 (.pointer (some a0))]) hs (of_decide_eq_true (by kernel_rfl)) (by kernel_rfl) (by kernel_rfl) hv0, glob_at (cs := (pow10Tab.map fun z => Value.int .u64 z).toArray) hs (of_decide_eq_true (by kernel_rfl)) (by kernel_rfl) (by kernel_rfl) h1⟩
theorem opens_byte {P : Program} {t : TypeId} (ht : P.underlying t = some (.int .u8)) : Opens P t eByte (fun _ => True) := by
  intro H enc W fuel cs x h hw
  obtain ⟨n, rfl, rfl, hn⟩ := DataW.trod_int ht h
  have h1 : 0 ≤ n ∧ n < 256 := by
    have := hn
    simp [Lit.wf, IntKind.has, IntKind.min, IntKind.max, IntKind.signed, IntKind.bits] at this
    omega
  refine ⟨UInt8.ofNat n.toNat, ?_, trivial⟩
  show [Value.int .u8 n] = [Value.int .u8 ((UInt8.ofNat n.toNat).toNat : Int)]
  have : ((UInt8.ofNat n.toNat).toNat : Int) = n := by
    rw [UInt8.toNat_ofNat']; omega
  rw [this]
theorem op25 : Opens Tryz.prog 25 (eSl eByte) (fun xs => xs.length ≤ 140737488351232) := opens_good (opens_slice Tryz.underlying25 (by kernel_rfl) (by decide) (opens_byte Tryz.underlying5)) fun xs h => by
  have h1 : Tryz.prog.bytesOf 5 = 1 := by kernel_rfl
  have h2 := h.1
  rw [h1, reach] at h2
  omega
theorem op3 : Opens Tryz.prog 3 (eInt .i64) (fun n => -9223372036854775808 ≤ n ∧ n ≤ 9223372036854775807) := opens_good (opens_int Tryz.underlying3) fun n h => by
  have := h
  simp [Lit.wf, IntKind.has, IntKind.min, IntKind.max, IntKind.signed, IntKind.bits] at this
  omega
theorem op50 : Opens Tryz.prog 50 eAsk (fun _ => True) := opens_good
  (opens_struct Tryz.underlying50 (by kernel_rfl) (opens_cons rfl rfl (by kernel_rfl) op3 (opens_cons rfl rfl (by kernel_rfl) op3 (opens_last rfl rfl (by kernel_rfl) op3)))) fun _ _ => trivial
theorem op46 : Opens Tryz.prog 46 (eSl eAsk) (fun xs => xs.length ≤ 140737488351232) := opens_good (opens_slice Tryz.underlying46 (by kernel_rfl) (by decide) op50) fun xs h => by
  have h1 : Tryz.prog.bytesOf 50 = 24 := by kernel_rfl
  have h2 := h.1
  rw [h1, reach] at h2
  omega
theorem ask_split {c : List Value} {x : Ask9} {W : World} {O : Perm} (h : (Rd eAsk c x).h W O) : c = [.int .i64 x.1, .int .i64 x.2.1, .int .i64 x.2.2] := by
  obtain ⟨c1, d1, rfl, h1, c2, c3, rfl, h2, h3⟩ := h
  have e1 : c1 = [.int .i64 x.1] := h1
  have e2 : c2 = [.int .i64 x.2.1] := h2
  have e3 : c3 = [.int .i64 x.2.2] := h3
  subst e1; subst e2; subst e3
  rfl
end Go.Proofs.YtmgkeippepeggaaGreatDoor

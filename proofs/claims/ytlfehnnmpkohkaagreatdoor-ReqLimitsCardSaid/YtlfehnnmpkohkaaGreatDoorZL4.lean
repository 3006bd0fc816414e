/- The texts H3, H4, E5, H5, E6, H6, H7, one behind the other. -/
import Derived.Test.YtlfehnnmpkohkaaGreatDoorZL3
set_option linter.unusedVariables false
set_option linter.unusedSimpArgs false
/- Chapter 16: what the kinds need, and what is left without it. -/
namespace Go.Proofs.YtlfehnnmpkohkaaGreatDoor
open Go Go.SL Go.Lib
attribute [local irreducible] Cfg Kont StepK Val Con Qops Any Sl Own Blk BlkR Rd Pu ExA AllA Has Pick Ent Elem Beside Callable TI Lone OwnO AndA
set_option maxRecDepth 100000 in
theorem rName_con (q : Rq9) (d f l : Value) : Con Tryz.prog 81 [.agg #[.int .i64 q.1, .int .i64 q.2.1, .int .i64 q.2.2.1, .string q.2.2.2.1, .string q.2.2.2.2.1, d, f, l]] [Sl (eInt .i64) d q.2.2.2.2.2.1, Sl eStr f q.2.2.2.2.2.2.1, Sl ePr l q.2.2.2.2.2.2.2] (γ := Unit) (fun _ => .agg #[.int .i64 q.1, .int .i64 q.2.1, .int .i64 q.2.2.1, .string ⟨#[]⟩, .string q.2.2.2.2.1, d, f, l]) (fun _ => True) (fun _ => []) := by
  refine con_of Tryz.func81 rfl (dd rfl) fun w0 O0 => ?_
  refine c_seq ?_
  refine c_region ?_
  refine o_step (s_box rfl (dd rfl) (fun b1 => ?_))
  refine o_step (s_alloc ti32 (dd rfl) (fun b2 => ?_))
  refine o_nil ?_
  refine c_seq ?_
  refine c_region ?_
  refine o_val (v_fieldAddrC 3 Tryz.underlying32 rfl ti9 (by decide) rfl) (dd rfl) ?_
  refine o_step (s_store1 ti9 rfl rfl (by first | exact OneC.lit rfl | exact OneC.sl (hX (by repeat constructor)) ) (pB (by repeat constructor)) (by first | decide | exact Nat.le_of_ble_eq_true rfl | simp) (by first | (dsimp only [List.set_cons_succ, List.set_cons_zero]; first | done | exact rfl) | rfl) (?_))
  refine o_nil ?_
  refine c_seq ?_
  refine c_region ?_
  refine o_val (v_load_all ⟨_, Tryz.underlying32⟩ ti32 rfl (hX (by repeat constructor)) rfl) (dd rfl) ?_
  refine o_step (s_store_all ti32 rfl rfl (by first | exact CellsV.lit rfl | exact CellsV.one (by first | exact OneC.lit rfl | exact OneC.sl (hX (by repeat constructor)) )) (by repeat (first | exact OneAll.nil | (refine OneAll.cons ?_ ?_; · first | exact OneC.lit rfl | exact OneC.sl (hX (by repeat constructor)) ) | exact OneAll.rd (hX (by repeat constructor)))) rfl (pB (by repeat constructor)) rfl (?_))
  refine o_nil ?_
  refine c_ret_cell Tryz.func81 rfl ⟨_, Tryz.underlying32⟩ ti32 rfl (hX (by repeat constructor)) fun w O hS => ?_
  exact ⟨(), rfl, trivial, trivial⟩
set_option maxRecDepth 100000 in
theorem rGroup_con (q : Rq9) (d f l : Value) : Con Tryz.prog 82 [.agg #[.int .i64 q.1, .int .i64 q.2.1, .int .i64 q.2.2.1, .string q.2.2.2.1, .string q.2.2.2.2.1, d, f, l]] [Sl (eInt .i64) d q.2.2.2.2.2.1, Sl eStr f q.2.2.2.2.2.2.1, Sl ePr l q.2.2.2.2.2.2.2] (γ := Unit) (fun _ => .agg #[.int .i64 q.1, .int .i64 q.2.1, .int .i64 0, .string q.2.2.2.1, .string q.2.2.2.2.1, d, .slice none 0 0, l]) (fun _ => True) (fun _ => []) := by
  refine con_of Tryz.func82 rfl (dd rfl) fun w0 O0 => ?_
  refine c_seq ?_
  refine c_region ?_
  refine o_step (s_box rfl (dd rfl) (fun b1 => ?_))
  refine o_step (s_alloc ti32 (dd rfl) (fun b2 => ?_))
  refine o_nil ?_
  refine c_seq ?_
  refine c_region ?_
  refine o_val (v_fieldAddrC 2 Tryz.underlying32 rfl ti3 (by decide) rfl) (dd rfl) ?_
  refine o_step (s_store1 ti3 rfl rfl (by first | exact OneC.lit rfl | exact OneC.sl (hX (by repeat constructor)) ) (pB (by repeat constructor)) (by first | decide | exact Nat.le_of_ble_eq_true rfl | simp) (by first | (dsimp only [List.set_cons_succ, List.set_cons_zero]; first | done | exact rfl) | rfl) (?_))
  refine o_val (v_fieldAddrC 6 Tryz.underlying32 rfl ti23 (by decide) rfl) (dd rfl) ?_
  refine o_step (s_store1 ti23 rfl rfl (by first | exact OneC.lit rfl | exact OneC.sl (hX (by repeat constructor)) ) (pB (by repeat constructor)) (by first | decide | exact Nat.le_of_ble_eq_true rfl | simp) (by first | (dsimp only [List.set_cons_succ, List.set_cons_zero]; first | done | exact rfl) | rfl) (?_))
  refine o_nil ?_
  refine c_seq ?_
  refine c_region ?_
  refine o_val (v_load_all ⟨_, Tryz.underlying32⟩ ti32 rfl (hX (by repeat constructor)) rfl) (dd rfl) ?_
  refine o_step (s_store_all ti32 rfl rfl (by first | exact CellsV.lit rfl | exact CellsV.one (by first | exact OneC.lit rfl | exact OneC.sl (hX (by repeat constructor)) )) (by repeat (first | exact OneAll.nil | (refine OneAll.cons ?_ ?_; · first | exact OneC.lit rfl | exact OneC.sl (hX (by repeat constructor)) ) | exact OneAll.rd (hX (by repeat constructor)))) rfl (pB (by repeat constructor)) rfl (?_))
  refine o_nil ?_
  refine c_ret_cell Tryz.func82 rfl ⟨_, Tryz.underlying32⟩ ti32 rfl (hX (by repeat constructor)) fun w O hS => ?_
  exact ⟨(), rfl, trivial, trivial⟩
set_option maxRecDepth 100000 in
theorem rNone_con (q : Rq9) (d f l : Value) : Con Tryz.prog 84 [.agg #[.int .i64 q.1, .int .i64 q.2.1, .int .i64 q.2.2.1, .string q.2.2.2.1, .string q.2.2.2.2.1, d, f, l]] [Sl (eInt .i64) d q.2.2.2.2.2.1, Sl eStr f q.2.2.2.2.2.2.1, Sl ePr l q.2.2.2.2.2.2.2] (γ := Unit) (fun _ => .agg #[.int .i64 q.1, .int .i64 q.2.1, .int .i64 q.2.2.1, .string q.2.2.2.1, .string q.2.2.2.2.1, d, f, l]) (fun _ => True) (fun _ => []) := by
  refine con_of Tryz.func84 rfl (dd rfl) fun w0 O0 => ?_
  refine c_seq ?_
  refine c_region ?_
  refine o_step (s_box rfl (dd rfl) (fun b1 => ?_))
  refine o_step (s_alloc ti32 (dd rfl) (fun b2 => ?_))
  refine o_nil ?_
  refine c_seq ?_
  refine c_region ?_
  refine o_val (v_load_all ⟨_, Tryz.underlying32⟩ ti32 rfl (hX (by repeat constructor)) rfl) (dd rfl) ?_
  refine o_step (s_store_all ti32 rfl rfl (by first | exact CellsV.lit rfl | exact CellsV.one (by first | exact OneC.lit rfl | exact OneC.sl (hX (by repeat constructor)) )) (by repeat (first | exact OneAll.nil | (refine OneAll.cons ?_ ?_; · first | exact OneC.lit rfl | exact OneC.sl (hX (by repeat constructor)) ) | exact OneAll.rd (hX (by repeat constructor)))) rfl (pB (by repeat constructor)) rfl (?_))
  refine o_nil ?_
  refine c_ret_cell Tryz.func84 rfl ⟨_, Tryz.underlying32⟩ ti32 rfl (hX (by repeat constructor)) fun w O hS => ?_
  exact ⟨(), rfl, trivial, trivial⟩
set_option maxRecDepth 100000 in
theorem rChange_con (q : Rq9) (d f l : Value) : Con Tryz.prog 89 [.agg #[.int .i64 q.1, .int .i64 q.2.1, .int .i64 q.2.2.1, .string q.2.2.2.1, .string q.2.2.2.2.1, d, f, l]] [Sl (eInt .i64) d q.2.2.2.2.2.1, Sl eStr f q.2.2.2.2.2.2.1, Sl ePr l q.2.2.2.2.2.2.2] (γ := Unit) (fun _ => .agg #[.int .i64 q.1, .int .i64 0, .int .i64 q.2.2.1, .string q.2.2.2.1, .string q.2.2.2.2.1, d, f, .slice none 0 0]) (fun _ => True) (fun _ => []) := by
  refine con_of Tryz.func89 rfl (dd rfl) fun w0 O0 => ?_
  refine c_seq ?_
  refine c_region ?_
  refine o_step (s_box rfl (dd rfl) (fun b1 => ?_))
  refine o_step (s_alloc ti32 (dd rfl) (fun b2 => ?_))
  refine o_nil ?_
  refine c_seq ?_
  refine c_region ?_
  refine o_val (v_fieldAddrC 1 Tryz.underlying32 rfl ti3 (by decide) rfl) (dd rfl) ?_
  refine o_step (s_store1 ti3 rfl rfl (by first | exact OneC.lit rfl | exact OneC.sl (hX (by repeat constructor)) ) (pB (by repeat constructor)) (by first | decide | exact Nat.le_of_ble_eq_true rfl | simp) (by first | (dsimp only [List.set_cons_succ, List.set_cons_zero]; first | done | exact rfl) | rfl) (?_))
  refine o_val (v_fieldAddrC 7 Tryz.underlying32 rfl ti30 (by decide) rfl) (dd rfl) ?_
  refine o_step (s_store1 ti30 rfl rfl (by first | exact OneC.lit rfl | exact OneC.sl (hX (by repeat constructor)) ) (pB (by repeat constructor)) (by first | decide | exact Nat.le_of_ble_eq_true rfl | simp) (by first | (dsimp only [List.set_cons_succ, List.set_cons_zero]; first | done | exact rfl) | rfl) (?_))
  refine o_nil ?_
  refine c_seq ?_
  refine c_region ?_
  refine o_val (v_load_all ⟨_, Tryz.underlying32⟩ ti32 rfl (hX (by repeat constructor)) rfl) (dd rfl) ?_
  refine o_step (s_store_all ti32 rfl rfl (by first | exact CellsV.lit rfl | exact CellsV.one (by first | exact OneC.lit rfl | exact OneC.sl (hX (by repeat constructor)) )) (by repeat (first | exact OneAll.nil | (refine OneAll.cons ?_ ?_; · first | exact OneC.lit rfl | exact OneC.sl (hX (by repeat constructor)) ) | exact OneAll.rd (hX (by repeat constructor)))) rfl (pB (by repeat constructor)) rfl (?_))
  refine o_nil ?_
  refine c_ret_cell Tryz.func89 rfl ⟨_, Tryz.underlying32⟩ ti32 rfl (hX (by repeat constructor)) fun w O hS => ?_
  exact ⟨(), rfl, trivial, trivial⟩
set_option maxRecDepth 100000 in
theorem rUnrecord_con (q : Rq9) (d f l : Value) : Con Tryz.prog 97 [.agg #[.int .i64 q.1, .int .i64 q.2.1, .int .i64 q.2.2.1, .string q.2.2.2.1, .string q.2.2.2.2.1, d, f, l]] [Sl (eInt .i64) d q.2.2.2.2.2.1, Sl eStr f q.2.2.2.2.2.2.1, Sl ePr l q.2.2.2.2.2.2.2] (γ := Unit) (fun _ => .agg #[.int .i64 q.1, .int .i64 q.2.1, .int .i64 0, .string q.2.2.2.1, .string q.2.2.2.2.1, d, f, l]) (fun _ => True) (fun _ => []) := by
  refine con_of Tryz.func97 rfl (dd rfl) fun w0 O0 => ?_
  refine c_seq ?_
  refine c_region ?_
  refine o_step (s_box rfl (dd rfl) (fun b1 => ?_))
  refine o_step (s_alloc ti32 (dd rfl) (fun b2 => ?_))
  refine o_nil ?_
  refine c_seq ?_
  refine c_region ?_
  refine o_val (v_fieldAddrC 2 Tryz.underlying32 rfl ti3 (by decide) rfl) (dd rfl) ?_
  refine o_step (s_store1 ti3 rfl rfl (by first | exact OneC.lit rfl | exact OneC.sl (hX (by repeat constructor)) ) (pB (by repeat constructor)) (by first | decide | exact Nat.le_of_ble_eq_true rfl | simp) (by first | (dsimp only [List.set_cons_succ, List.set_cons_zero]; first | done | exact rfl) | rfl) (?_))
  refine o_nil ?_
  refine c_seq ?_
  refine c_region ?_
  refine o_val (v_load_all ⟨_, Tryz.underlying32⟩ ti32 rfl (hX (by repeat constructor)) rfl) (dd rfl) ?_
  refine o_step (s_store_all ti32 rfl rfl (by first | exact CellsV.lit rfl | exact CellsV.one (by first | exact OneC.lit rfl | exact OneC.sl (hX (by repeat constructor)) )) (by repeat (first | exact OneAll.nil | (refine OneAll.cons ?_ ?_; · first | exact OneC.lit rfl | exact OneC.sl (hX (by repeat constructor)) ) | exact OneAll.rd (hX (by repeat constructor)))) rfl (pB (by repeat constructor)) rfl (?_))
  refine o_nil ?_
  refine c_ret_cell Tryz.func97 rfl ⟨_, Tryz.underlying32⟩ ti32 rfl (hX (by repeat constructor)) fun w O hS => ?_
  exact ⟨(), rfl, trivial, trivial⟩
set_option maxRecDepth 100000 in
theorem rRevert_con (q : Rq9) (d f l : Value) : Con Tryz.prog 98 [.agg #[.int .i64 q.1, .int .i64 q.2.1, .int .i64 q.2.2.1, .string q.2.2.2.1, .string q.2.2.2.2.1, d, f, l]] [Sl (eInt .i64) d q.2.2.2.2.2.1, Sl eStr f q.2.2.2.2.2.2.1, Sl ePr l q.2.2.2.2.2.2.2] (γ := Unit) (fun _ => .agg #[.int .i64 q.1, .int .i64 q.2.1, .int .i64 q.2.2.1, .string q.2.2.2.1, .string q.2.2.2.2.1, d, .slice none 0 0, l]) (fun _ => True) (fun _ => []) := by
  refine con_of Tryz.func98 rfl (dd rfl) fun w0 O0 => ?_
  refine c_seq ?_
  refine c_region ?_
  refine o_step (s_box rfl (dd rfl) (fun b1 => ?_))
  refine o_step (s_alloc ti32 (dd rfl) (fun b2 => ?_))
  refine o_nil ?_
  refine c_seq ?_
  refine c_region ?_
  refine o_val (v_fieldAddrC 6 Tryz.underlying32 rfl ti23 (by decide) rfl) (dd rfl) ?_
  refine o_step (s_store1 ti23 rfl rfl (by first | exact OneC.lit rfl | exact OneC.sl (hX (by repeat constructor)) ) (pB (by repeat constructor)) (by first | decide | exact Nat.le_of_ble_eq_true rfl | simp) (by first | (dsimp only [List.set_cons_succ, List.set_cons_zero]; first | done | exact rfl) | rfl) (?_))
  refine o_nil ?_
  refine c_seq ?_
  refine c_region ?_
  refine o_val (v_load_all ⟨_, Tryz.underlying32⟩ ti32 rfl (hX (by repeat constructor)) rfl) (dd rfl) ?_
  refine o_step (s_store_all ti32 rfl rfl (by first | exact CellsV.lit rfl | exact CellsV.one (by first | exact OneC.lit rfl | exact OneC.sl (hX (by repeat constructor)) )) (by repeat (first | exact OneAll.nil | (refine OneAll.cons ?_ ?_; · first | exact OneC.lit rfl | exact OneC.sl (hX (by repeat constructor)) ) | exact OneAll.rd (hX (by repeat constructor)))) rfl (pB (by repeat constructor)) rfl (?_))
  refine o_nil ?_
  refine c_ret_cell Tryz.func98 rfl ⟨_, Tryz.underlying32⟩ ti32 rfl (hX (by repeat constructor)) fun w O hS => ?_
  exact ⟨(), rfl, trivial, trivial⟩
set_option maxRecDepth 100000 in
theorem rTake_con (q : Rq9) (d f l : Value) : Con Tryz.prog 103 [.agg #[.int .i64 q.1, .int .i64 q.2.1, .int .i64 q.2.2.1, .string q.2.2.2.1, .string q.2.2.2.2.1, d, f, l]] [Sl (eInt .i64) d q.2.2.2.2.2.1, Sl eStr f q.2.2.2.2.2.2.1, Sl ePr l q.2.2.2.2.2.2.2] (γ := Unit) (fun _ => .agg #[.int .i64 q.1, .int .i64 q.2.1, .int .i64 0, .string q.2.2.2.1, .string q.2.2.2.2.1, d, f, l]) (fun _ => True) (fun _ => []) := by
  refine con_of Tryz.func103 rfl (dd rfl) fun w0 O0 => ?_
  refine c_seq ?_
  refine c_region ?_
  refine o_step (s_box rfl (dd rfl) (fun b1 => ?_))
  refine o_step (s_alloc ti32 (dd rfl) (fun b2 => ?_))
  refine o_nil ?_
  refine c_seq ?_
  refine c_region ?_
  refine o_val (v_fieldAddrC 2 Tryz.underlying32 rfl ti3 (by decide) rfl) (dd rfl) ?_
  refine o_step (s_store1 ti3 rfl rfl (by first | exact OneC.lit rfl | exact OneC.sl (hX (by repeat constructor)) ) (pB (by repeat constructor)) (by first | decide | exact Nat.le_of_ble_eq_true rfl | simp) (by first | (dsimp only [List.set_cons_succ, List.set_cons_zero]; first | done | exact rfl) | rfl) (?_))
  refine o_nil ?_
  refine c_seq ?_
  refine c_region ?_
  refine o_val (v_load_all ⟨_, Tryz.underlying32⟩ ti32 rfl (hX (by repeat constructor)) rfl) (dd rfl) ?_
  refine o_step (s_store_all ti32 rfl rfl (by first | exact CellsV.lit rfl | exact CellsV.one (by first | exact OneC.lit rfl | exact OneC.sl (hX (by repeat constructor)) )) (by repeat (first | exact OneAll.nil | (refine OneAll.cons ?_ ?_; · first | exact OneC.lit rfl | exact OneC.sl (hX (by repeat constructor)) ) | exact OneAll.rd (hX (by repeat constructor)))) rfl (pB (by repeat constructor)) rfl (?_))
  refine o_nil ?_
  refine c_ret_cell Tryz.func103 rfl ⟨_, Tryz.underlying32⟩ ti32 rfl (hX (by repeat constructor)) fun w O hS => ?_
  exact ⟨(), rfl, trivial, trivial⟩
set_option maxRecDepth 100000 in
theorem rRecord_con (q : Rq9) (d f l : Value) (bc : Nat) : Con Tryz.prog 95 [.agg #[.int .i64 q.1, .int .i64 q.2.1, .int .i64 q.2.2.1, .string q.2.2.2.1, .string q.2.2.2.2.1, d, f, l], ptr1 bc] [BlkR bc 75 [.func (.func 82) #[] #[]], Sl (eInt .i64) d q.2.2.2.2.2.1, Sl eStr f q.2.2.2.2.2.2.1, Sl ePr l q.2.2.2.2.2.2.2] (γ := Unit) (fun _ => .agg #[.int .i64 q.1, .int .i64 q.2.1, .int .i64 0, .string q.2.2.2.1, .string ⟨#[]⟩, .slice none 0 0, .slice none 0 0, l]) (fun _ => True) (fun _ => []) := by
  have hC := by have h := rGroup_con (q.1, q.2.1, q.2.2.1, q.2.2.2.1, ⟨#[]⟩, [], q.2.2.2.2.2.2.1, q.2.2.2.2.2.2.2) (.slice none 0 0) f l; dsimp only at h; exact h
  refine con_of Tryz.func95 rfl (dd rfl) fun w0 O0 => ?_
  refine c_seq ?_
  refine c_region ?_
  refine o_step (s_box rfl (dd rfl) (fun b2 => ?_))
  refine o_step (s_alloc ti32 (dd rfl) (fun b3 => ?_))
  refine o_nil ?_
  refine c_seq ?_
  refine c_region ?_
  refine o_val (v_fieldAddrC 4 Tryz.underlying32 rfl ti9 (by decide) rfl) (dd rfl) ?_
  refine o_step (s_store1 ti9 rfl rfl (by first | exact OneC.lit rfl | exact OneC.sl (hX (by repeat constructor)) ) (pB (by repeat constructor)) (by first | decide | exact Nat.le_of_ble_eq_true rfl | simp) (by first | (dsimp only [List.set_cons_succ, List.set_cons_zero]; first | done | exact rfl) | rfl) (?_))
  refine o_val (v_fieldAddrC 5 Tryz.underlying32 rfl ti22 (by decide) rfl) (dd rfl) ?_
  refine o_step (s_store1 ti22 rfl rfl (by first | exact OneC.lit rfl | exact OneC.sl (hX (by repeat constructor)) ) (pB (by repeat constructor)) (by first | decide | exact Nat.le_of_ble_eq_true rfl | simp) (by first | (dsimp only [List.set_cons_succ, List.set_cons_zero]; first | done | exact rfl) | rfl) (?_))
  refine o_nil ?_
  refine c_seq ?_
  refine c_region ?_
  refine o_val (v_load lone75 rfl (hX (by repeat constructor)) rfl) (dd rfl) ?_
  refine o_val (v_load_all ⟨_, Tryz.underlying32⟩ ti32 rfl (hX (by repeat constructor)) rfl) (dd rfl) ?_
  refine o_step (s_call cl82 (hC) (first := []) (cap := []) rfl rfl (by rfl) (dd rfl) (pXs (by repeat constructor)) fun _ _ => ?_)
  refine o_step (s_store_all ti32 rfl rfl (by first | exact CellsV.lit rfl | exact CellsV.one (by first | exact OneC.lit rfl | exact OneC.sl (hX (by repeat constructor)) )) (by repeat (first | exact OneAll.nil | (refine OneAll.cons ?_ ?_; · first | exact OneC.lit rfl | exact OneC.sl (hX (by repeat constructor)) ) | exact OneAll.rd (hX (by repeat constructor)))) rfl (pB (by repeat constructor)) rfl (?_))
  refine o_nil ?_
  refine c_ret_cell Tryz.func95 rfl ⟨_, Tryz.underlying32⟩ ti32 rfl (hX (by repeat constructor)) fun w O hS => ?_
  exact ⟨(), rfl, trivial, trivial⟩
set_option maxRecDepth 100000 in
theorem rShelve_con (q : Rq9) (d f l : Value) (bc : Nat) : Con Tryz.prog 100 [.agg #[.int .i64 q.1, .int .i64 q.2.1, .int .i64 q.2.2.1, .string q.2.2.2.1, .string q.2.2.2.2.1, d, f, l], ptr1 bc] [BlkR bc 75 [.func (.func 81) #[] #[]], Sl (eInt .i64) d q.2.2.2.2.2.1, Sl eStr f q.2.2.2.2.2.2.1, Sl ePr l q.2.2.2.2.2.2.2] (γ := Unit) (fun _ => .agg #[.int .i64 q.1, .int .i64 q.2.1, .int .i64 q.2.2.1, .string ⟨#[]⟩, .string q.2.2.2.2.1, d, .slice none 0 0, l]) (fun _ => True) (fun _ => []) := by
  have hC := by have h := rName_con (q.1, q.2.1, q.2.2.1, q.2.2.2.1, q.2.2.2.2.1, q.2.2.2.2.2.1, [], q.2.2.2.2.2.2.2) d (.slice none 0 0) l; dsimp only at h; exact h
  refine con_of Tryz.func100 rfl (dd rfl) fun w0 O0 => ?_
  refine c_seq ?_
  refine c_region ?_
  refine o_step (s_box rfl (dd rfl) (fun b2 => ?_))
  refine o_step (s_alloc ti32 (dd rfl) (fun b3 => ?_))
  refine o_nil ?_
  refine c_seq ?_
  refine c_region ?_
  refine o_val (v_fieldAddrC 6 Tryz.underlying32 rfl ti23 (by decide) rfl) (dd rfl) ?_
  refine o_step (s_store1 ti23 rfl rfl (by first | exact OneC.lit rfl | exact OneC.sl (hX (by repeat constructor)) ) (pB (by repeat constructor)) (by first | decide | exact Nat.le_of_ble_eq_true rfl | simp) (by first | (dsimp only [List.set_cons_succ, List.set_cons_zero]; first | done | exact rfl) | rfl) (?_))
  refine o_nil ?_
  refine c_seq ?_
  refine c_region ?_
  refine o_val (v_load lone75 rfl (hX (by repeat constructor)) rfl) (dd rfl) ?_
  refine o_val (v_load_all ⟨_, Tryz.underlying32⟩ ti32 rfl (hX (by repeat constructor)) rfl) (dd rfl) ?_
  refine o_step (s_call cl81 (hC) (first := []) (cap := []) rfl rfl (by rfl) (dd rfl) (pXs (by repeat constructor)) fun _ _ => ?_)
  refine o_step (s_store_all ti32 rfl rfl (by first | exact CellsV.lit rfl | exact CellsV.one (by first | exact OneC.lit rfl | exact OneC.sl (hX (by repeat constructor)) )) (by repeat (first | exact OneAll.nil | (refine OneAll.cons ?_ ?_; · first | exact OneC.lit rfl | exact OneC.sl (hX (by repeat constructor)) ) | exact OneAll.rd (hX (by repeat constructor)))) rfl (pB (by repeat constructor)) rfl (?_))
  refine o_nil ?_
  refine c_ret_cell Tryz.func100 rfl ⟨_, Tryz.underlying32⟩ ti32 rfl (hX (by repeat constructor)) fun w O hS => ?_
  exact ⟨(), rfl, trivial, trivial⟩
set_option maxRecDepth 100000 in
theorem tNone_con (q : Rq9) (d f l : Value) : Con Tryz.prog 83 [.agg #[.int .i64 q.1, .int .i64 q.2.1, .int .i64 q.2.2.1, .string q.2.2.2.1, .string q.2.2.2.2.1, d, f, l]] [Sl (eInt .i64) d q.2.2.2.2.2.1, Sl eStr f q.2.2.2.2.2.2.1, Sl ePr l q.2.2.2.2.2.2.2] (γ := Unit) (fun _ => .bool (true)) (fun _ => True) (fun _ => []) := by
  refine con_of Tryz.func83 rfl (dd rfl) fun w0 O0 => ?_
  refine c_seq ?_
  refine c_region ?_
  refine o_step (s_box rfl (dd rfl) (fun b1 => ?_))
  refine o_val (v_assign rfl) (dd rfl) ?_
  refine o_nil ?_
  refine c_seq ?_
  refine c_region ?_
  refine o_val (v_assign rfl) (dd rfl) ?_
  refine o_nil ?_
  refine c_ret1 Tryz.func83 rfl rfl fun w O hS => ?_
  exact ⟨(), rfl, trivial, trivial⟩
set_option maxRecDepth 100000 in
theorem tNamed_con (q : Rq9) (d f l : Value) (hn : q.2.2.2.1.size ≤ 1000000) : Con Tryz.prog 85 [.agg #[.int .i64 q.1, .int .i64 q.2.1, .int .i64 q.2.2.1, .string q.2.2.2.1, .string q.2.2.2.2.1, d, f, l]] [Sl (eInt .i64) d q.2.2.2.2.2.1, Sl eStr f q.2.2.2.2.2.2.1, Sl ePr l q.2.2.2.2.2.2.2] (γ := Unit) (fun _ => .bool (namedP q.2.2.2.1)) (fun _ => True) (fun _ => []) := by
  have hN := named_con q.2.2.2.1 hn
  refine con_of Tryz.func85 rfl (dd rfl) fun w0 O0 => ?_
  refine c_seq ?_
  refine c_region ?_
  refine o_step (s_box rfl (dd rfl) (fun b1 => ?_))
  refine o_val (v_assign rfl) (dd rfl) ?_
  refine o_nil ?_
  refine c_seq ?_
  refine c_region ?_
  refine o_val (v_fieldAddrC 3 Tryz.underlying32 rfl ti9 (by decide) rfl) (dd rfl) ?_
  refine o_val (v_load lone9 rfl (hX (by repeat constructor)) rfl) (dd rfl) ?_
  refine o_step (s_callf cl86 (hN) rfl (dd rfl) (pXs (by repeat constructor)) fun _ _ => ?_)
  refine o_val (v_assign rfl) (dd rfl) ?_
  refine o_nil ?_
  refine c_ret1 Tryz.func85 rfl rfl fun w O hS => ?_
  exact ⟨(), rfl, trivial, trivial⟩
set_option maxRecDepth 100000 in
theorem tTake_con (q : Rq9) (d f l : Value) : Con Tryz.prog 102 [.agg #[.int .i64 q.1, .int .i64 q.2.1, .int .i64 q.2.2.1, .string q.2.2.2.1, .string q.2.2.2.2.1, d, f, l]] [Sl (eInt .i64) d q.2.2.2.2.2.1, Sl eStr f q.2.2.2.2.2.2.1, Sl ePr l q.2.2.2.2.2.2.2] (γ := Unit) (fun _ => .bool (decide (0 ≤ q.2.2.1 ∧ q.2.2.1 ≤ 100))) (fun _ => True) (fun _ => []) := by
  refine con_of Tryz.func102 rfl (dd rfl) fun w0 O0 => ?_
  refine c_seq ?_
  refine c_region ?_
  refine o_step (s_box rfl (dd rfl) (fun b1 => ?_))
  refine o_val (v_assign rfl) (dd rfl) ?_
  refine o_nil ?_
  refine c_seq ?_
  refine c_region ?_
  refine o_val (v_fieldAddrC 2 Tryz.underlying32 rfl ti3 (by decide) rfl) (dd rfl) ?_
  refine o_val (v_load lone3 rfl (hX (by repeat constructor)) rfl) (dd rfl) ?_
  refine o_val (v_ge rfl rfl) (dd rfl) ?_
  refine o_val (v_move rfl) (dd rfl) ?_
  refine o_guard_t rfl rfl (fun g1 => ?_) (fun g1 => ?_)
  · skip
    refine o_val (v_fieldAddrC 2 Tryz.underlying32 rfl ti3 (by decide) rfl) (dd rfl) ?_
    refine o_on rfl rfl ?_
    refine o_val (v_load lone3 rfl (hX (by repeat constructor)) rfl) (dd rfl) ?_
    refine o_on rfl rfl ?_
    refine o_val (v_le rfl rfl) (dd rfl) ?_
    refine o_val (v_pick_t rfl rfl) (dd rfl) ?_
    refine o_val (v_assign rfl) (dd rfl) ?_
    refine o_nil ?_
    refine c_ret1 Tryz.func102 rfl rfl fun w O hS => ?_
    exact ⟨(), congrArg Value.bool (by simp [g1]), trivial, trivial⟩
  · skip
    refine o_off rfl rfl rfl (dd rfl) ?_
    refine o_off rfl rfl rfl (dd rfl) ?_
    refine o_off rfl rfl rfl (dd rfl) ?_
    refine o_val (v_pick_f rfl rfl) (dd rfl) ?_
    refine o_val (v_assign rfl) (dd rfl) ?_
    refine o_nil ?_
    refine c_ret1 Tryz.func102 rfl rfl fun w O hS => ?_
    exact ⟨(), congrArg Value.bool (by first | (simp [g1]; done) | (simp [g1]; intros; omega)), trivial, trivial⟩
set_option maxRecDepth 100000 in
theorem tWatch_con (q : Rq9) (d f l : Value) (hn : q.2.2.2.1.size ≤ 1000000) : Con Tryz.prog 101 [.agg #[.int .i64 q.1, .int .i64 q.2.1, .int .i64 q.2.2.1, .string q.2.2.2.1, .string q.2.2.2.2.1, d, f, l]] [Sl (eInt .i64) d q.2.2.2.2.2.1, Sl eStr f q.2.2.2.2.2.2.1, Sl ePr l q.2.2.2.2.2.2.2] (γ := Unit) (fun _ => .bool (decide (q.2.2.2.1 = ⟨#[]⟩) || namedP q.2.2.2.1)) (fun _ => True) (fun _ => []) := by
  have hN := named_con q.2.2.2.1 hn
  refine con_of Tryz.func101 rfl (dd rfl) fun w0 O0 => ?_
  refine c_seq ?_
  refine c_region ?_
  refine o_step (s_box rfl (dd rfl) (fun b1 => ?_))
  refine o_val (v_assign rfl) (dd rfl) ?_
  refine o_nil ?_
  refine c_seq ?_
  refine c_region ?_
  refine o_val (v_fieldAddrC 3 Tryz.underlying32 rfl ti9 (by decide) rfl) (dd rfl) ?_
  refine o_val (v_load lone9 rfl (hX (by repeat constructor)) rfl) (dd rfl) ?_
  refine o_val (v_seq rfl rfl) (dd rfl) ?_
  refine o_val (v_move rfl) (dd rfl) ?_
  refine o_guard_f rfl rfl (fun g1 => ?_) (fun g1 => ?_)
  · skip
    refine o_val (v_fieldAddrC 3 Tryz.underlying32 rfl ti9 (by decide) rfl) (dd rfl) ?_
    refine o_on rfl rfl ?_
    refine o_val (v_load lone9 rfl (hX (by repeat constructor)) rfl) (dd rfl) ?_
    refine o_on rfl rfl ?_
    refine o_step (s_callf cl86 (hN) rfl (dd rfl) (pXs (by repeat constructor)) fun _ _ => ?_)
    refine o_val (v_pick_f rfl rfl) (dd rfl) ?_
    refine o_val (v_assign rfl) (dd rfl) ?_
    refine o_nil ?_
    refine c_ret1 Tryz.func101 rfl rfl fun w O hS => ?_
    exact ⟨(), congrArg Value.bool (by simp [g1]), trivial, trivial⟩
  · skip
    refine o_off rfl rfl rfl (dd rfl) ?_
    refine o_off rfl rfl rfl (dd rfl) ?_
    refine o_off rfl rfl rfl (dd rfl) ?_
    refine o_val (v_pick_t rfl rfl) (dd rfl) ?_
    refine o_val (v_assign rfl) (dd rfl) ?_
    refine o_nil ?_
    refine c_ret1 Tryz.func101 rfl rfl fun w O hS => ?_
    exact ⟨(), congrArg Value.bool (by simp [g1]), trivial, trivial⟩
set_option maxRecDepth 100000 in
theorem tAmend_con (q : Rq9) (d f l : Value) (hf : q.2.2.2.2.2.2.1.length ≤ 1000000) (hs : ∀ s ∈ q.2.2.2.2.2.2.1, s.size ≤ 1000000) : Con Tryz.prog 96 [.agg #[.int .i64 q.1, .int .i64 q.2.1, .int .i64 q.2.2.1, .string q.2.2.2.1, .string q.2.2.2.2.1, d, f, l]] [Sl (eInt .i64) d q.2.2.2.2.2.1, Sl eStr f q.2.2.2.2.2.2.1, Sl ePr l q.2.2.2.2.2.2.2] (γ := Unit) (fun _ => .bool (decide (1 ≤ q.2.2.1 ∧ q.2.2.1 ≤ 1000000000) && (decide (q.2.2.2.2.2.2.1.length ≤ 8) && filesP ⟨#[]⟩ q.2.2.2.2.2.2.1))) (fun _ => True) (fun _ => []) := by
  have hF := files_con (.int .i64 q.1) (.int .i64 q.2.1) (.int .i64 q.2.2.1) (.string q.2.2.2.1) (.string q.2.2.2.2.1) d f l q.2.2.2.2.2.2.1 hf hs
  have hI := id_con (.int .i64 q.1) (.int .i64 q.2.1) (.string q.2.2.2.1) (.string q.2.2.2.2.1) d f l q.2.2.1
  refine con_of Tryz.func96 rfl (dd rfl) fun w0 O0 => ?_
  refine c_seq ?_
  refine c_region ?_
  refine o_step (s_box rfl (dd rfl) (fun b1 => ?_))
  refine o_val (v_assign rfl) (dd rfl) ?_
  refine o_nil ?_
  refine c_seq ?_
  refine c_region ?_
  refine o_val (v_load_all ⟨_, Tryz.underlying32⟩ ti32 rfl (hX (by repeat constructor)) rfl) (dd rfl) ?_
  refine o_step (s_callf_keep cl91 (hI) rfl (dd rfl) (rX (by repeat constructor)) (fun _ => sX) (fun _ _ => ?_))
  refine o_val (v_move rfl) (dd rfl) ?_
  refine o_guard_t rfl rfl (fun g1 => ?_) (fun g1 => ?_)
  · skip
    refine o_val (v_load_all ⟨_, Tryz.underlying32⟩ ti32 rfl (hX (by repeat constructor)) rfl) (dd rfl) ?_
    refine o_on rfl rfl ?_
    refine o_step (s_callf_keep cl94 (hF) rfl (dd rfl) (rX (by repeat constructor)) (fun _ => sX) (fun _ _ => ?_))
    refine o_val (v_pick_t rfl rfl) (dd rfl) ?_
    refine o_val (v_assign rfl) (dd rfl) ?_
    refine o_nil ?_
    refine c_ret1 Tryz.func96 rfl rfl fun w O hS => ?_
    exact ⟨(), congrArg Value.bool (by simp [g1]), trivial, trivial⟩
  · skip
    refine o_off rfl rfl rfl (dd rfl) ?_
    refine o_off rfl rfl rfl (dd rfl) ?_
    refine o_val (v_pick_f rfl rfl) (dd rfl) ?_
    refine o_val (v_assign rfl) (dd rfl) ?_
    refine o_nil ?_
    refine c_ret1 Tryz.func96 rfl rfl fun w O hS => ?_
    exact ⟨(), congrArg Value.bool (by first | (simp [g1]; done) | (simp [g1]; intros; omega)), trivial, trivial⟩
set_option maxRecDepth 100000 in
theorem tShelve_con (q : Rq9) (d f l : Value) (hn : q.2.2.2.1.size ≤ 1000000) (hf : q.2.2.2.2.2.2.1.length ≤ 1000000) (hs : ∀ s ∈ q.2.2.2.2.2.2.1, s.size ≤ 1000000) : Con Tryz.prog 99 [.agg #[.int .i64 q.1, .int .i64 q.2.1, .int .i64 q.2.2.1, .string q.2.2.2.1, .string q.2.2.2.2.1, d, f, l]] [Sl (eInt .i64) d q.2.2.2.2.2.1, Sl eStr f q.2.2.2.2.2.2.1, Sl ePr l q.2.2.2.2.2.2.2] (γ := Unit) (fun _ => .bool (namedP q.2.2.2.1 && (decide (q.2.2.2.2.2.2.1.length ≤ 8) && filesP ⟨#[]⟩ q.2.2.2.2.2.2.1))) (fun _ => True) (fun _ => []) := by
  have hF := files_con (.int .i64 q.1) (.int .i64 q.2.1) (.int .i64 q.2.2.1) (.string q.2.2.2.1) (.string q.2.2.2.2.1) d f l q.2.2.2.2.2.2.1 hf hs
  have hN := named_con q.2.2.2.1 hn
  refine con_of Tryz.func99 rfl (dd rfl) fun w0 O0 => ?_
  refine c_seq ?_
  refine c_region ?_
  refine o_step (s_box rfl (dd rfl) (fun b1 => ?_))
  refine o_val (v_assign rfl) (dd rfl) ?_
  refine o_nil ?_
  refine c_seq ?_
  refine c_region ?_
  refine o_val (v_fieldAddrC 3 Tryz.underlying32 rfl ti9 (by decide) rfl) (dd rfl) ?_
  refine o_val (v_load lone9 rfl (hX (by repeat constructor)) rfl) (dd rfl) ?_
  refine o_step (s_callf_keep cl86 (hN) rfl (dd rfl) (rX (by repeat constructor)) (fun _ => sX) (fun _ _ => ?_))
  refine o_val (v_move rfl) (dd rfl) ?_
  refine o_guard rfl rfl (fun g1 => ?_) (fun g1 => ?_)
  · skip
    refine o_val (v_load_all ⟨_, Tryz.underlying32⟩ ti32 rfl (hX (by repeat constructor)) rfl) (dd rfl) ?_
    refine o_on rfl rfl ?_
    refine o_step (s_callf_keep cl94 (hF) rfl (dd rfl) (rX (by repeat constructor)) (fun _ => sX) (fun _ _ => ?_))
    refine o_val (v_pick_t rfl rfl) (dd rfl) ?_
    refine o_val (v_assign rfl) (dd rfl) ?_
    refine o_nil ?_
    refine c_ret1 Tryz.func99 rfl rfl fun w O hS => ?_
    exact ⟨(), congrArg Value.bool (by simp [g1]), trivial, trivial⟩
  · skip
    refine o_off rfl rfl rfl (dd rfl) ?_
    refine o_off rfl rfl rfl (dd rfl) ?_
    refine o_val (v_pick_f rfl rfl) (dd rfl) ?_
    refine o_val (v_assign rfl) (dd rfl) ?_
    refine o_nil ?_
    refine c_ret1 Tryz.func99 rfl rfl fun w O hS => ?_
    exact ⟨(), congrArg Value.bool (by first | (simp [g1]; done) | (simp [g1]; intros; omega)), trivial, trivial⟩
set_option maxRecDepth 100000 in
theorem tRecord_con (q : Rq9) (d f l : Value) (hd : q.2.2.2.2.2.1.length ≤ 1000000) (hf : q.2.2.2.2.2.2.1.length ≤ 1000000) (hs : ∀ s ∈ q.2.2.2.2.2.2.1, s.size ≤ 1000000) : Con Tryz.prog 90 [.agg #[.int .i64 q.1, .int .i64 q.2.1, .int .i64 q.2.2.1, .string q.2.2.2.1, .string q.2.2.2.2.1, d, f, l]] [Sl (eInt .i64) d q.2.2.2.2.2.1, Sl eStr f q.2.2.2.2.2.2.1, Sl ePr l q.2.2.2.2.2.2.2] (γ := Unit) (fun _ => .bool (decide (1 ≤ q.2.2.1 ∧ q.2.2.1 ≤ 1000000000) && lineP q.2.2.2.2.1 && (decide (q.2.2.2.2.2.1.length ≤ 8) && depsP q.2.2.1 0 q.2.2.2.2.2.1) && (decide (q.2.2.2.2.2.2.1.length ≤ 8) && filesP ⟨#[]⟩ q.2.2.2.2.2.2.1))) (fun _ => True) (fun _ => []) := by
  have hF := files_con (.int .i64 q.1) (.int .i64 q.2.1) (.int .i64 q.2.2.1) (.string q.2.2.2.1) (.string q.2.2.2.2.1) d f l q.2.2.2.2.2.2.1 hf hs
  have hI := id_con (.int .i64 q.1) (.int .i64 q.2.1) (.string q.2.2.2.1) (.string q.2.2.2.2.1) d f l q.2.2.1
  have hD := deps_con (.int .i64 q.1) (.int .i64 q.2.1) (.string q.2.2.2.1) (.string q.2.2.2.2.1) d f l q.2.2.1 q.2.2.2.2.2.1 hd
  have hN := right_con q.2.2.2.2.1
  rw [right_line] at hN
  refine con_of Tryz.func90 rfl (dd rfl) fun w0 O0 => ?_
  refine c_seq ?_
  refine c_region ?_
  refine o_step (s_box rfl (dd rfl) (fun b1 => ?_))
  refine o_val (v_assign rfl) (dd rfl) ?_
  refine o_nil ?_
  refine c_seq ?_
  refine c_region ?_
  refine o_val (v_load_all ⟨_, Tryz.underlying32⟩ ti32 rfl (hX (by repeat constructor)) rfl) (dd rfl) ?_
  refine o_step (s_callf_keep cl91 (hI) rfl (dd rfl) (rX (by repeat constructor)) (fun _ => sX) (fun _ _ => ?_))
  refine o_val (v_move rfl) (dd rfl) ?_
  refine o_guard_t rfl rfl (fun g1 => ?_) (fun g1 => ?_)
  · skip
    refine o_val (v_fieldAddrC 4 Tryz.underlying32 rfl ti9 (by decide) rfl) (dd rfl) ?_
    refine o_on rfl rfl ?_
    refine o_val (v_load lone9 rfl (hX (by repeat constructor)) rfl) (dd rfl) ?_
    refine o_on rfl rfl ?_
    refine o_step (s_callf_keep cl92 (hN) rfl (dd rfl) (rX (by repeat constructor)) (fun _ => sX) (fun _ _ => ?_))
    refine o_val (v_pick_t rfl rfl) (dd rfl) ?_
    refine o_val (v_move rfl) (dd rfl) ?_
    refine o_guard rfl rfl (fun g2 => ?_) (fun g2 => ?_)
    · skip
      refine o_val (v_load_all ⟨_, Tryz.underlying32⟩ ti32 rfl (hX (by repeat constructor)) rfl) (dd rfl) ?_
      refine o_on rfl rfl ?_
      refine o_step (s_callf_keep cl93 (hD) rfl (dd rfl) (rX (by repeat constructor)) (fun _ => sX) (fun _ _ => ?_))
      refine o_val (v_pick_t rfl rfl) (dd rfl) ?_
      refine o_val (v_move rfl) (dd rfl) ?_
      refine o_guard rfl rfl (fun g3 => ?_) (fun g3 => ?_)
      · skip
        refine o_val (v_load_all ⟨_, Tryz.underlying32⟩ ti32 rfl (hX (by repeat constructor)) rfl) (dd rfl) ?_
        refine o_on rfl rfl ?_
        refine o_step (s_callf_keep cl94 (hF) rfl (dd rfl) (rX (by repeat constructor)) (fun _ => sX) (fun _ _ => ?_))
        refine o_val (v_pick_t rfl rfl) (dd rfl) ?_
        refine o_val (v_assign rfl) (dd rfl) ?_
        refine o_nil ?_
        refine c_ret1 Tryz.func90 rfl rfl fun w O hS => ?_
        exact ⟨(), congrArg Value.bool (by rw [g2, g3]; simp [g1]), trivial, trivial⟩
      · skip
        refine o_off rfl rfl rfl (dd rfl) ?_
        refine o_off rfl rfl rfl (dd rfl) ?_
        refine o_val (v_pick_f rfl rfl) (dd rfl) ?_
        refine o_val (v_assign rfl) (dd rfl) ?_
        refine o_nil ?_
        refine c_ret1 Tryz.func90 rfl rfl fun w O hS => ?_
        exact ⟨(), congrArg Value.bool (by first | (simp [g3]; done) | (simp [g3]; intros; omega)), trivial, trivial⟩
    · skip
      refine o_off rfl rfl rfl (dd rfl) ?_
      refine o_off rfl rfl rfl (dd rfl) ?_
      refine o_val (v_pick_f rfl rfl) (dd rfl) ?_
      refine o_val (v_move rfl) (dd rfl) ?_
      refine o_off rfl rfl rfl (dd rfl) ?_
      refine o_off rfl rfl rfl (dd rfl) ?_
      refine o_val (v_pick_f rfl rfl) (dd rfl) ?_
      refine o_val (v_assign rfl) (dd rfl) ?_
      refine o_nil ?_
      refine c_ret1 Tryz.func90 rfl rfl fun w O hS => ?_
      exact ⟨(), congrArg Value.bool (by first | (simp [g2]; done) | (simp [g2]; intros; omega)), trivial, trivial⟩
  · skip
    refine o_off rfl rfl rfl (dd rfl) ?_
    refine o_off rfl rfl rfl (dd rfl) ?_
    refine o_off rfl rfl rfl (dd rfl) ?_
    refine o_val (v_pick_f rfl rfl) (dd rfl) ?_
    refine o_val (v_move rfl) (dd rfl) ?_
    refine o_off rfl rfl rfl (dd rfl) ?_
    refine o_off rfl rfl rfl (dd rfl) ?_
    refine o_val (v_pick_f rfl rfl) (dd rfl) ?_
    refine o_val (v_move rfl) (dd rfl) ?_
    refine o_off rfl rfl rfl (dd rfl) ?_
    refine o_off rfl rfl rfl (dd rfl) ?_
    refine o_val (v_pick_f rfl rfl) (dd rfl) ?_
    refine o_val (v_assign rfl) (dd rfl) ?_
    refine o_nil ?_
    refine c_ret1 Tryz.func90 rfl rfl fun w O hS => ?_
    exact ⟨(), congrArg Value.bool (by first | (simp [g1]; done) | (simp [g1]; intros; omega)), trivial, trivial⟩
set_option maxRecDepth 100000 in
theorem tChange_con (q : Rq9) (d f l : Value) (hl : q.2.2.2.2.2.2.2.length ≤ 1000000 ∧ ∀ p ∈ q.2.2.2.2.2.2.2, SizeP p) : Con Tryz.prog 87 [.agg #[.int .i64 q.1, .int .i64 q.2.1, .int .i64 q.2.2.1, .string q.2.2.2.1, .string q.2.2.2.2.1, d, f, l]] [Sl (eInt .i64) d q.2.2.2.2.2.1, Sl eStr f q.2.2.2.2.2.2.1, Sl ePr l q.2.2.2.2.2.2.2] (γ := Unit) (fun _ => .bool (decide (0 ≤ q.2.1) && decide (q.2.1 ≤ 1099511627776) && decide (1 ≤ q.2.2.2.2.2.2.2.length) && decide (q.2.2.2.2.2.2.2.length ≤ 24) && q.2.2.2.2.2.2.2.all rightP)) (fun _ => True) (fun _ => []) := by
  have hR := rights_con l q.2.2.2.2.2.2.2 hl
  refine con_of Tryz.func87 rfl (dd rfl) fun w0 O0 => ?_
  refine c_seq ?_
  refine c_region ?_
  refine o_step (s_box rfl (dd rfl) (fun b1 => ?_))
  refine o_val (v_assign rfl) (dd rfl) ?_
  refine o_nil ?_
  refine c_seq ?_
  refine c_region ?_
  refine o_val (v_fieldAddrC 1 Tryz.underlying32 rfl ti3 (by decide) rfl) (dd rfl) ?_
  refine o_val (v_load lone3 rfl (hX (by repeat constructor)) rfl) (dd rfl) ?_
  refine o_val (v_ge rfl rfl) (dd rfl) ?_
  refine o_val (v_move rfl) (dd rfl) ?_
  refine o_guard_t rfl rfl (fun g1 => ?_) (fun g1 => ?_)
  · skip
    refine o_val (v_fieldAddrC 1 Tryz.underlying32 rfl ti3 (by decide) rfl) (dd rfl) ?_
    refine o_on rfl rfl ?_
    refine o_val (v_load lone3 rfl (hX (by repeat constructor)) rfl) (dd rfl) ?_
    refine o_on rfl rfl ?_
    refine o_val (v_le rfl rfl) (dd rfl) ?_
    refine o_val (v_pick_t rfl rfl) (dd rfl) ?_
    refine o_val (v_move rfl) (dd rfl) ?_
    refine o_guard_t rfl rfl (fun g2 => ?_) (fun g2 => ?_)
    · skip
      refine o_val (v_fieldAddrC 7 Tryz.underlying32 rfl ti30 (by decide) rfl) (dd rfl) ?_
      refine o_on rfl rfl ?_
      refine o_val (v_load lone30 rfl (hX (by repeat constructor)) rfl) (dd rfl) ?_
      refine o_on rfl rfl ?_
      refine o_val ((by first | exact v_len_form Tryz.underlying30 rfl | exact v_len_sl Tryz.underlying30 rfl (hX (by repeat constructor)))) (dd rfl) ?_
      refine o_on rfl rfl ?_
      refine o_val (v_ge rfl rfl) (dd rfl) ?_
      refine o_val (v_pick_t rfl rfl) (dd rfl) ?_
      refine o_val (v_move rfl) (dd rfl) ?_
      refine o_guard_t rfl rfl (fun g3 => ?_) (fun g3 => ?_)
      · skip
        refine o_val (v_fieldAddrC 7 Tryz.underlying32 rfl ti30 (by decide) rfl) (dd rfl) ?_
        refine o_on rfl rfl ?_
        refine o_val (v_load lone30 rfl (hX (by repeat constructor)) rfl) (dd rfl) ?_
        refine o_on rfl rfl ?_
        refine o_val ((by first | exact v_len_form Tryz.underlying30 rfl | exact v_len_sl Tryz.underlying30 rfl (hX (by repeat constructor)))) (dd rfl) ?_
        refine o_on rfl rfl ?_
        refine o_val (v_le rfl rfl) (dd rfl) ?_
        refine o_val (v_pick_t rfl rfl) (dd rfl) ?_
        refine o_val (v_move rfl) (dd rfl) ?_
        refine o_guard_t rfl rfl (fun g4 => ?_) (fun g4 => ?_)
        · skip
          refine o_val (v_fieldAddrC 7 Tryz.underlying32 rfl ti30 (by decide) rfl) (dd rfl) ?_
          refine o_on rfl rfl ?_
          refine o_val (v_load lone30 rfl (hX (by repeat constructor)) rfl) (dd rfl) ?_
          refine o_on rfl rfl ?_
          refine o_step (s_callf_keep cl88 (hR) rfl (dd rfl) (rX (by repeat constructor)) (fun _ => sX) (fun _ _ => ?_))
          refine o_val (v_pick_t rfl rfl) (dd rfl) ?_
          refine o_val (v_assign rfl) (dd rfl) ?_
          refine o_nil ?_
          refine c_ret1 Tryz.func87 rfl rfl fun w O hS => ?_
          exact ⟨(), congrArg Value.bool (by rw [decide_eq_true g1, decide_eq_true g2, decide_eq_true (p := 1 ≤ q.2.2.2.2.2.2.2.length) (by omega), decide_eq_true (p := q.2.2.2.2.2.2.2.length ≤ 24) (by omega)]; rfl), trivial, trivial⟩
        · skip
          refine o_off rfl rfl rfl (dd rfl) ?_
          refine o_off rfl rfl rfl (dd rfl) ?_
          refine o_off rfl rfl rfl (dd rfl) ?_
          refine o_val (v_pick_f rfl rfl) (dd rfl) ?_
          refine o_val (v_assign rfl) (dd rfl) ?_
          refine o_nil ?_
          refine c_ret1 Tryz.func87 rfl rfl fun w O hS => ?_
          exact ⟨(), congrArg Value.bool (by first | (simp [g4]; done) | (simp [g4]; intros; omega)), trivial, trivial⟩
      · skip
        refine o_off rfl rfl rfl (dd rfl) ?_
        refine o_off rfl rfl rfl (dd rfl) ?_
        refine o_off rfl rfl rfl (dd rfl) ?_
        refine o_off rfl rfl rfl (dd rfl) ?_
        refine o_val (v_pick_f rfl rfl) (dd rfl) ?_
        refine o_val (v_move rfl) (dd rfl) ?_
        refine o_off rfl rfl rfl (dd rfl) ?_
        refine o_off rfl rfl rfl (dd rfl) ?_
        refine o_off rfl rfl rfl (dd rfl) ?_
        refine o_val (v_pick_f rfl rfl) (dd rfl) ?_
        refine o_val (v_assign rfl) (dd rfl) ?_
        refine o_nil ?_
        refine c_ret1 Tryz.func87 rfl rfl fun w O hS => ?_
        exact ⟨(), congrArg Value.bool (by first | (simp [g3]; done) | (simp [g3]; intros; omega)), trivial, trivial⟩
    · skip
      refine o_off rfl rfl rfl (dd rfl) ?_
      refine o_off rfl rfl rfl (dd rfl) ?_
      refine o_off rfl rfl rfl (dd rfl) ?_
      refine o_off rfl rfl rfl (dd rfl) ?_
      refine o_val (v_pick_f rfl rfl) (dd rfl) ?_
      refine o_val (v_move rfl) (dd rfl) ?_
      refine o_off rfl rfl rfl (dd rfl) ?_
      refine o_off rfl rfl rfl (dd rfl) ?_
      refine o_off rfl rfl rfl (dd rfl) ?_
      refine o_off rfl rfl rfl (dd rfl) ?_
      refine o_val (v_pick_f rfl rfl) (dd rfl) ?_
      refine o_val (v_move rfl) (dd rfl) ?_
      refine o_off rfl rfl rfl (dd rfl) ?_
      refine o_off rfl rfl rfl (dd rfl) ?_
      refine o_off rfl rfl rfl (dd rfl) ?_
      refine o_val (v_pick_f rfl rfl) (dd rfl) ?_
      refine o_val (v_assign rfl) (dd rfl) ?_
      refine o_nil ?_
      refine c_ret1 Tryz.func87 rfl rfl fun w O hS => ?_
      exact ⟨(), congrArg Value.bool (by first | (simp [g2]; done) | (simp [g2]; intros; omega)), trivial, trivial⟩
  · skip
    refine o_off rfl rfl rfl (dd rfl) ?_
    refine o_off rfl rfl rfl (dd rfl) ?_
    refine o_off rfl rfl rfl (dd rfl) ?_
    refine o_val (v_pick_f rfl rfl) (dd rfl) ?_
    refine o_val (v_move rfl) (dd rfl) ?_
    refine o_off rfl rfl rfl (dd rfl) ?_
    refine o_off rfl rfl rfl (dd rfl) ?_
    refine o_off rfl rfl rfl (dd rfl) ?_
    refine o_off rfl rfl rfl (dd rfl) ?_
    refine o_val (v_pick_f rfl rfl) (dd rfl) ?_
    refine o_val (v_move rfl) (dd rfl) ?_
    refine o_off rfl rfl rfl (dd rfl) ?_
    refine o_off rfl rfl rfl (dd rfl) ?_
    refine o_off rfl rfl rfl (dd rfl) ?_
    refine o_off rfl rfl rfl (dd rfl) ?_
    refine o_val (v_pick_f rfl rfl) (dd rfl) ?_
    refine o_val (v_move rfl) (dd rfl) ?_
    refine o_off rfl rfl rfl (dd rfl) ?_
    refine o_off rfl rfl rfl (dd rfl) ?_
    refine o_off rfl rfl rfl (dd rfl) ?_
    refine o_val (v_pick_f rfl rfl) (dd rfl) ?_
    refine o_val (v_assign rfl) (dd rfl) ?_
    refine o_nil ?_
    refine c_ret1 Tryz.func87 rfl rfl fun w O hS => ?_
    exact ⟨(), congrArg Value.bool (by first | (simp [g1]; done) | (simp [g1]; intros; omega)), trivial, trivial⟩
end Go.Proofs.YtlfehnnmpkohkaaGreatDoor
/- Chapter 16: which requests may be. -/
namespace Go.Proofs.YtlfehnnmpkohkaaGreatDoor
open Go Go.SL Go.Lib
abbrev fnV (n : Nat) : Value := .func (.func n) #[] #[]
abbrev fnC (n b : Nat) : Value := .func (.func n) #[] #[ptr1 b]
def kindsM (b1 b2 : Nat) : List (Int × Value) := upd (upd (upd (upd (upd (upd (upd (upd (upd (upd (upd (upd (upd ([]) 0 (.agg #[fnV 87, fnV 89])) 1 (.agg #[fnV 90, fnC 95 b2])) 2 (.agg #[fnV 96, fnV 82])) 3 (.agg #[fnV 91, fnV 97])) 4 (.agg #[fnV 94, fnV 98])) 5 (.agg #[fnV 99, fnC 100 b1])) 6 (.agg #[fnV 85, fnV 81])) 9 (.agg #[fnV 85, fnV 81])) 7 (.agg #[fnV 83, fnV 84])) 8 (.agg #[fnV 83, fnV 84])) 11 (.agg #[fnV 83, fnV 84])) 10 (.agg #[fnV 101, fnV 81])) 12 (.agg #[fnV 102, fnV 103])
theorem look0 (b1 b2 : Nat) : Go.SL.look (kindsM b1 b2) (0 : Int) = some (.agg #[fnV 87, fnV 89]) := by unfold kindsM; simp only [Go.SL.look_upd]; simp
theorem look1 (b1 b2 : Nat) : Go.SL.look (kindsM b1 b2) (1 : Int) = some (.agg #[fnV 90, fnC 95 b2]) := by unfold kindsM; simp only [Go.SL.look_upd]; simp
theorem look2 (b1 b2 : Nat) : Go.SL.look (kindsM b1 b2) (2 : Int) = some (.agg #[fnV 96, fnV 82]) := by unfold kindsM; simp only [Go.SL.look_upd]; simp
theorem look3 (b1 b2 : Nat) : Go.SL.look (kindsM b1 b2) (3 : Int) = some (.agg #[fnV 91, fnV 97]) := by unfold kindsM; simp only [Go.SL.look_upd]; simp
theorem look4 (b1 b2 : Nat) : Go.SL.look (kindsM b1 b2) (4 : Int) = some (.agg #[fnV 94, fnV 98]) := by unfold kindsM; simp only [Go.SL.look_upd]; simp
theorem look5 (b1 b2 : Nat) : Go.SL.look (kindsM b1 b2) (5 : Int) = some (.agg #[fnV 99, fnC 100 b1]) := by unfold kindsM; simp only [Go.SL.look_upd]; simp
theorem look6 (b1 b2 : Nat) : Go.SL.look (kindsM b1 b2) (6 : Int) = some (.agg #[fnV 85, fnV 81]) := by unfold kindsM; simp only [Go.SL.look_upd]; simp
theorem look7 (b1 b2 : Nat) : Go.SL.look (kindsM b1 b2) (7 : Int) = some (.agg #[fnV 83, fnV 84]) := by unfold kindsM; simp only [Go.SL.look_upd]; simp
theorem look8 (b1 b2 : Nat) : Go.SL.look (kindsM b1 b2) (8 : Int) = some (.agg #[fnV 83, fnV 84]) := by unfold kindsM; simp only [Go.SL.look_upd]; simp
theorem look9 (b1 b2 : Nat) : Go.SL.look (kindsM b1 b2) (9 : Int) = some (.agg #[fnV 85, fnV 81]) := by unfold kindsM; simp only [Go.SL.look_upd]; simp
theorem look10 (b1 b2 : Nat) : Go.SL.look (kindsM b1 b2) (10 : Int) = some (.agg #[fnV 101, fnV 81]) := by unfold kindsM; simp only [Go.SL.look_upd]; simp
theorem look11 (b1 b2 : Nat) : Go.SL.look (kindsM b1 b2) (11 : Int) = some (.agg #[fnV 83, fnV 84]) := by unfold kindsM; simp only [Go.SL.look_upd]; simp
theorem look12 (b1 b2 : Nat) : Go.SL.look (kindsM b1 b2) (12 : Int) = some (.agg #[fnV 102, fnV 103]) := by unfold kindsM; simp only [Go.SL.look_upd]; simp
theorem lookN (b1 b2 : Nat) {k : Int} (h : k < 0 ∨ 12 < k) : Go.SL.look (kindsM b1 b2) k = none := by unfold kindsM; simp only [Go.SL.look_upd, Go.SL.look_nil]; repeat rw [if_neg (by omega)]
attribute [local irreducible] Cfg Kont StepK Val Con Qops Any Sl Own Blk BlkR Rd Pu ExA AllA Has Pick Ent Elem Beside Callable TI Lone OwnO AndA
set_option maxRecDepth 100000 in
theorem kinds_con : Con Tryz.prog 39 [] [] (γ := Nat × Nat × Nat) (fun g => .map (some g.1)) (fun _ => True) (fun g => [MapA kInt g.1 (kindsM g.2.1 g.2.2), Blk g.2.1 75 [fnV 81], Blk g.2.2 75 [fnV 82]]) := by
  refine con_of Tryz.func39 rfl (dd rfl) fun w0 O0 => ?_
  refine c_seq ?_
  refine c_region ?_
  refine o_val (v_assign rfl) (dd rfl) ?_
  refine o_nil ?_
  refine c_seq ?_
  refine c_region ?_
  refine o_step (s_alloc ti75 (dd rfl) (fun b1 => ?_))
  refine o_step (s_store1 ti75 rfl rfl (by first | exact OneC.lit rfl | exact OneC.sl (hX (by repeat constructor)) ) (pB (by repeat constructor)) (by first | decide | exact Nat.le_of_ble_eq_true rfl | simp) (by first | (dsimp only [List.set_cons_succ, List.set_cons_zero]; first | done | exact rfl) | rfl) (?_))
  refine o_nil ?_
  refine c_seq ?_
  refine c_region ?_
  refine o_step (s_alloc ti75 (dd rfl) (fun b2 => ?_))
  refine o_step (s_store1 ti75 rfl rfl (by first | exact OneC.lit rfl | exact OneC.sl (hX (by repeat constructor)) ) (pB (by repeat constructor)) (by first | decide | exact Nat.le_of_ble_eq_true rfl | simp) (by first | (dsimp only [List.set_cons_succ, List.set_cons_zero]; first | done | exact rfl) | rfl) (?_))
  refine o_nil ?_
  refine c_seq ?_
  refine c_region ?_
  refine o_val (v_buildS (places := [(0, 1), (1, 1)]) (cells := [_, _]) Tryz.underlying77 ti77 (by kernel_rfl) rfl (by repeat (first | exact PartsC.nil | (apply PartsC.one (by first | exact OneC.lit rfl | exact OneC.sl (hX (by repeat constructor)) )) | (apply PartsC.lit rfl))) rfl) (dd rfl) ?_
  refine o_step (s_alloc ti77 (dd rfl) (fun b3 => ?_))
  refine o_step (s_store_all ti77 rfl rfl (by first | exact CellsV.lit rfl | exact CellsV.one (by first | exact OneC.lit rfl | exact OneC.sl (hX (by repeat constructor)) )) (by repeat (first | exact OneAll.nil | (refine OneAll.cons ?_ ?_; · first | exact OneC.lit rfl | exact OneC.sl (hX (by repeat constructor)) ) | exact OneAll.rd (hX (by repeat constructor)))) rfl (pB (by repeat constructor)) rfl (?_))
  refine o_nil ?_
  refine c_seq ?_
  refine c_region ?_
  refine o_val (v_load lone75 rfl (hX (by repeat constructor)) rfl) (dd rfl) ?_
  refine o_val (v_buildS (places := [(0, 1), (1, 1)]) (cells := [_, _]) Tryz.underlying77 ti77 (by kernel_rfl) rfl (by repeat (first | exact PartsC.nil | (apply PartsC.one (by first | exact OneC.lit rfl | exact OneC.sl (hX (by repeat constructor)) )) | (apply PartsC.lit rfl))) rfl) (dd rfl) ?_
  refine o_step (s_alloc ti77 (dd rfl) (fun b4 => ?_))
  refine o_step (s_store_all ti77 rfl rfl (by first | exact CellsV.lit rfl | exact CellsV.one (by first | exact OneC.lit rfl | exact OneC.sl (hX (by repeat constructor)) )) (by repeat (first | exact OneAll.nil | (refine OneAll.cons ?_ ?_; · first | exact OneC.lit rfl | exact OneC.sl (hX (by repeat constructor)) ) | exact OneAll.rd (hX (by repeat constructor)))) rfl (pB (by repeat constructor)) rfl (?_))
  refine o_nil ?_
  refine c_seq ?_
  refine c_region ?_
  refine o_step (s_makeMap (ke := kInt) (dd rfl) (fun b8 => ?_))
  refine o_val (v_buildS (places := [(0, 1), (1, 1)]) (cells := [_, _]) Tryz.underlying77 ti77 (by kernel_rfl) rfl (by repeat (first | exact PartsC.nil | (apply PartsC.one (by first | exact OneC.lit rfl | exact OneC.sl (hX (by repeat constructor)) )) | (apply PartsC.lit rfl))) rfl) (dd rfl) ?_
  refine o_step (s_insert kInt Tryz.underlying79 Tryz.underlying3 kInt_sc rfl rfl rfl (pX (by repeat constructor)) (?_))
  refine o_val (v_makeFunc rfl rfl) (dd rfl) ?_
  refine o_val (v_buildS (places := [(0, 1), (1, 1)]) (cells := [_, _]) Tryz.underlying77 ti77 (by kernel_rfl) rfl (by repeat (first | exact PartsC.nil | (apply PartsC.one (by first | exact OneC.lit rfl | exact OneC.sl (hX (by repeat constructor)) )) | (apply PartsC.lit rfl))) rfl) (dd rfl) ?_
  refine o_step (s_insert kInt Tryz.underlying79 Tryz.underlying3 kInt_sc rfl rfl rfl (pX (by repeat constructor)) (?_))
  refine o_val (v_load lone75 rfl (hX (by repeat constructor)) rfl) (dd rfl) ?_
  refine o_val (v_buildS (places := [(0, 1), (1, 1)]) (cells := [_, _]) Tryz.underlying77 ti77 (by kernel_rfl) rfl (by repeat (first | exact PartsC.nil | (apply PartsC.one (by first | exact OneC.lit rfl | exact OneC.sl (hX (by repeat constructor)) )) | (apply PartsC.lit rfl))) rfl) (dd rfl) ?_
  refine o_step (s_insert kInt Tryz.underlying79 Tryz.underlying3 kInt_sc rfl rfl rfl (pX (by repeat constructor)) (?_))
  refine o_val (v_buildS (places := [(0, 1), (1, 1)]) (cells := [_, _]) Tryz.underlying77 ti77 (by kernel_rfl) rfl (by repeat (first | exact PartsC.nil | (apply PartsC.one (by first | exact OneC.lit rfl | exact OneC.sl (hX (by repeat constructor)) )) | (apply PartsC.lit rfl))) rfl) (dd rfl) ?_
  refine o_step (s_insert kInt Tryz.underlying79 Tryz.underlying3 kInt_sc rfl rfl rfl (pX (by repeat constructor)) (?_))
  refine o_val (v_buildS (places := [(0, 1), (1, 1)]) (cells := [_, _]) Tryz.underlying77 ti77 (by kernel_rfl) rfl (by repeat (first | exact PartsC.nil | (apply PartsC.one (by first | exact OneC.lit rfl | exact OneC.sl (hX (by repeat constructor)) )) | (apply PartsC.lit rfl))) rfl) (dd rfl) ?_
  refine o_step (s_insert kInt Tryz.underlying79 Tryz.underlying3 kInt_sc rfl rfl rfl (pX (by repeat constructor)) (?_))
  refine o_val (v_makeFunc rfl rfl) (dd rfl) ?_
  refine o_val (v_buildS (places := [(0, 1), (1, 1)]) (cells := [_, _]) Tryz.underlying77 ti77 (by kernel_rfl) rfl (by repeat (first | exact PartsC.nil | (apply PartsC.one (by first | exact OneC.lit rfl | exact OneC.sl (hX (by repeat constructor)) )) | (apply PartsC.lit rfl))) rfl) (dd rfl) ?_
  refine o_step (s_insert kInt Tryz.underlying79 Tryz.underlying3 kInt_sc rfl rfl rfl (pX (by repeat constructor)) (?_))
  refine o_val (v_load_all ⟨_, Tryz.underlying77⟩ ti77 rfl (hX (by repeat constructor)) rfl) (dd rfl) ?_
  refine o_step (s_insert kInt Tryz.underlying79 Tryz.underlying3 kInt_sc rfl rfl rfl (pX (by repeat constructor)) (?_))
  refine o_val (v_load_all ⟨_, Tryz.underlying77⟩ ti77 rfl (hX (by repeat constructor)) rfl) (dd rfl) ?_
  refine o_step (s_insert kInt Tryz.underlying79 Tryz.underlying3 kInt_sc rfl rfl rfl (pX (by repeat constructor)) (?_))
  refine o_val (v_load_all ⟨_, Tryz.underlying77⟩ ti77 rfl (hX (by repeat constructor)) rfl) (dd rfl) ?_
  refine o_step (s_insert kInt Tryz.underlying79 Tryz.underlying3 kInt_sc rfl rfl rfl (pX (by repeat constructor)) (?_))
  refine o_val (v_load_all ⟨_, Tryz.underlying77⟩ ti77 rfl (hX (by repeat constructor)) rfl) (dd rfl) ?_
  refine o_step (s_insert kInt Tryz.underlying79 Tryz.underlying3 kInt_sc rfl rfl rfl (pX (by repeat constructor)) (?_))
  refine o_val (v_load_all ⟨_, Tryz.underlying77⟩ ti77 rfl (hX (by repeat constructor)) rfl) (dd rfl) ?_
  refine o_step (s_insert kInt Tryz.underlying79 Tryz.underlying3 kInt_sc rfl rfl rfl (pX (by repeat constructor)) (?_))
  refine o_val (v_load lone75 rfl (hX (by repeat constructor)) rfl) (dd rfl) ?_
  refine o_val (v_buildS (places := [(0, 1), (1, 1)]) (cells := [_, _]) Tryz.underlying77 ti77 (by kernel_rfl) rfl (by repeat (first | exact PartsC.nil | (apply PartsC.one (by first | exact OneC.lit rfl | exact OneC.sl (hX (by repeat constructor)) )) | (apply PartsC.lit rfl))) rfl) (dd rfl) ?_
  refine o_step (s_insert kInt Tryz.underlying79 Tryz.underlying3 kInt_sc rfl rfl rfl (pX (by repeat constructor)) (?_))
  refine o_val (v_buildS (places := [(0, 1), (1, 1)]) (cells := [_, _]) Tryz.underlying77 ti77 (by kernel_rfl) rfl (by repeat (first | exact PartsC.nil | (apply PartsC.one (by first | exact OneC.lit rfl | exact OneC.sl (hX (by repeat constructor)) )) | (apply PartsC.lit rfl))) rfl) (dd rfl) ?_
  refine o_step (s_insert kInt Tryz.underlying79 Tryz.underlying3 kInt_sc rfl rfl rfl (pX (by repeat constructor)) (?_))
  refine o_val (v_move rfl) (dd rfl) ?_
  refine o_val (v_assign rfl) (dd rfl) ?_
  refine o_nil ?_
  refine c_ret1 Tryz.func39 rfl rfl fun w O hS => ?_
  exact ⟨(b8, b1, b2), rfl, trivial, Ent.get hS (eX (by repeat constructor))⟩
end Go.Proofs.YtlfehnnmpkohkaaGreatDoor
/- Chapter 16: what a request that may be needs, kind by kind. -/
namespace Go.Proofs.YtlfehnnmpkohkaaGreatDoor
open Go Go.Lib
abbrev zeroQ (k : Int) : Rq9 := (k, 0, 0, ⟨#[]⟩, ⟨#[]⟩, [], [], [])
theorem right_iff0 {q : Rq9} (hk : q.1 = 0) : RightQ q ↔ (decide (0 ≤ q.2.1) && decide (q.2.1 ≤ 1099511627776) && decide (1 ≤ q.2.2.2.2.2.2.2.length) && decide (q.2.2.2.2.2.2.2.length ≤ 24) && q.2.2.2.2.2.2.2.all rightP) = true ∧ ((q.1, 0, q.2.2.1, q.2.2.2.1, q.2.2.2.2.1, q.2.2.2.2.2.1, q.2.2.2.2.2.2.1, []) : Rq9) = zeroQ q.1 := by
  obtain ⟨k, b, i, n, t, d, f, l⟩ := q
  dsimp only at hk ⊢
  subst hk
  unfold RightQ zeroQ
  simp [Prod.mk.injEq, far9]
  try grind
theorem right_iff1 {q : Rq9} (hk : q.1 = 1) : RightQ q ↔ (decide (1 ≤ q.2.2.1 ∧ q.2.2.1 ≤ 1000000000) && lineP q.2.2.2.2.1 && (decide (q.2.2.2.2.2.1.length ≤ 8) && depsP q.2.2.1 0 q.2.2.2.2.2.1) && (decide (q.2.2.2.2.2.2.1.length ≤ 8) && filesP ⟨#[]⟩ q.2.2.2.2.2.2.1)) = true ∧ ((q.1, q.2.1, 0, q.2.2.2.1, ⟨#[]⟩, [], [], q.2.2.2.2.2.2.2) : Rq9) = zeroQ q.1 := by
  obtain ⟨k, b, i, n, t, d, f, l⟩ := q
  dsimp only at hk ⊢
  subst hk
  unfold RightQ zeroQ
  simp [Prod.mk.injEq, far9]
  try grind
theorem right_iff2 {q : Rq9} (hk : q.1 = 2) : RightQ q ↔ (decide (1 ≤ q.2.2.1 ∧ q.2.2.1 ≤ 1000000000) && (decide (q.2.2.2.2.2.2.1.length ≤ 8) && filesP ⟨#[]⟩ q.2.2.2.2.2.2.1)) = true ∧ ((q.1, q.2.1, 0, q.2.2.2.1, q.2.2.2.2.1, q.2.2.2.2.2.1, [], q.2.2.2.2.2.2.2) : Rq9) = zeroQ q.1 := by
  obtain ⟨k, b, i, n, t, d, f, l⟩ := q
  dsimp only at hk ⊢
  subst hk
  unfold RightQ zeroQ
  simp [Prod.mk.injEq, far9]
  try grind
theorem right_iff3 {q : Rq9} (hk : q.1 = 3) : RightQ q ↔ (decide (1 ≤ q.2.2.1 ∧ q.2.2.1 ≤ 1000000000)) = true ∧ ((q.1, q.2.1, 0, q.2.2.2.1, q.2.2.2.2.1, q.2.2.2.2.2.1, q.2.2.2.2.2.2.1, q.2.2.2.2.2.2.2) : Rq9) = zeroQ q.1 := by
  obtain ⟨k, b, i, n, t, d, f, l⟩ := q
  dsimp only at hk ⊢
  subst hk
  unfold RightQ zeroQ
  simp [Prod.mk.injEq, far9]
  try grind
theorem right_iff4 {q : Rq9} (hk : q.1 = 4) : RightQ q ↔ (decide (q.2.2.2.2.2.2.1.length ≤ 8) && filesP ⟨#[]⟩ q.2.2.2.2.2.2.1) = true ∧ ((q.1, q.2.1, q.2.2.1, q.2.2.2.1, q.2.2.2.2.1, q.2.2.2.2.2.1, [], q.2.2.2.2.2.2.2) : Rq9) = zeroQ q.1 := by
  obtain ⟨k, b, i, n, t, d, f, l⟩ := q
  dsimp only at hk ⊢
  subst hk
  unfold RightQ zeroQ
  simp [Prod.mk.injEq, far9]
  try grind
theorem right_iff5 {q : Rq9} (hk : q.1 = 5) : RightQ q ↔ (namedP q.2.2.2.1 && (decide (q.2.2.2.2.2.2.1.length ≤ 8) && filesP ⟨#[]⟩ q.2.2.2.2.2.2.1)) = true ∧ ((q.1, q.2.1, q.2.2.1, ⟨#[]⟩, q.2.2.2.2.1, q.2.2.2.2.2.1, [], q.2.2.2.2.2.2.2) : Rq9) = zeroQ q.1 := by
  obtain ⟨k, b, i, n, t, d, f, l⟩ := q
  dsimp only at hk ⊢
  subst hk
  unfold RightQ zeroQ
  simp [Prod.mk.injEq, far9]
  try grind
theorem right_iff6 {q : Rq9} (hk : q.1 = 6) : RightQ q ↔ (namedP q.2.2.2.1) = true ∧ ((q.1, q.2.1, q.2.2.1, ⟨#[]⟩, q.2.2.2.2.1, q.2.2.2.2.2.1, q.2.2.2.2.2.2.1, q.2.2.2.2.2.2.2) : Rq9) = zeroQ q.1 := by
  obtain ⟨k, b, i, n, t, d, f, l⟩ := q
  dsimp only at hk ⊢
  subst hk
  unfold RightQ zeroQ
  simp [Prod.mk.injEq, far9]
  try grind
theorem right_iff7 {q : Rq9} (hk : q.1 = 7) : RightQ q ↔ (true) = true ∧ ((q.1, q.2.1, q.2.2.1, q.2.2.2.1, q.2.2.2.2.1, q.2.2.2.2.2.1, q.2.2.2.2.2.2.1, q.2.2.2.2.2.2.2) : Rq9) = zeroQ q.1 := by
  obtain ⟨k, b, i, n, t, d, f, l⟩ := q
  dsimp only at hk ⊢
  subst hk
  unfold RightQ zeroQ
  simp [Prod.mk.injEq, far9]
  try grind
theorem right_iff8 {q : Rq9} (hk : q.1 = 8) : RightQ q ↔ (true) = true ∧ ((q.1, q.2.1, q.2.2.1, q.2.2.2.1, q.2.2.2.2.1, q.2.2.2.2.2.1, q.2.2.2.2.2.2.1, q.2.2.2.2.2.2.2) : Rq9) = zeroQ q.1 := by
  obtain ⟨k, b, i, n, t, d, f, l⟩ := q
  dsimp only at hk ⊢
  subst hk
  unfold RightQ zeroQ
  simp [Prod.mk.injEq, far9]
  try grind
theorem right_iff9 {q : Rq9} (hk : q.1 = 9) : RightQ q ↔ (namedP q.2.2.2.1) = true ∧ ((q.1, q.2.1, q.2.2.1, ⟨#[]⟩, q.2.2.2.2.1, q.2.2.2.2.2.1, q.2.2.2.2.2.2.1, q.2.2.2.2.2.2.2) : Rq9) = zeroQ q.1 := by
  obtain ⟨k, b, i, n, t, d, f, l⟩ := q
  dsimp only at hk ⊢
  subst hk
  unfold RightQ zeroQ
  simp [Prod.mk.injEq, far9]
  try grind
theorem right_iff10 {q : Rq9} (hk : q.1 = 10) : RightQ q ↔ (decide (q.2.2.2.1 = ⟨#[]⟩) || namedP q.2.2.2.1) = true ∧ ((q.1, q.2.1, q.2.2.1, ⟨#[]⟩, q.2.2.2.2.1, q.2.2.2.2.2.1, q.2.2.2.2.2.2.1, q.2.2.2.2.2.2.2) : Rq9) = zeroQ q.1 := by
  obtain ⟨k, b, i, n, t, d, f, l⟩ := q
  dsimp only at hk ⊢
  subst hk
  unfold RightQ zeroQ
  simp [Prod.mk.injEq, far9]
  try grind
theorem right_iff11 {q : Rq9} (hk : q.1 = 11) : RightQ q ↔ (true) = true ∧ ((q.1, q.2.1, q.2.2.1, q.2.2.2.1, q.2.2.2.2.1, q.2.2.2.2.2.1, q.2.2.2.2.2.2.1, q.2.2.2.2.2.2.2) : Rq9) = zeroQ q.1 := by
  obtain ⟨k, b, i, n, t, d, f, l⟩ := q
  dsimp only at hk ⊢
  subst hk
  unfold RightQ zeroQ
  simp [Prod.mk.injEq, far9]
  try grind
theorem right_iff12 {q : Rq9} (hk : q.1 = 12) : RightQ q ↔ (decide (0 ≤ q.2.2.1 ∧ q.2.2.1 ≤ 100)) = true ∧ ((q.1, q.2.1, 0, q.2.2.2.1, q.2.2.2.2.1, q.2.2.2.2.2.1, q.2.2.2.2.2.2.1, q.2.2.2.2.2.2.2) : Rq9) = zeroQ q.1 := by
  obtain ⟨k, b, i, n, t, d, f, l⟩ := q
  dsimp only at hk ⊢
  subst hk
  unfold RightQ zeroQ
  simp [Prod.mk.injEq, far9]
  try grind
theorem right_none {q : Rq9} (h : q.1 < 0 ∨ 12 < q.1) : ¬ RightQ q := fun k => by have := k.1; omega
end Go.Proofs.YtlfehnnmpkohkaaGreatDoor
/- Chapter 16: req.Right. -/
namespace Go.Proofs.YtlfehnnmpkohkaaGreatDoor
open Go Go.SL Go.Lib
/-- Sizes at which a request is looked at. -/
structure FineQ (q : Rq9) : Prop where
  name : q.2.2.2.1.size ≤ 1000000
  note : q.2.2.2.2.1.size ≤ 1000000
  deps : q.2.2.2.2.2.1.length ≤ 1000000
  files : q.2.2.2.2.2.2.1.length ≤ 1000000 ∧ ∀ s ∈ q.2.2.2.2.2.2.1, s.size ≤ 1000000
  prims : q.2.2.2.2.2.2.2.length ≤ 1000000 ∧ ∀ p ∈ q.2.2.2.2.2.2.2, SizeP p
theorem FineQ.size {q : Rq9} (h : FineQ q) : SizeQ q := ⟨h.deps, h.files.1, h.prims.1, fun p hp => ⟨(h.prims.2 p hp).2.2.1.1, (h.prims.2 p hp).2.2.2.1⟩⟩
theorem zeroQ_size (k : Int) : SizeQ (zeroQ k) := ⟨Nat.zero_le _, Nat.zero_le _, Nat.zero_le _, fun _ h => by cases h⟩
attribute [local irreducible] Cfg Kont StepK Val Con Qops Any Sl Own Blk BlkR Rd Pu ExA AllA Has Pick Ent Elem Beside Callable TI Lone OwnO AndA
set_option maxRecDepth 100000 in
theorem right0_con (q : Rq9) (d f l : Value) (hk : q.1 = 0) (hq : FineQ q) : Con Tryz.prog 12 [.agg #[.int .i64 q.1, .int .i64 q.2.1, .int .i64 q.2.2.1, .string q.2.2.2.1, .string q.2.2.2.2.1, d, f, l]] [Sl (eInt .i64) d q.2.2.2.2.2.1, Sl eStr f q.2.2.2.2.2.2.1, Sl ePr l q.2.2.2.2.2.2.2] (γ := Unit) (fun _ => .bool (decide (RightQ q))) (fun _ => True) (fun _ => []) := by
  have hlk : ∀ b1 b2, Go.SL.look (kindsM b1 b2) q.1 = some (.agg #[fnV 87, fnV 89]) := fun b1 b2 => by rw [hk]; exact look0 b1 b2
  have hT := tChange_con q d f l hq.prims
  have hR := rChange_con q d f l
  have hi := right_iff0 hk
  have hS := sameReq_con (q.1, 0, q.2.2.1, q.2.2.2.1, q.2.2.2.2.1, q.2.2.2.2.2.1, q.2.2.2.2.2.2.1, []) (zeroQ q.1) (d) (f) (.slice none 0 0) (.slice none 0 0) (.slice none 0 0) (.slice none 0 0) ⟨hq.size.1, hq.size.2.1, ⟨Nat.zero_le _, fun _ h => by cases h⟩⟩ (zeroQ_size _)
  dsimp only at hS
  refine con_of Tryz.func12 rfl (dd rfl) fun w0 O0 => ?_
  refine c_seq ?_
  refine c_region ?_
  refine o_step (s_box rfl (dd rfl) (fun b1 => ?_))
  refine o_val (v_assign rfl) (dd rfl) ?_
  refine o_nil ?_
  refine c_seq ?_
  refine c_joinR (γ := Nat × Nat × Nat × Nat) [(1, _), (2, _)] (fun _ => True) (fun g => [(3, ptr g.1), (4, .bool true)]) (fun g => [Blk g.1 77 [fnV 87, fnV 89], Blk b1 32 [.int .i64 q.1, .int .i64 q.2.1, .int .i64 q.2.2.1, .string q.2.2.2.1, .string q.2.2.2.2.1, d, f, l], Sl (eInt .i64) d q.2.2.2.2.2.1, Sl eStr f q.2.2.2.2.2.2.1, Sl ePr l q.2.2.2.2.2.2.2, Blk g.2.2.1 75 [fnV 81], Blk g.2.2.2 75 [fnV 82]]) (by repeat (first | exact trivial | refine ⟨rfl, ?_⟩)) ?_ ?_
  rotate_left
  · intro MEET
    skip
    refine c_held [BlkR b1 32 [.int .i64 q.1, .int .i64 q.2.1, .int .i64 q.2.2.1, .string q.2.2.2.1, .string q.2.2.2.2.1, d, f, l], Sl (eInt .i64) d q.2.2.2.2.2.1, Sl eStr f q.2.2.2.2.2.2.1, Sl ePr l q.2.2.2.2.2.2.2] rfl ?_
    refine a_take 1 rfl (by kernel_rfl) (by kernel_rfl) (by kernel_rfl) (v_fieldAddrC 0 Tryz.underlying32 rfl ti3 (by decide) rfl) (eX (by repeat constructor)) (dd rfl) ?_
    refine a_take 2 rfl (by kernel_rfl) (by kernel_rfl) (by kernel_rfl) (v_load lone3 rfl (hX (by repeat constructor)) rfl) (eX (by repeat constructor)) (dd rfl) ?_
    refine a_two 0 7 rfl rfl (by kernel_rfl) ?_ ?_
    · skip
      refine s_callf cl39 (kinds_con) rfl (dd rfl) (pXs (by repeat constructor)) (fun g _ => a_on (eX (by repeat constructor)) ?_)
      refine a_two 3 7 rfl rfl (by kernel_rfl) ?_ ?_
      · skip
        refine s_val (v_lookupS kInt Tryz.underlying79 Tryz.underlying3 ti77 rfl rfl (hX (by repeat constructor)) (hlk g.2.1 g.2.2)) (dd rfl) (a_on (eX (by repeat constructor)) ?_)
        refine a_take 4 rfl (by kernel_rfl) (by kernel_rfl) (by kernel_rfl) (v_move rfl) (eX (by repeat constructor)) (dd rfl) ?_
        refine a_take 5 rfl (by kernel_rfl) (by kernel_rfl) (by kernel_rfl) (v_extract rfl rfl) (eX (by repeat constructor)) (dd rfl) ?_
        refine a_take 6 rfl (by kernel_rfl) (by kernel_rfl) (by kernel_rfl) (v_extract rfl rfl) (eX (by repeat constructor)) (dd rfl) ?_
        refine a_one 7 rfl (by kernel_rfl) (s_alloc ti77 (dd rfl) (fun b3 => a_on (eX (by repeat constructor)) ?_))
        refine a_one 8 rfl (by kernel_rfl) (s_store_all ti77 rfl rfl (by first | exact CellsV.lit rfl | exact CellsV.one (by first | exact OneC.lit rfl | exact OneC.sl (hX (by repeat constructor)) )) (by repeat (first | exact OneAll.nil | (refine OneAll.cons ?_ ?_; · first | exact OneC.lit rfl | exact OneC.sl (hX (by repeat constructor)) ) | exact OneAll.rd (hX (by repeat constructor)))) rfl (pB (by repeat constructor)) rfl (a_on (eX (by repeat constructor)) ?_))
        refine a_take 9 rfl (by kernel_rfl) (by kernel_rfl) (by kernel_rfl) (v_assign rfl) (eX (by repeat constructor)) (dd rfl) ?_
        refine a_done (by kernel_rfl) ?_ _
        refine c_use (MEET ((b3, g)) (trivial)) (by repeat (first | exact trivial | refine ⟨rfl, ?_⟩)) (eX (by repeat constructor))
      · skip
        refine s_alloc ti77 (dd rfl) (fun b3 => a_on (eX (by repeat constructor)) ?_)
        refine a_one 3 rfl (by kernel_rfl) (s_val (v_lookupS kInt Tryz.underlying79 Tryz.underlying3 ti77 rfl rfl (hX (by repeat constructor)) (hlk g.2.1 g.2.2)) (dd rfl) (a_on (eX (by repeat constructor)) ?_))
        refine a_take 4 rfl (by kernel_rfl) (by kernel_rfl) (by kernel_rfl) (v_move rfl) (eX (by repeat constructor)) (dd rfl) ?_
        refine a_take 5 rfl (by kernel_rfl) (by kernel_rfl) (by kernel_rfl) (v_extract rfl rfl) (eX (by repeat constructor)) (dd rfl) ?_
        refine a_take 6 rfl (by kernel_rfl) (by kernel_rfl) (by kernel_rfl) (v_extract rfl rfl) (eX (by repeat constructor)) (dd rfl) ?_
        refine a_one 8 rfl (by kernel_rfl) (s_store_all ti77 rfl rfl (by first | exact CellsV.lit rfl | exact CellsV.one (by first | exact OneC.lit rfl | exact OneC.sl (hX (by repeat constructor)) )) (by repeat (first | exact OneAll.nil | (refine OneAll.cons ?_ ?_; · first | exact OneC.lit rfl | exact OneC.sl (hX (by repeat constructor)) ) | exact OneAll.rd (hX (by repeat constructor)))) rfl (pB (by repeat constructor)) rfl (a_on (eX (by repeat constructor)) ?_))
        refine a_take 9 rfl (by kernel_rfl) (by kernel_rfl) (by kernel_rfl) (v_assign rfl) (eX (by repeat constructor)) (dd rfl) ?_
        refine a_done (by kernel_rfl) ?_ _
        refine c_use (MEET ((b3, g)) (trivial)) (by repeat (first | exact trivial | refine ⟨rfl, ?_⟩)) (eX (by repeat constructor))
    · skip
      refine s_alloc ti77 (dd rfl) (fun b3 => a_on (eX (by repeat constructor)) ?_)
      refine a_one 0 rfl (by kernel_rfl) (s_callf cl39 (kinds_con) rfl (dd rfl) (pXs (by repeat constructor)) (fun g _ => a_on (eX (by repeat constructor)) ?_))
      refine a_one 3 rfl (by kernel_rfl) (s_val (v_lookupS kInt Tryz.underlying79 Tryz.underlying3 ti77 rfl rfl (hX (by repeat constructor)) (hlk g.2.1 g.2.2)) (dd rfl) (a_on (eX (by repeat constructor)) ?_))
      refine a_take 4 rfl (by kernel_rfl) (by kernel_rfl) (by kernel_rfl) (v_move rfl) (eX (by repeat constructor)) (dd rfl) ?_
      refine a_take 5 rfl (by kernel_rfl) (by kernel_rfl) (by kernel_rfl) (v_extract rfl rfl) (eX (by repeat constructor)) (dd rfl) ?_
      refine a_take 6 rfl (by kernel_rfl) (by kernel_rfl) (by kernel_rfl) (v_extract rfl rfl) (eX (by repeat constructor)) (dd rfl) ?_
      refine a_one 8 rfl (by kernel_rfl) (s_store_all ti77 rfl rfl (by first | exact CellsV.lit rfl | exact CellsV.one (by first | exact OneC.lit rfl | exact OneC.sl (hX (by repeat constructor)) )) (by repeat (first | exact OneAll.nil | (refine OneAll.cons ?_ ?_; · first | exact OneC.lit rfl | exact OneC.sl (hX (by repeat constructor)) ) | exact OneAll.rd (hX (by repeat constructor)))) rfl (pB (by repeat constructor)) rfl (a_on (eX (by repeat constructor)) ?_))
      refine a_take 9 rfl (by kernel_rfl) (by kernel_rfl) (by kernel_rfl) (v_assign rfl) (eX (by repeat constructor)) (dd rfl) ?_
      refine a_done (by kernel_rfl) ?_ _
      refine c_use (MEET ((b3, g)) (trivial)) (by repeat (first | exact trivial | refine ⟨rfl, ?_⟩)) (eX (by repeat constructor))
  rintro ⟨b3, bm, bn, bg⟩ -
  dsimp only [List.cons_append, List.nil_append]
  refine c_seq ?_
  refine c_held [BlkR b3 77 [fnV 87, fnV 89], BlkR b1 32 [.int .i64 q.1, .int .i64 q.2.1, .int .i64 q.2.2.1, .string q.2.2.2.1, .string q.2.2.2.2.1, d, f, l], Sl (eInt .i64) d q.2.2.2.2.2.1, Sl eStr f q.2.2.2.2.2.2.1, Sl ePr l q.2.2.2.2.2.2.2] rfl ?_
  refine a_take 0 rfl (by kernel_rfl) (by kernel_rfl) (by kernel_rfl) (v_move rfl) (eX (by repeat constructor)) (dd rfl) ?_
  refine a_take 1 rfl (by kernel_rfl) (by kernel_rfl) (by kernel_rfl) (v_move rfl) (eX (by repeat constructor)) (dd rfl) ?_
  refine a_take_on 2 rfl rfl rfl (by kernel_rfl) (by kernel_rfl) (by kernel_rfl) (v_fieldAddrC 0 Tryz.underlying77 rfl ti29 (by decide) rfl) (eX (by repeat constructor)) (dd rfl) ?_
  refine a_take_on 3 rfl rfl rfl (by kernel_rfl) (by kernel_rfl) (by kernel_rfl) (v_load lone29 rfl (hX (by repeat constructor)) rfl) (eX (by repeat constructor)) (dd rfl) ?_
  refine a_take_on 4 rfl rfl rfl (by kernel_rfl) (by kernel_rfl) (by kernel_rfl) (v_load_all ⟨_, Tryz.underlying32⟩ ti32 rfl (hX (by repeat constructor)) rfl) (eX (by repeat constructor)) (dd rfl) ?_
  by_cases g1 : (decide (0 ≤ q.2.1) && decide (q.2.1 ≤ 1099511627776) && decide (1 ≤ q.2.2.2.2.2.2.2.length) && decide (q.2.2.2.2.2.2.2.length ≤ 24) && q.2.2.2.2.2.2.2.all rightP) = true
  · rw [g1] at hT
    refine a_one_on 5 rfl rfl rfl (by kernel_rfl) (s_call_keep cl87 (hT) (first := []) (cap := []) rfl rfl rfl (dd rfl) (rX (by repeat constructor)) (fun _ => sX) (fun _ _ => a_on (eX (by repeat constructor)) ?_))
    refine a_take 6 rfl (by kernel_rfl) (by kernel_rfl) (by kernel_rfl) (v_pick_t rfl rfl) (eX (by repeat constructor)) (dd rfl) ?_
    refine a_take 7 rfl (by kernel_rfl) (by kernel_rfl) (by kernel_rfl) (v_move rfl) (eX (by repeat constructor)) (dd rfl) ?_
    refine a_know (s := 19) rfl (show _ = Value.bool true from rfl) ?_
    refine a_take_on 8 rfl rfl rfl (by kernel_rfl) (by kernel_rfl) (by kernel_rfl) (v_fieldAddrC 1 Tryz.underlying77 rfl ti75 (by decide) rfl) (eX (by repeat constructor)) (dd rfl) ?_
    refine a_take_on 9 rfl rfl rfl (by kernel_rfl) (by kernel_rfl) (by kernel_rfl) (v_load lone75 rfl (hX (by repeat constructor)) rfl) (eX (by repeat constructor)) (dd rfl) ?_
    refine a_take_on 10 rfl rfl rfl (by kernel_rfl) (by kernel_rfl) (by kernel_rfl) (v_load_all ⟨_, Tryz.underlying32⟩ ti32 rfl (hX (by repeat constructor)) rfl) (eX (by repeat constructor)) (dd rfl) ?_
    refine a_take_on 12 rfl rfl rfl (by kernel_rfl) (by kernel_rfl) (by kernel_rfl) (v_fieldAddrC 0 Tryz.underlying32 rfl ti3 (by decide) rfl) (eX (by repeat constructor)) (dd rfl) ?_
    refine a_take_on 13 rfl rfl rfl (by kernel_rfl) (by kernel_rfl) (by kernel_rfl) (v_load lone3 rfl (hX (by repeat constructor)) rfl) (eX (by repeat constructor)) (dd rfl) ?_
    refine a_take_on 14 rfl rfl rfl (by kernel_rfl) (by kernel_rfl) (by kernel_rfl) (v_buildS (places := [(0, 1), (1, 1), (2, 1), (3, 1), (4, 1), (5, 1), (6, 1), (7, 1)]) (cells := [_, .int .i64 0, .int .i64 0, .string ⟨#[]⟩, .string ⟨#[]⟩, .slice none 0 0, .slice none 0 0, .slice none 0 0]) Tryz.underlying32 ti32 (by kernel_rfl) rfl (by repeat (first | exact PartsC.nil | (apply PartsC.one (by first | exact OneC.lit rfl | exact OneC.sl (hX (by repeat constructor)) )) | (apply PartsC.lit rfl))) rfl) (eX (by repeat constructor)) (dd rfl) ?_
    refine a_one_on 11 rfl rfl rfl (by kernel_rfl) (s_call_keep cl89 (hR) (first := []) (cap := []) rfl rfl rfl (dd rfl) (rX (by repeat constructor)) (fun _ => sX) (fun _ _ => a_on (eX (by repeat constructor)) ?_))
    refine a_one_on 15 rfl rfl rfl (by kernel_rfl) (s_callf cl15 (hS) rfl (dd rfl) (pXs (by repeat constructor)) (fun _ _ => a_on (eX (by repeat constructor)) ?_))
    refine a_take 16 rfl (by kernel_rfl) (by kernel_rfl) (by kernel_rfl) (v_pick_t rfl rfl) (eX (by repeat constructor)) (dd rfl) ?_
    refine a_take 17 rfl (by kernel_rfl) (by kernel_rfl) (by kernel_rfl) (v_assign rfl) (eX (by repeat constructor)) (dd rfl) ?_
    refine a_done (by kernel_rfl) ?_ _
    refine c_ret1 Tryz.func12 rfl rfl fun w O hS => ?_
    exact ⟨(), congrArg Value.bool (decide_eq_decide.2 (by rw [hi, g1]; simp)), trivial, trivial⟩
  · have g2 : (decide (0 ≤ q.2.1) && decide (q.2.1 ≤ 1099511627776) && decide (1 ≤ q.2.2.2.2.2.2.2.length) && decide (q.2.2.2.2.2.2.2.length ≤ 24) && q.2.2.2.2.2.2.2.all rightP) = false := Bool.eq_false_iff.2 g1
    rw [g2] at hT
    refine a_one_on 5 rfl rfl rfl (by kernel_rfl) (s_call_keep cl87 (hT) (first := []) (cap := []) rfl rfl rfl (dd rfl) (rX (by repeat constructor)) (fun _ => sX) (fun _ _ => a_on (eX (by repeat constructor)) ?_))
    refine a_take 6 rfl (by kernel_rfl) (by kernel_rfl) (by kernel_rfl) (v_pick_t rfl rfl) (eX (by repeat constructor)) (dd rfl) ?_
    refine a_take 7 rfl (by kernel_rfl) (by kernel_rfl) (by kernel_rfl) (v_move rfl) (eX (by repeat constructor)) (dd rfl) ?_
    refine a_know (s := 19) rfl (show _ = Value.bool false from rfl) ?_
    refine a_take_off 8 rfl rfl rfl rfl (by kernel_rfl) (by kernel_rfl) (by kernel_rfl) (eX (by repeat constructor)) (dd rfl) ?_
    refine a_take_off 9 rfl rfl rfl rfl (by kernel_rfl) (by kernel_rfl) (by kernel_rfl) (eX (by repeat constructor)) (dd rfl) ?_
    refine a_take_off 10 rfl rfl rfl rfl (by kernel_rfl) (by kernel_rfl) (by kernel_rfl) (eX (by repeat constructor)) (dd rfl) ?_
    refine a_take_off 11 rfl rfl rfl rfl (by kernel_rfl) (by kernel_rfl) (by kernel_rfl) (eX (by repeat constructor)) (dd rfl) ?_
    refine a_take_off 12 rfl rfl rfl rfl (by kernel_rfl) (by kernel_rfl) (by kernel_rfl) (eX (by repeat constructor)) (dd rfl) ?_
    refine a_take_off 13 rfl rfl rfl rfl (by kernel_rfl) (by kernel_rfl) (by kernel_rfl) (eX (by repeat constructor)) (dd rfl) ?_
    refine a_take_off 14 rfl rfl rfl rfl (by kernel_rfl) (by kernel_rfl) (by kernel_rfl) (eX (by repeat constructor)) (dd rfl) ?_
    refine a_take_off 15 rfl rfl rfl rfl (by kernel_rfl) (by kernel_rfl) (by kernel_rfl) (eX (by repeat constructor)) (dd rfl) ?_
    refine a_take 16 rfl (by kernel_rfl) (by kernel_rfl) (by kernel_rfl) (v_pick_f rfl rfl) (eX (by repeat constructor)) (dd rfl) ?_
    refine a_take 17 rfl (by kernel_rfl) (by kernel_rfl) (by kernel_rfl) (v_assign rfl) (eX (by repeat constructor)) (dd rfl) ?_
    refine a_done (by kernel_rfl) ?_ _
    refine c_ret1 Tryz.func12 rfl rfl fun w O hS => ?_
    exact ⟨(), congrArg Value.bool (decide_eq_false (by rw [hi, g2]; simp)).symm, trivial, trivial⟩
set_option maxRecDepth 100000 in
theorem right1_con (q : Rq9) (d f l : Value) (hk : q.1 = 1) (hq : FineQ q) : Con Tryz.prog 12 [.agg #[.int .i64 q.1, .int .i64 q.2.1, .int .i64 q.2.2.1, .string q.2.2.2.1, .string q.2.2.2.2.1, d, f, l]] [Sl (eInt .i64) d q.2.2.2.2.2.1, Sl eStr f q.2.2.2.2.2.2.1, Sl ePr l q.2.2.2.2.2.2.2] (γ := Unit) (fun _ => .bool (decide (RightQ q))) (fun _ => True) (fun _ => []) := by
  have hlk : ∀ b1 b2, Go.SL.look (kindsM b1 b2) q.1 = some (.agg #[fnV 90, fnC 95 b2]) := fun b1 b2 => by rw [hk]; exact look1 b1 b2
  have hT := tRecord_con q d f l hq.deps hq.files.1 hq.files.2
  have hR := rRecord_con q d f l
  have hi := right_iff1 hk
  have hS := sameReq_con (q.1, q.2.1, 0, q.2.2.2.1, ⟨#[]⟩, [], [], q.2.2.2.2.2.2.2) (zeroQ q.1) (.slice none 0 0) (.slice none 0 0) (l) (.slice none 0 0) (.slice none 0 0) (.slice none 0 0) ⟨Nat.zero_le _, Nat.zero_le _, hq.size.2.2⟩ (zeroQ_size _)
  dsimp only at hS
  refine con_of Tryz.func12 rfl (dd rfl) fun w0 O0 => ?_
  refine c_seq ?_
  refine c_region ?_
  refine o_step (s_box rfl (dd rfl) (fun b1 => ?_))
  refine o_val (v_assign rfl) (dd rfl) ?_
  refine o_nil ?_
  refine c_seq ?_
  refine c_joinR (γ := Nat × Nat × Nat × Nat) [(1, _), (2, _)] (fun _ => True) (fun g => [(3, ptr g.1), (4, .bool true)]) (fun g => [Blk g.1 77 [fnV 90, fnC 95 g.2.2.2], Blk b1 32 [.int .i64 q.1, .int .i64 q.2.1, .int .i64 q.2.2.1, .string q.2.2.2.1, .string q.2.2.2.2.1, d, f, l], Sl (eInt .i64) d q.2.2.2.2.2.1, Sl eStr f q.2.2.2.2.2.2.1, Sl ePr l q.2.2.2.2.2.2.2, Blk g.2.2.1 75 [fnV 81], Blk g.2.2.2 75 [fnV 82]]) (by repeat (first | exact trivial | refine ⟨rfl, ?_⟩)) ?_ ?_
  rotate_left
  · intro MEET
    skip
    refine c_held [BlkR b1 32 [.int .i64 q.1, .int .i64 q.2.1, .int .i64 q.2.2.1, .string q.2.2.2.1, .string q.2.2.2.2.1, d, f, l], Sl (eInt .i64) d q.2.2.2.2.2.1, Sl eStr f q.2.2.2.2.2.2.1, Sl ePr l q.2.2.2.2.2.2.2] rfl ?_
    refine a_take 1 rfl (by kernel_rfl) (by kernel_rfl) (by kernel_rfl) (v_fieldAddrC 0 Tryz.underlying32 rfl ti3 (by decide) rfl) (eX (by repeat constructor)) (dd rfl) ?_
    refine a_take 2 rfl (by kernel_rfl) (by kernel_rfl) (by kernel_rfl) (v_load lone3 rfl (hX (by repeat constructor)) rfl) (eX (by repeat constructor)) (dd rfl) ?_
    refine a_two 0 7 rfl rfl (by kernel_rfl) ?_ ?_
    · skip
      refine s_callf cl39 (kinds_con) rfl (dd rfl) (pXs (by repeat constructor)) (fun g _ => a_on (eX (by repeat constructor)) ?_)
      refine a_two 3 7 rfl rfl (by kernel_rfl) ?_ ?_
      · skip
        refine s_val (v_lookupS kInt Tryz.underlying79 Tryz.underlying3 ti77 rfl rfl (hX (by repeat constructor)) (hlk g.2.1 g.2.2)) (dd rfl) (a_on (eX (by repeat constructor)) ?_)
        refine a_take 4 rfl (by kernel_rfl) (by kernel_rfl) (by kernel_rfl) (v_move rfl) (eX (by repeat constructor)) (dd rfl) ?_
        refine a_take 5 rfl (by kernel_rfl) (by kernel_rfl) (by kernel_rfl) (v_extract rfl rfl) (eX (by repeat constructor)) (dd rfl) ?_
        refine a_take 6 rfl (by kernel_rfl) (by kernel_rfl) (by kernel_rfl) (v_extract rfl rfl) (eX (by repeat constructor)) (dd rfl) ?_
        refine a_one 7 rfl (by kernel_rfl) (s_alloc ti77 (dd rfl) (fun b3 => a_on (eX (by repeat constructor)) ?_))
        refine a_one 8 rfl (by kernel_rfl) (s_store_all ti77 rfl rfl (by first | exact CellsV.lit rfl | exact CellsV.one (by first | exact OneC.lit rfl | exact OneC.sl (hX (by repeat constructor)) )) (by repeat (first | exact OneAll.nil | (refine OneAll.cons ?_ ?_; · first | exact OneC.lit rfl | exact OneC.sl (hX (by repeat constructor)) ) | exact OneAll.rd (hX (by repeat constructor)))) rfl (pB (by repeat constructor)) rfl (a_on (eX (by repeat constructor)) ?_))
        refine a_take 9 rfl (by kernel_rfl) (by kernel_rfl) (by kernel_rfl) (v_assign rfl) (eX (by repeat constructor)) (dd rfl) ?_
        refine a_done (by kernel_rfl) ?_ _
        refine c_use (MEET ((b3, g)) (trivial)) (by repeat (first | exact trivial | refine ⟨rfl, ?_⟩)) (eX (by repeat constructor))
      · skip
        refine s_alloc ti77 (dd rfl) (fun b3 => a_on (eX (by repeat constructor)) ?_)
        refine a_one 3 rfl (by kernel_rfl) (s_val (v_lookupS kInt Tryz.underlying79 Tryz.underlying3 ti77 rfl rfl (hX (by repeat constructor)) (hlk g.2.1 g.2.2)) (dd rfl) (a_on (eX (by repeat constructor)) ?_))
        refine a_take 4 rfl (by kernel_rfl) (by kernel_rfl) (by kernel_rfl) (v_move rfl) (eX (by repeat constructor)) (dd rfl) ?_
        refine a_take 5 rfl (by kernel_rfl) (by kernel_rfl) (by kernel_rfl) (v_extract rfl rfl) (eX (by repeat constructor)) (dd rfl) ?_
        refine a_take 6 rfl (by kernel_rfl) (by kernel_rfl) (by kernel_rfl) (v_extract rfl rfl) (eX (by repeat constructor)) (dd rfl) ?_
        refine a_one 8 rfl (by kernel_rfl) (s_store_all ti77 rfl rfl (by first | exact CellsV.lit rfl | exact CellsV.one (by first | exact OneC.lit rfl | exact OneC.sl (hX (by repeat constructor)) )) (by repeat (first | exact OneAll.nil | (refine OneAll.cons ?_ ?_; · first | exact OneC.lit rfl | exact OneC.sl (hX (by repeat constructor)) ) | exact OneAll.rd (hX (by repeat constructor)))) rfl (pB (by repeat constructor)) rfl (a_on (eX (by repeat constructor)) ?_))
        refine a_take 9 rfl (by kernel_rfl) (by kernel_rfl) (by kernel_rfl) (v_assign rfl) (eX (by repeat constructor)) (dd rfl) ?_
        refine a_done (by kernel_rfl) ?_ _
        refine c_use (MEET ((b3, g)) (trivial)) (by repeat (first | exact trivial | refine ⟨rfl, ?_⟩)) (eX (by repeat constructor))
    · skip
      refine s_alloc ti77 (dd rfl) (fun b3 => a_on (eX (by repeat constructor)) ?_)
      refine a_one 0 rfl (by kernel_rfl) (s_callf cl39 (kinds_con) rfl (dd rfl) (pXs (by repeat constructor)) (fun g _ => a_on (eX (by repeat constructor)) ?_))
      refine a_one 3 rfl (by kernel_rfl) (s_val (v_lookupS kInt Tryz.underlying79 Tryz.underlying3 ti77 rfl rfl (hX (by repeat constructor)) (hlk g.2.1 g.2.2)) (dd rfl) (a_on (eX (by repeat constructor)) ?_))
      refine a_take 4 rfl (by kernel_rfl) (by kernel_rfl) (by kernel_rfl) (v_move rfl) (eX (by repeat constructor)) (dd rfl) ?_
      refine a_take 5 rfl (by kernel_rfl) (by kernel_rfl) (by kernel_rfl) (v_extract rfl rfl) (eX (by repeat constructor)) (dd rfl) ?_
      refine a_take 6 rfl (by kernel_rfl) (by kernel_rfl) (by kernel_rfl) (v_extract rfl rfl) (eX (by repeat constructor)) (dd rfl) ?_
      refine a_one 8 rfl (by kernel_rfl) (s_store_all ti77 rfl rfl (by first | exact CellsV.lit rfl | exact CellsV.one (by first | exact OneC.lit rfl | exact OneC.sl (hX (by repeat constructor)) )) (by repeat (first | exact OneAll.nil | (refine OneAll.cons ?_ ?_; · first | exact OneC.lit rfl | exact OneC.sl (hX (by repeat constructor)) ) | exact OneAll.rd (hX (by repeat constructor)))) rfl (pB (by repeat constructor)) rfl (a_on (eX (by repeat constructor)) ?_))
      refine a_take 9 rfl (by kernel_rfl) (by kernel_rfl) (by kernel_rfl) (v_assign rfl) (eX (by repeat constructor)) (dd rfl) ?_
      refine a_done (by kernel_rfl) ?_ _
      refine c_use (MEET ((b3, g)) (trivial)) (by repeat (first | exact trivial | refine ⟨rfl, ?_⟩)) (eX (by repeat constructor))
  rintro ⟨b3, bm, bn, bg⟩ -
  dsimp only [List.cons_append, List.nil_append]
  refine c_seq ?_
  refine c_held [BlkR b3 77 [fnV 90, fnC 95 bg], BlkR b1 32 [.int .i64 q.1, .int .i64 q.2.1, .int .i64 q.2.2.1, .string q.2.2.2.1, .string q.2.2.2.2.1, d, f, l], Sl (eInt .i64) d q.2.2.2.2.2.1, Sl eStr f q.2.2.2.2.2.2.1, Sl ePr l q.2.2.2.2.2.2.2, BlkR bg 75 [fnV 82]] rfl ?_
  refine a_take 0 rfl (by kernel_rfl) (by kernel_rfl) (by kernel_rfl) (v_move rfl) (eX (by repeat constructor)) (dd rfl) ?_
  refine a_take 1 rfl (by kernel_rfl) (by kernel_rfl) (by kernel_rfl) (v_move rfl) (eX (by repeat constructor)) (dd rfl) ?_
  refine a_take_on 2 rfl rfl rfl (by kernel_rfl) (by kernel_rfl) (by kernel_rfl) (v_fieldAddrC 0 Tryz.underlying77 rfl ti29 (by decide) rfl) (eX (by repeat constructor)) (dd rfl) ?_
  refine a_take_on 3 rfl rfl rfl (by kernel_rfl) (by kernel_rfl) (by kernel_rfl) (v_load lone29 rfl (hX (by repeat constructor)) rfl) (eX (by repeat constructor)) (dd rfl) ?_
  refine a_take_on 4 rfl rfl rfl (by kernel_rfl) (by kernel_rfl) (by kernel_rfl) (v_load_all ⟨_, Tryz.underlying32⟩ ti32 rfl (hX (by repeat constructor)) rfl) (eX (by repeat constructor)) (dd rfl) ?_
  by_cases g1 : (decide (1 ≤ q.2.2.1 ∧ q.2.2.1 ≤ 1000000000) && lineP q.2.2.2.2.1 && (decide (q.2.2.2.2.2.1.length ≤ 8) && depsP q.2.2.1 0 q.2.2.2.2.2.1) && (decide (q.2.2.2.2.2.2.1.length ≤ 8) && filesP ⟨#[]⟩ q.2.2.2.2.2.2.1)) = true
  · rw [g1] at hT
    refine a_one_on 5 rfl rfl rfl (by kernel_rfl) (s_call_keep cl90 (hT) (first := []) (cap := []) rfl rfl rfl (dd rfl) (rX (by repeat constructor)) (fun _ => sX) (fun _ _ => a_on (eX (by repeat constructor)) ?_))
    refine a_take 6 rfl (by kernel_rfl) (by kernel_rfl) (by kernel_rfl) (v_pick_t rfl rfl) (eX (by repeat constructor)) (dd rfl) ?_
    refine a_take 7 rfl (by kernel_rfl) (by kernel_rfl) (by kernel_rfl) (v_move rfl) (eX (by repeat constructor)) (dd rfl) ?_
    refine a_know (s := 19) rfl (show _ = Value.bool true from rfl) ?_
    refine a_take_on 8 rfl rfl rfl (by kernel_rfl) (by kernel_rfl) (by kernel_rfl) (v_fieldAddrC 1 Tryz.underlying77 rfl ti75 (by decide) rfl) (eX (by repeat constructor)) (dd rfl) ?_
    refine a_take_on 9 rfl rfl rfl (by kernel_rfl) (by kernel_rfl) (by kernel_rfl) (v_load lone75 rfl (hX (by repeat constructor)) rfl) (eX (by repeat constructor)) (dd rfl) ?_
    refine a_take_on 10 rfl rfl rfl (by kernel_rfl) (by kernel_rfl) (by kernel_rfl) (v_load_all ⟨_, Tryz.underlying32⟩ ti32 rfl (hX (by repeat constructor)) rfl) (eX (by repeat constructor)) (dd rfl) ?_
    refine a_take_on 12 rfl rfl rfl (by kernel_rfl) (by kernel_rfl) (by kernel_rfl) (v_fieldAddrC 0 Tryz.underlying32 rfl ti3 (by decide) rfl) (eX (by repeat constructor)) (dd rfl) ?_
    refine a_take_on 13 rfl rfl rfl (by kernel_rfl) (by kernel_rfl) (by kernel_rfl) (v_load lone3 rfl (hX (by repeat constructor)) rfl) (eX (by repeat constructor)) (dd rfl) ?_
    refine a_take_on 14 rfl rfl rfl (by kernel_rfl) (by kernel_rfl) (by kernel_rfl) (v_buildS (places := [(0, 1), (1, 1), (2, 1), (3, 1), (4, 1), (5, 1), (6, 1), (7, 1)]) (cells := [_, .int .i64 0, .int .i64 0, .string ⟨#[]⟩, .string ⟨#[]⟩, .slice none 0 0, .slice none 0 0, .slice none 0 0]) Tryz.underlying32 ti32 (by kernel_rfl) rfl (by repeat (first | exact PartsC.nil | (apply PartsC.one (by first | exact OneC.lit rfl | exact OneC.sl (hX (by repeat constructor)) )) | (apply PartsC.lit rfl))) rfl) (eX (by repeat constructor)) (dd rfl) ?_
    refine a_one_on 11 rfl rfl rfl (by kernel_rfl) (s_call_keep cl95 (hR bg) (first := []) (cap := [ptr1 bg]) rfl rfl rfl (dd rfl) (rX (by repeat constructor)) (fun _ => sX) (fun _ _ => a_on (eX (by repeat constructor)) ?_))
    refine a_one_on 15 rfl rfl rfl (by kernel_rfl) (s_callf cl15 (hS) rfl (dd rfl) (pXs (by repeat constructor)) (fun _ _ => a_on (eX (by repeat constructor)) ?_))
    refine a_take 16 rfl (by kernel_rfl) (by kernel_rfl) (by kernel_rfl) (v_pick_t rfl rfl) (eX (by repeat constructor)) (dd rfl) ?_
    refine a_take 17 rfl (by kernel_rfl) (by kernel_rfl) (by kernel_rfl) (v_assign rfl) (eX (by repeat constructor)) (dd rfl) ?_
    refine a_done (by kernel_rfl) ?_ _
    refine c_ret1 Tryz.func12 rfl rfl fun w O hS => ?_
    exact ⟨(), congrArg Value.bool (decide_eq_decide.2 (by rw [hi, g1]; simp)), trivial, trivial⟩
  · have g2 : (decide (1 ≤ q.2.2.1 ∧ q.2.2.1 ≤ 1000000000) && lineP q.2.2.2.2.1 && (decide (q.2.2.2.2.2.1.length ≤ 8) && depsP q.2.2.1 0 q.2.2.2.2.2.1) && (decide (q.2.2.2.2.2.2.1.length ≤ 8) && filesP ⟨#[]⟩ q.2.2.2.2.2.2.1)) = false := Bool.eq_false_iff.2 g1
    rw [g2] at hT
    refine a_one_on 5 rfl rfl rfl (by kernel_rfl) (s_call_keep cl90 (hT) (first := []) (cap := []) rfl rfl rfl (dd rfl) (rX (by repeat constructor)) (fun _ => sX) (fun _ _ => a_on (eX (by repeat constructor)) ?_))
    refine a_take 6 rfl (by kernel_rfl) (by kernel_rfl) (by kernel_rfl) (v_pick_t rfl rfl) (eX (by repeat constructor)) (dd rfl) ?_
    refine a_take 7 rfl (by kernel_rfl) (by kernel_rfl) (by kernel_rfl) (v_move rfl) (eX (by repeat constructor)) (dd rfl) ?_
    refine a_know (s := 19) rfl (show _ = Value.bool false from rfl) ?_
    refine a_take_off 8 rfl rfl rfl rfl (by kernel_rfl) (by kernel_rfl) (by kernel_rfl) (eX (by repeat constructor)) (dd rfl) ?_
    refine a_take_off 9 rfl rfl rfl rfl (by kernel_rfl) (by kernel_rfl) (by kernel_rfl) (eX (by repeat constructor)) (dd rfl) ?_
    refine a_take_off 10 rfl rfl rfl rfl (by kernel_rfl) (by kernel_rfl) (by kernel_rfl) (eX (by repeat constructor)) (dd rfl) ?_
    refine a_take_off 11 rfl rfl rfl rfl (by kernel_rfl) (by kernel_rfl) (by kernel_rfl) (eX (by repeat constructor)) (dd rfl) ?_
    refine a_take_off 12 rfl rfl rfl rfl (by kernel_rfl) (by kernel_rfl) (by kernel_rfl) (eX (by repeat constructor)) (dd rfl) ?_
    refine a_take_off 13 rfl rfl rfl rfl (by kernel_rfl) (by kernel_rfl) (by kernel_rfl) (eX (by repeat constructor)) (dd rfl) ?_
    refine a_take_off 14 rfl rfl rfl rfl (by kernel_rfl) (by kernel_rfl) (by kernel_rfl) (eX (by repeat constructor)) (dd rfl) ?_
    refine a_take_off 15 rfl rfl rfl rfl (by kernel_rfl) (by kernel_rfl) (by kernel_rfl) (eX (by repeat constructor)) (dd rfl) ?_
    refine a_take 16 rfl (by kernel_rfl) (by kernel_rfl) (by kernel_rfl) (v_pick_f rfl rfl) (eX (by repeat constructor)) (dd rfl) ?_
    refine a_take 17 rfl (by kernel_rfl) (by kernel_rfl) (by kernel_rfl) (v_assign rfl) (eX (by repeat constructor)) (dd rfl) ?_
    refine a_done (by kernel_rfl) ?_ _
    refine c_ret1 Tryz.func12 rfl rfl fun w O hS => ?_
    exact ⟨(), congrArg Value.bool (decide_eq_false (by rw [hi, g2]; simp)).symm, trivial, trivial⟩
set_option maxRecDepth 100000 in
theorem right2_con (q : Rq9) (d f l : Value) (hk : q.1 = 2) (hq : FineQ q) : Con Tryz.prog 12 [.agg #[.int .i64 q.1, .int .i64 q.2.1, .int .i64 q.2.2.1, .string q.2.2.2.1, .string q.2.2.2.2.1, d, f, l]] [Sl (eInt .i64) d q.2.2.2.2.2.1, Sl eStr f q.2.2.2.2.2.2.1, Sl ePr l q.2.2.2.2.2.2.2] (γ := Unit) (fun _ => .bool (decide (RightQ q))) (fun _ => True) (fun _ => []) := by
  have hlk : ∀ b1 b2, Go.SL.look (kindsM b1 b2) q.1 = some (.agg #[fnV 96, fnV 82]) := fun b1 b2 => by rw [hk]; exact look2 b1 b2
  have hT := tAmend_con q d f l hq.files.1 hq.files.2
  have hR := rGroup_con q d f l
  have hi := right_iff2 hk
  have hS := sameReq_con (q.1, q.2.1, 0, q.2.2.2.1, q.2.2.2.2.1, q.2.2.2.2.2.1, [], q.2.2.2.2.2.2.2) (zeroQ q.1) (d) (.slice none 0 0) (l) (.slice none 0 0) (.slice none 0 0) (.slice none 0 0) ⟨hq.size.1, Nat.zero_le _, hq.size.2.2⟩ (zeroQ_size _)
  dsimp only at hS
  refine con_of Tryz.func12 rfl (dd rfl) fun w0 O0 => ?_
  refine c_seq ?_
  refine c_region ?_
  refine o_step (s_box rfl (dd rfl) (fun b1 => ?_))
  refine o_val (v_assign rfl) (dd rfl) ?_
  refine o_nil ?_
  refine c_seq ?_
  refine c_joinR (γ := Nat × Nat × Nat × Nat) [(1, _), (2, _)] (fun _ => True) (fun g => [(3, ptr g.1), (4, .bool true)]) (fun g => [Blk g.1 77 [fnV 96, fnV 82], Blk b1 32 [.int .i64 q.1, .int .i64 q.2.1, .int .i64 q.2.2.1, .string q.2.2.2.1, .string q.2.2.2.2.1, d, f, l], Sl (eInt .i64) d q.2.2.2.2.2.1, Sl eStr f q.2.2.2.2.2.2.1, Sl ePr l q.2.2.2.2.2.2.2, Blk g.2.2.1 75 [fnV 81], Blk g.2.2.2 75 [fnV 82]]) (by repeat (first | exact trivial | refine ⟨rfl, ?_⟩)) ?_ ?_
  rotate_left
  · intro MEET
    skip
    refine c_held [BlkR b1 32 [.int .i64 q.1, .int .i64 q.2.1, .int .i64 q.2.2.1, .string q.2.2.2.1, .string q.2.2.2.2.1, d, f, l], Sl (eInt .i64) d q.2.2.2.2.2.1, Sl eStr f q.2.2.2.2.2.2.1, Sl ePr l q.2.2.2.2.2.2.2] rfl ?_
    refine a_take 1 rfl (by kernel_rfl) (by kernel_rfl) (by kernel_rfl) (v_fieldAddrC 0 Tryz.underlying32 rfl ti3 (by decide) rfl) (eX (by repeat constructor)) (dd rfl) ?_
    refine a_take 2 rfl (by kernel_rfl) (by kernel_rfl) (by kernel_rfl) (v_load lone3 rfl (hX (by repeat constructor)) rfl) (eX (by repeat constructor)) (dd rfl) ?_
    refine a_two 0 7 rfl rfl (by kernel_rfl) ?_ ?_
    · skip
      refine s_callf cl39 (kinds_con) rfl (dd rfl) (pXs (by repeat constructor)) (fun g _ => a_on (eX (by repeat constructor)) ?_)
      refine a_two 3 7 rfl rfl (by kernel_rfl) ?_ ?_
      · skip
        refine s_val (v_lookupS kInt Tryz.underlying79 Tryz.underlying3 ti77 rfl rfl (hX (by repeat constructor)) (hlk g.2.1 g.2.2)) (dd rfl) (a_on (eX (by repeat constructor)) ?_)
        refine a_take 4 rfl (by kernel_rfl) (by kernel_rfl) (by kernel_rfl) (v_move rfl) (eX (by repeat constructor)) (dd rfl) ?_
        refine a_take 5 rfl (by kernel_rfl) (by kernel_rfl) (by kernel_rfl) (v_extract rfl rfl) (eX (by repeat constructor)) (dd rfl) ?_
        refine a_take 6 rfl (by kernel_rfl) (by kernel_rfl) (by kernel_rfl) (v_extract rfl rfl) (eX (by repeat constructor)) (dd rfl) ?_
        refine a_one 7 rfl (by kernel_rfl) (s_alloc ti77 (dd rfl) (fun b3 => a_on (eX (by repeat constructor)) ?_))
        refine a_one 8 rfl (by kernel_rfl) (s_store_all ti77 rfl rfl (by first | exact CellsV.lit rfl | exact CellsV.one (by first | exact OneC.lit rfl | exact OneC.sl (hX (by repeat constructor)) )) (by repeat (first | exact OneAll.nil | (refine OneAll.cons ?_ ?_; · first | exact OneC.lit rfl | exact OneC.sl (hX (by repeat constructor)) ) | exact OneAll.rd (hX (by repeat constructor)))) rfl (pB (by repeat constructor)) rfl (a_on (eX (by repeat constructor)) ?_))
        refine a_take 9 rfl (by kernel_rfl) (by kernel_rfl) (by kernel_rfl) (v_assign rfl) (eX (by repeat constructor)) (dd rfl) ?_
        refine a_done (by kernel_rfl) ?_ _
        refine c_use (MEET ((b3, g)) (trivial)) (by repeat (first | exact trivial | refine ⟨rfl, ?_⟩)) (eX (by repeat constructor))
      · skip
        refine s_alloc ti77 (dd rfl) (fun b3 => a_on (eX (by repeat constructor)) ?_)
        refine a_one 3 rfl (by kernel_rfl) (s_val (v_lookupS kInt Tryz.underlying79 Tryz.underlying3 ti77 rfl rfl (hX (by repeat constructor)) (hlk g.2.1 g.2.2)) (dd rfl) (a_on (eX (by repeat constructor)) ?_))
        refine a_take 4 rfl (by kernel_rfl) (by kernel_rfl) (by kernel_rfl) (v_move rfl) (eX (by repeat constructor)) (dd rfl) ?_
        refine a_take 5 rfl (by kernel_rfl) (by kernel_rfl) (by kernel_rfl) (v_extract rfl rfl) (eX (by repeat constructor)) (dd rfl) ?_
        refine a_take 6 rfl (by kernel_rfl) (by kernel_rfl) (by kernel_rfl) (v_extract rfl rfl) (eX (by repeat constructor)) (dd rfl) ?_
        refine a_one 8 rfl (by kernel_rfl) (s_store_all ti77 rfl rfl (by first | exact CellsV.lit rfl | exact CellsV.one (by first | exact OneC.lit rfl | exact OneC.sl (hX (by repeat constructor)) )) (by repeat (first | exact OneAll.nil | (refine OneAll.cons ?_ ?_; · first | exact OneC.lit rfl | exact OneC.sl (hX (by repeat constructor)) ) | exact OneAll.rd (hX (by repeat constructor)))) rfl (pB (by repeat constructor)) rfl (a_on (eX (by repeat constructor)) ?_))
        refine a_take 9 rfl (by kernel_rfl) (by kernel_rfl) (by kernel_rfl) (v_assign rfl) (eX (by repeat constructor)) (dd rfl) ?_
        refine a_done (by kernel_rfl) ?_ _
        refine c_use (MEET ((b3, g)) (trivial)) (by repeat (first | exact trivial | refine ⟨rfl, ?_⟩)) (eX (by repeat constructor))
    · skip
      refine s_alloc ti77 (dd rfl) (fun b3 => a_on (eX (by repeat constructor)) ?_)
      refine a_one 0 rfl (by kernel_rfl) (s_callf cl39 (kinds_con) rfl (dd rfl) (pXs (by repeat constructor)) (fun g _ => a_on (eX (by repeat constructor)) ?_))
      refine a_one 3 rfl (by kernel_rfl) (s_val (v_lookupS kInt Tryz.underlying79 Tryz.underlying3 ti77 rfl rfl (hX (by repeat constructor)) (hlk g.2.1 g.2.2)) (dd rfl) (a_on (eX (by repeat constructor)) ?_))
      refine a_take 4 rfl (by kernel_rfl) (by kernel_rfl) (by kernel_rfl) (v_move rfl) (eX (by repeat constructor)) (dd rfl) ?_
      refine a_take 5 rfl (by kernel_rfl) (by kernel_rfl) (by kernel_rfl) (v_extract rfl rfl) (eX (by repeat constructor)) (dd rfl) ?_
      refine a_take 6 rfl (by kernel_rfl) (by kernel_rfl) (by kernel_rfl) (v_extract rfl rfl) (eX (by repeat constructor)) (dd rfl) ?_
      refine a_one 8 rfl (by kernel_rfl) (s_store_all ti77 rfl rfl (by first | exact CellsV.lit rfl | exact CellsV.one (by first | exact OneC.lit rfl | exact OneC.sl (hX (by repeat constructor)) )) (by repeat (first | exact OneAll.nil | (refine OneAll.cons ?_ ?_; · first | exact OneC.lit rfl | exact OneC.sl (hX (by repeat constructor)) ) | exact OneAll.rd (hX (by repeat constructor)))) rfl (pB (by repeat constructor)) rfl (a_on (eX (by repeat constructor)) ?_))
      refine a_take 9 rfl (by kernel_rfl) (by kernel_rfl) (by kernel_rfl) (v_assign rfl) (eX (by repeat constructor)) (dd rfl) ?_
      refine a_done (by kernel_rfl) ?_ _
      refine c_use (MEET ((b3, g)) (trivial)) (by repeat (first | exact trivial | refine ⟨rfl, ?_⟩)) (eX (by repeat constructor))
  rintro ⟨b3, bm, bn, bg⟩ -
  dsimp only [List.cons_append, List.nil_append]
  refine c_seq ?_
  refine c_held [BlkR b3 77 [fnV 96, fnV 82], BlkR b1 32 [.int .i64 q.1, .int .i64 q.2.1, .int .i64 q.2.2.1, .string q.2.2.2.1, .string q.2.2.2.2.1, d, f, l], Sl (eInt .i64) d q.2.2.2.2.2.1, Sl eStr f q.2.2.2.2.2.2.1, Sl ePr l q.2.2.2.2.2.2.2] rfl ?_
  refine a_take 0 rfl (by kernel_rfl) (by kernel_rfl) (by kernel_rfl) (v_move rfl) (eX (by repeat constructor)) (dd rfl) ?_
  refine a_take 1 rfl (by kernel_rfl) (by kernel_rfl) (by kernel_rfl) (v_move rfl) (eX (by repeat constructor)) (dd rfl) ?_
  refine a_take_on 2 rfl rfl rfl (by kernel_rfl) (by kernel_rfl) (by kernel_rfl) (v_fieldAddrC 0 Tryz.underlying77 rfl ti29 (by decide) rfl) (eX (by repeat constructor)) (dd rfl) ?_
  refine a_take_on 3 rfl rfl rfl (by kernel_rfl) (by kernel_rfl) (by kernel_rfl) (v_load lone29 rfl (hX (by repeat constructor)) rfl) (eX (by repeat constructor)) (dd rfl) ?_
  refine a_take_on 4 rfl rfl rfl (by kernel_rfl) (by kernel_rfl) (by kernel_rfl) (v_load_all ⟨_, Tryz.underlying32⟩ ti32 rfl (hX (by repeat constructor)) rfl) (eX (by repeat constructor)) (dd rfl) ?_
  by_cases g1 : (decide (1 ≤ q.2.2.1 ∧ q.2.2.1 ≤ 1000000000) && (decide (q.2.2.2.2.2.2.1.length ≤ 8) && filesP ⟨#[]⟩ q.2.2.2.2.2.2.1)) = true
  · rw [g1] at hT
    refine a_one_on 5 rfl rfl rfl (by kernel_rfl) (s_call_keep cl96 (hT) (first := []) (cap := []) rfl rfl rfl (dd rfl) (rX (by repeat constructor)) (fun _ => sX) (fun _ _ => a_on (eX (by repeat constructor)) ?_))
    refine a_take 6 rfl (by kernel_rfl) (by kernel_rfl) (by kernel_rfl) (v_pick_t rfl rfl) (eX (by repeat constructor)) (dd rfl) ?_
    refine a_take 7 rfl (by kernel_rfl) (by kernel_rfl) (by kernel_rfl) (v_move rfl) (eX (by repeat constructor)) (dd rfl) ?_
    refine a_know (s := 19) rfl (show _ = Value.bool true from rfl) ?_
    refine a_take_on 8 rfl rfl rfl (by kernel_rfl) (by kernel_rfl) (by kernel_rfl) (v_fieldAddrC 1 Tryz.underlying77 rfl ti75 (by decide) rfl) (eX (by repeat constructor)) (dd rfl) ?_
    refine a_take_on 9 rfl rfl rfl (by kernel_rfl) (by kernel_rfl) (by kernel_rfl) (v_load lone75 rfl (hX (by repeat constructor)) rfl) (eX (by repeat constructor)) (dd rfl) ?_
    refine a_take_on 10 rfl rfl rfl (by kernel_rfl) (by kernel_rfl) (by kernel_rfl) (v_load_all ⟨_, Tryz.underlying32⟩ ti32 rfl (hX (by repeat constructor)) rfl) (eX (by repeat constructor)) (dd rfl) ?_
    refine a_take_on 12 rfl rfl rfl (by kernel_rfl) (by kernel_rfl) (by kernel_rfl) (v_fieldAddrC 0 Tryz.underlying32 rfl ti3 (by decide) rfl) (eX (by repeat constructor)) (dd rfl) ?_
    refine a_take_on 13 rfl rfl rfl (by kernel_rfl) (by kernel_rfl) (by kernel_rfl) (v_load lone3 rfl (hX (by repeat constructor)) rfl) (eX (by repeat constructor)) (dd rfl) ?_
    refine a_take_on 14 rfl rfl rfl (by kernel_rfl) (by kernel_rfl) (by kernel_rfl) (v_buildS (places := [(0, 1), (1, 1), (2, 1), (3, 1), (4, 1), (5, 1), (6, 1), (7, 1)]) (cells := [_, .int .i64 0, .int .i64 0, .string ⟨#[]⟩, .string ⟨#[]⟩, .slice none 0 0, .slice none 0 0, .slice none 0 0]) Tryz.underlying32 ti32 (by kernel_rfl) rfl (by repeat (first | exact PartsC.nil | (apply PartsC.one (by first | exact OneC.lit rfl | exact OneC.sl (hX (by repeat constructor)) )) | (apply PartsC.lit rfl))) rfl) (eX (by repeat constructor)) (dd rfl) ?_
    refine a_one_on 11 rfl rfl rfl (by kernel_rfl) (s_call_keep cl82 (hR) (first := []) (cap := []) rfl rfl rfl (dd rfl) (rX (by repeat constructor)) (fun _ => sX) (fun _ _ => a_on (eX (by repeat constructor)) ?_))
    refine a_one_on 15 rfl rfl rfl (by kernel_rfl) (s_callf cl15 (hS) rfl (dd rfl) (pXs (by repeat constructor)) (fun _ _ => a_on (eX (by repeat constructor)) ?_))
    refine a_take 16 rfl (by kernel_rfl) (by kernel_rfl) (by kernel_rfl) (v_pick_t rfl rfl) (eX (by repeat constructor)) (dd rfl) ?_
    refine a_take 17 rfl (by kernel_rfl) (by kernel_rfl) (by kernel_rfl) (v_assign rfl) (eX (by repeat constructor)) (dd rfl) ?_
    refine a_done (by kernel_rfl) ?_ _
    refine c_ret1 Tryz.func12 rfl rfl fun w O hS => ?_
    exact ⟨(), congrArg Value.bool (decide_eq_decide.2 (by rw [hi, g1]; simp)), trivial, trivial⟩
  · have g2 : (decide (1 ≤ q.2.2.1 ∧ q.2.2.1 ≤ 1000000000) && (decide (q.2.2.2.2.2.2.1.length ≤ 8) && filesP ⟨#[]⟩ q.2.2.2.2.2.2.1)) = false := Bool.eq_false_iff.2 g1
    rw [g2] at hT
    refine a_one_on 5 rfl rfl rfl (by kernel_rfl) (s_call_keep cl96 (hT) (first := []) (cap := []) rfl rfl rfl (dd rfl) (rX (by repeat constructor)) (fun _ => sX) (fun _ _ => a_on (eX (by repeat constructor)) ?_))
    refine a_take 6 rfl (by kernel_rfl) (by kernel_rfl) (by kernel_rfl) (v_pick_t rfl rfl) (eX (by repeat constructor)) (dd rfl) ?_
    refine a_take 7 rfl (by kernel_rfl) (by kernel_rfl) (by kernel_rfl) (v_move rfl) (eX (by repeat constructor)) (dd rfl) ?_
    refine a_know (s := 19) rfl (show _ = Value.bool false from rfl) ?_
    refine a_take_off 8 rfl rfl rfl rfl (by kernel_rfl) (by kernel_rfl) (by kernel_rfl) (eX (by repeat constructor)) (dd rfl) ?_
    refine a_take_off 9 rfl rfl rfl rfl (by kernel_rfl) (by kernel_rfl) (by kernel_rfl) (eX (by repeat constructor)) (dd rfl) ?_
    refine a_take_off 10 rfl rfl rfl rfl (by kernel_rfl) (by kernel_rfl) (by kernel_rfl) (eX (by repeat constructor)) (dd rfl) ?_
    refine a_take_off 11 rfl rfl rfl rfl (by kernel_rfl) (by kernel_rfl) (by kernel_rfl) (eX (by repeat constructor)) (dd rfl) ?_
    refine a_take_off 12 rfl rfl rfl rfl (by kernel_rfl) (by kernel_rfl) (by kernel_rfl) (eX (by repeat constructor)) (dd rfl) ?_
    refine a_take_off 13 rfl rfl rfl rfl (by kernel_rfl) (by kernel_rfl) (by kernel_rfl) (eX (by repeat constructor)) (dd rfl) ?_
    refine a_take_off 14 rfl rfl rfl rfl (by kernel_rfl) (by kernel_rfl) (by kernel_rfl) (eX (by repeat constructor)) (dd rfl) ?_
    refine a_take_off 15 rfl rfl rfl rfl (by kernel_rfl) (by kernel_rfl) (by kernel_rfl) (eX (by repeat constructor)) (dd rfl) ?_
    refine a_take 16 rfl (by kernel_rfl) (by kernel_rfl) (by kernel_rfl) (v_pick_f rfl rfl) (eX (by repeat constructor)) (dd rfl) ?_
    refine a_take 17 rfl (by kernel_rfl) (by kernel_rfl) (by kernel_rfl) (v_assign rfl) (eX (by repeat constructor)) (dd rfl) ?_
    refine a_done (by kernel_rfl) ?_ _
    refine c_ret1 Tryz.func12 rfl rfl fun w O hS => ?_
    exact ⟨(), congrArg Value.bool (decide_eq_false (by rw [hi, g2]; simp)).symm, trivial, trivial⟩
set_option maxRecDepth 100000 in
theorem right3_con (q : Rq9) (d f l : Value) (hk : q.1 = 3) (hq : FineQ q) : Con Tryz.prog 12 [.agg #[.int .i64 q.1, .int .i64 q.2.1, .int .i64 q.2.2.1, .string q.2.2.2.1, .string q.2.2.2.2.1, d, f, l]] [Sl (eInt .i64) d q.2.2.2.2.2.1, Sl eStr f q.2.2.2.2.2.2.1, Sl ePr l q.2.2.2.2.2.2.2] (γ := Unit) (fun _ => .bool (decide (RightQ q))) (fun _ => True) (fun _ => []) := by
  have hlk : ∀ b1 b2, Go.SL.look (kindsM b1 b2) q.1 = some (.agg #[fnV 91, fnV 97]) := fun b1 b2 => by rw [hk]; exact look3 b1 b2
  have hT := id_con (.int .i64 q.1) (.int .i64 q.2.1) (.string q.2.2.2.1) (.string q.2.2.2.2.1) d f l q.2.2.1
  have hR := rUnrecord_con q d f l
  have hi := right_iff3 hk
  have hS := sameReq_con (q.1, q.2.1, 0, q.2.2.2.1, q.2.2.2.2.1, q.2.2.2.2.2.1, q.2.2.2.2.2.2.1, q.2.2.2.2.2.2.2) (zeroQ q.1) (d) (f) (l) (.slice none 0 0) (.slice none 0 0) (.slice none 0 0) ⟨hq.size.1, hq.size.2.1, hq.size.2.2⟩ (zeroQ_size _)
  dsimp only at hS
  refine con_of Tryz.func12 rfl (dd rfl) fun w0 O0 => ?_
  refine c_seq ?_
  refine c_region ?_
  refine o_step (s_box rfl (dd rfl) (fun b1 => ?_))
  refine o_val (v_assign rfl) (dd rfl) ?_
  refine o_nil ?_
  refine c_seq ?_
  refine c_joinR (γ := Nat × Nat × Nat × Nat) [(1, _), (2, _)] (fun _ => True) (fun g => [(3, ptr g.1), (4, .bool true)]) (fun g => [Blk g.1 77 [fnV 91, fnV 97], Blk b1 32 [.int .i64 q.1, .int .i64 q.2.1, .int .i64 q.2.2.1, .string q.2.2.2.1, .string q.2.2.2.2.1, d, f, l], Sl (eInt .i64) d q.2.2.2.2.2.1, Sl eStr f q.2.2.2.2.2.2.1, Sl ePr l q.2.2.2.2.2.2.2, Blk g.2.2.1 75 [fnV 81], Blk g.2.2.2 75 [fnV 82]]) (by repeat (first | exact trivial | refine ⟨rfl, ?_⟩)) ?_ ?_
  rotate_left
  · intro MEET
    skip
    refine c_held [BlkR b1 32 [.int .i64 q.1, .int .i64 q.2.1, .int .i64 q.2.2.1, .string q.2.2.2.1, .string q.2.2.2.2.1, d, f, l], Sl (eInt .i64) d q.2.2.2.2.2.1, Sl eStr f q.2.2.2.2.2.2.1, Sl ePr l q.2.2.2.2.2.2.2] rfl ?_
    refine a_take 1 rfl (by kernel_rfl) (by kernel_rfl) (by kernel_rfl) (v_fieldAddrC 0 Tryz.underlying32 rfl ti3 (by decide) rfl) (eX (by repeat constructor)) (dd rfl) ?_
    refine a_take 2 rfl (by kernel_rfl) (by kernel_rfl) (by kernel_rfl) (v_load lone3 rfl (hX (by repeat constructor)) rfl) (eX (by repeat constructor)) (dd rfl) ?_
    refine a_two 0 7 rfl rfl (by kernel_rfl) ?_ ?_
    · skip
      refine s_callf cl39 (kinds_con) rfl (dd rfl) (pXs (by repeat constructor)) (fun g _ => a_on (eX (by repeat constructor)) ?_)
      refine a_two 3 7 rfl rfl (by kernel_rfl) ?_ ?_
      · skip
        refine s_val (v_lookupS kInt Tryz.underlying79 Tryz.underlying3 ti77 rfl rfl (hX (by repeat constructor)) (hlk g.2.1 g.2.2)) (dd rfl) (a_on (eX (by repeat constructor)) ?_)
        refine a_take 4 rfl (by kernel_rfl) (by kernel_rfl) (by kernel_rfl) (v_move rfl) (eX (by repeat constructor)) (dd rfl) ?_
        refine a_take 5 rfl (by kernel_rfl) (by kernel_rfl) (by kernel_rfl) (v_extract rfl rfl) (eX (by repeat constructor)) (dd rfl) ?_
        refine a_take 6 rfl (by kernel_rfl) (by kernel_rfl) (by kernel_rfl) (v_extract rfl rfl) (eX (by repeat constructor)) (dd rfl) ?_
        refine a_one 7 rfl (by kernel_rfl) (s_alloc ti77 (dd rfl) (fun b3 => a_on (eX (by repeat constructor)) ?_))
        refine a_one 8 rfl (by kernel_rfl) (s_store_all ti77 rfl rfl (by first | exact CellsV.lit rfl | exact CellsV.one (by first | exact OneC.lit rfl | exact OneC.sl (hX (by repeat constructor)) )) (by repeat (first | exact OneAll.nil | (refine OneAll.cons ?_ ?_; · first | exact OneC.lit rfl | exact OneC.sl (hX (by repeat constructor)) ) | exact OneAll.rd (hX (by repeat constructor)))) rfl (pB (by repeat constructor)) rfl (a_on (eX (by repeat constructor)) ?_))
        refine a_take 9 rfl (by kernel_rfl) (by kernel_rfl) (by kernel_rfl) (v_assign rfl) (eX (by repeat constructor)) (dd rfl) ?_
        refine a_done (by kernel_rfl) ?_ _
        refine c_use (MEET ((b3, g)) (trivial)) (by repeat (first | exact trivial | refine ⟨rfl, ?_⟩)) (eX (by repeat constructor))
      · skip
        refine s_alloc ti77 (dd rfl) (fun b3 => a_on (eX (by repeat constructor)) ?_)
        refine a_one 3 rfl (by kernel_rfl) (s_val (v_lookupS kInt Tryz.underlying79 Tryz.underlying3 ti77 rfl rfl (hX (by repeat constructor)) (hlk g.2.1 g.2.2)) (dd rfl) (a_on (eX (by repeat constructor)) ?_))
        refine a_take 4 rfl (by kernel_rfl) (by kernel_rfl) (by kernel_rfl) (v_move rfl) (eX (by repeat constructor)) (dd rfl) ?_
        refine a_take 5 rfl (by kernel_rfl) (by kernel_rfl) (by kernel_rfl) (v_extract rfl rfl) (eX (by repeat constructor)) (dd rfl) ?_
        refine a_take 6 rfl (by kernel_rfl) (by kernel_rfl) (by kernel_rfl) (v_extract rfl rfl) (eX (by repeat constructor)) (dd rfl) ?_
        refine a_one 8 rfl (by kernel_rfl) (s_store_all ti77 rfl rfl (by first | exact CellsV.lit rfl | exact CellsV.one (by first | exact OneC.lit rfl | exact OneC.sl (hX (by repeat constructor)) )) (by repeat (first | exact OneAll.nil | (refine OneAll.cons ?_ ?_; · first | exact OneC.lit rfl | exact OneC.sl (hX (by repeat constructor)) ) | exact OneAll.rd (hX (by repeat constructor)))) rfl (pB (by repeat constructor)) rfl (a_on (eX (by repeat constructor)) ?_))
        refine a_take 9 rfl (by kernel_rfl) (by kernel_rfl) (by kernel_rfl) (v_assign rfl) (eX (by repeat constructor)) (dd rfl) ?_
        refine a_done (by kernel_rfl) ?_ _
        refine c_use (MEET ((b3, g)) (trivial)) (by repeat (first | exact trivial | refine ⟨rfl, ?_⟩)) (eX (by repeat constructor))
    · skip
      refine s_alloc ti77 (dd rfl) (fun b3 => a_on (eX (by repeat constructor)) ?_)
      refine a_one 0 rfl (by kernel_rfl) (s_callf cl39 (kinds_con) rfl (dd rfl) (pXs (by repeat constructor)) (fun g _ => a_on (eX (by repeat constructor)) ?_))
      refine a_one 3 rfl (by kernel_rfl) (s_val (v_lookupS kInt Tryz.underlying79 Tryz.underlying3 ti77 rfl rfl (hX (by repeat constructor)) (hlk g.2.1 g.2.2)) (dd rfl) (a_on (eX (by repeat constructor)) ?_))
      refine a_take 4 rfl (by kernel_rfl) (by kernel_rfl) (by kernel_rfl) (v_move rfl) (eX (by repeat constructor)) (dd rfl) ?_
      refine a_take 5 rfl (by kernel_rfl) (by kernel_rfl) (by kernel_rfl) (v_extract rfl rfl) (eX (by repeat constructor)) (dd rfl) ?_
      refine a_take 6 rfl (by kernel_rfl) (by kernel_rfl) (by kernel_rfl) (v_extract rfl rfl) (eX (by repeat constructor)) (dd rfl) ?_
      refine a_one 8 rfl (by kernel_rfl) (s_store_all ti77 rfl rfl (by first | exact CellsV.lit rfl | exact CellsV.one (by first | exact OneC.lit rfl | exact OneC.sl (hX (by repeat constructor)) )) (by repeat (first | exact OneAll.nil | (refine OneAll.cons ?_ ?_; · first | exact OneC.lit rfl | exact OneC.sl (hX (by repeat constructor)) ) | exact OneAll.rd (hX (by repeat constructor)))) rfl (pB (by repeat constructor)) rfl (a_on (eX (by repeat constructor)) ?_))
      refine a_take 9 rfl (by kernel_rfl) (by kernel_rfl) (by kernel_rfl) (v_assign rfl) (eX (by repeat constructor)) (dd rfl) ?_
      refine a_done (by kernel_rfl) ?_ _
      refine c_use (MEET ((b3, g)) (trivial)) (by repeat (first | exact trivial | refine ⟨rfl, ?_⟩)) (eX (by repeat constructor))
  rintro ⟨b3, bm, bn, bg⟩ -
  dsimp only [List.cons_append, List.nil_append]
  refine c_seq ?_
  refine c_held [BlkR b3 77 [fnV 91, fnV 97], BlkR b1 32 [.int .i64 q.1, .int .i64 q.2.1, .int .i64 q.2.2.1, .string q.2.2.2.1, .string q.2.2.2.2.1, d, f, l], Sl (eInt .i64) d q.2.2.2.2.2.1, Sl eStr f q.2.2.2.2.2.2.1, Sl ePr l q.2.2.2.2.2.2.2] rfl ?_
  refine a_take 0 rfl (by kernel_rfl) (by kernel_rfl) (by kernel_rfl) (v_move rfl) (eX (by repeat constructor)) (dd rfl) ?_
  refine a_take 1 rfl (by kernel_rfl) (by kernel_rfl) (by kernel_rfl) (v_move rfl) (eX (by repeat constructor)) (dd rfl) ?_
  refine a_take_on 2 rfl rfl rfl (by kernel_rfl) (by kernel_rfl) (by kernel_rfl) (v_fieldAddrC 0 Tryz.underlying77 rfl ti29 (by decide) rfl) (eX (by repeat constructor)) (dd rfl) ?_
  refine a_take_on 3 rfl rfl rfl (by kernel_rfl) (by kernel_rfl) (by kernel_rfl) (v_load lone29 rfl (hX (by repeat constructor)) rfl) (eX (by repeat constructor)) (dd rfl) ?_
  refine a_take_on 4 rfl rfl rfl (by kernel_rfl) (by kernel_rfl) (by kernel_rfl) (v_load_all ⟨_, Tryz.underlying32⟩ ti32 rfl (hX (by repeat constructor)) rfl) (eX (by repeat constructor)) (dd rfl) ?_
  by_cases g1 : (decide (1 ≤ q.2.2.1 ∧ q.2.2.1 ≤ 1000000000)) = true
  · rw [g1] at hT
    refine a_one_on 5 rfl rfl rfl (by kernel_rfl) (s_call_keep cl91 (hT) (first := []) (cap := []) rfl rfl rfl (dd rfl) (rX (by repeat constructor)) (fun _ => sX) (fun _ _ => a_on (eX (by repeat constructor)) ?_))
    refine a_take 6 rfl (by kernel_rfl) (by kernel_rfl) (by kernel_rfl) (v_pick_t rfl rfl) (eX (by repeat constructor)) (dd rfl) ?_
    refine a_take 7 rfl (by kernel_rfl) (by kernel_rfl) (by kernel_rfl) (v_move rfl) (eX (by repeat constructor)) (dd rfl) ?_
    refine a_know (s := 19) rfl (show _ = Value.bool true from rfl) ?_
    refine a_take_on 8 rfl rfl rfl (by kernel_rfl) (by kernel_rfl) (by kernel_rfl) (v_fieldAddrC 1 Tryz.underlying77 rfl ti75 (by decide) rfl) (eX (by repeat constructor)) (dd rfl) ?_
    refine a_take_on 9 rfl rfl rfl (by kernel_rfl) (by kernel_rfl) (by kernel_rfl) (v_load lone75 rfl (hX (by repeat constructor)) rfl) (eX (by repeat constructor)) (dd rfl) ?_
    refine a_take_on 10 rfl rfl rfl (by kernel_rfl) (by kernel_rfl) (by kernel_rfl) (v_load_all ⟨_, Tryz.underlying32⟩ ti32 rfl (hX (by repeat constructor)) rfl) (eX (by repeat constructor)) (dd rfl) ?_
    refine a_take_on 12 rfl rfl rfl (by kernel_rfl) (by kernel_rfl) (by kernel_rfl) (v_fieldAddrC 0 Tryz.underlying32 rfl ti3 (by decide) rfl) (eX (by repeat constructor)) (dd rfl) ?_
    refine a_take_on 13 rfl rfl rfl (by kernel_rfl) (by kernel_rfl) (by kernel_rfl) (v_load lone3 rfl (hX (by repeat constructor)) rfl) (eX (by repeat constructor)) (dd rfl) ?_
    refine a_take_on 14 rfl rfl rfl (by kernel_rfl) (by kernel_rfl) (by kernel_rfl) (v_buildS (places := [(0, 1), (1, 1), (2, 1), (3, 1), (4, 1), (5, 1), (6, 1), (7, 1)]) (cells := [_, .int .i64 0, .int .i64 0, .string ⟨#[]⟩, .string ⟨#[]⟩, .slice none 0 0, .slice none 0 0, .slice none 0 0]) Tryz.underlying32 ti32 (by kernel_rfl) rfl (by repeat (first | exact PartsC.nil | (apply PartsC.one (by first | exact OneC.lit rfl | exact OneC.sl (hX (by repeat constructor)) )) | (apply PartsC.lit rfl))) rfl) (eX (by repeat constructor)) (dd rfl) ?_
    refine a_one_on 11 rfl rfl rfl (by kernel_rfl) (s_call_keep cl97 (hR) (first := []) (cap := []) rfl rfl rfl (dd rfl) (rX (by repeat constructor)) (fun _ => sX) (fun _ _ => a_on (eX (by repeat constructor)) ?_))
    refine a_one_on 15 rfl rfl rfl (by kernel_rfl) (s_callf cl15 (hS) rfl (dd rfl) (pXs (by repeat constructor)) (fun _ _ => a_on (eX (by repeat constructor)) ?_))
    refine a_take 16 rfl (by kernel_rfl) (by kernel_rfl) (by kernel_rfl) (v_pick_t rfl rfl) (eX (by repeat constructor)) (dd rfl) ?_
    refine a_take 17 rfl (by kernel_rfl) (by kernel_rfl) (by kernel_rfl) (v_assign rfl) (eX (by repeat constructor)) (dd rfl) ?_
    refine a_done (by kernel_rfl) ?_ _
    refine c_ret1 Tryz.func12 rfl rfl fun w O hS => ?_
    exact ⟨(), congrArg Value.bool (decide_eq_decide.2 (by rw [hi, g1]; simp)), trivial, trivial⟩
  · have g2 : (decide (1 ≤ q.2.2.1 ∧ q.2.2.1 ≤ 1000000000)) = false := Bool.eq_false_iff.2 g1
    rw [g2] at hT
    refine a_one_on 5 rfl rfl rfl (by kernel_rfl) (s_call_keep cl91 (hT) (first := []) (cap := []) rfl rfl rfl (dd rfl) (rX (by repeat constructor)) (fun _ => sX) (fun _ _ => a_on (eX (by repeat constructor)) ?_))
    refine a_take 6 rfl (by kernel_rfl) (by kernel_rfl) (by kernel_rfl) (v_pick_t rfl rfl) (eX (by repeat constructor)) (dd rfl) ?_
    refine a_take 7 rfl (by kernel_rfl) (by kernel_rfl) (by kernel_rfl) (v_move rfl) (eX (by repeat constructor)) (dd rfl) ?_
    refine a_know (s := 19) rfl (show _ = Value.bool false from rfl) ?_
    refine a_take_off 8 rfl rfl rfl rfl (by kernel_rfl) (by kernel_rfl) (by kernel_rfl) (eX (by repeat constructor)) (dd rfl) ?_
    refine a_take_off 9 rfl rfl rfl rfl (by kernel_rfl) (by kernel_rfl) (by kernel_rfl) (eX (by repeat constructor)) (dd rfl) ?_
    refine a_take_off 10 rfl rfl rfl rfl (by kernel_rfl) (by kernel_rfl) (by kernel_rfl) (eX (by repeat constructor)) (dd rfl) ?_
    refine a_take_off 11 rfl rfl rfl rfl (by kernel_rfl) (by kernel_rfl) (by kernel_rfl) (eX (by repeat constructor)) (dd rfl) ?_
    refine a_take_off 12 rfl rfl rfl rfl (by kernel_rfl) (by kernel_rfl) (by kernel_rfl) (eX (by repeat constructor)) (dd rfl) ?_
    refine a_take_off 13 rfl rfl rfl rfl (by kernel_rfl) (by kernel_rfl) (by kernel_rfl) (eX (by repeat constructor)) (dd rfl) ?_
    refine a_take_off 14 rfl rfl rfl rfl (by kernel_rfl) (by kernel_rfl) (by kernel_rfl) (eX (by repeat constructor)) (dd rfl) ?_
    refine a_take_off 15 rfl rfl rfl rfl (by kernel_rfl) (by kernel_rfl) (by kernel_rfl) (eX (by repeat constructor)) (dd rfl) ?_
    refine a_take 16 rfl (by kernel_rfl) (by kernel_rfl) (by kernel_rfl) (v_pick_f rfl rfl) (eX (by repeat constructor)) (dd rfl) ?_
    refine a_take 17 rfl (by kernel_rfl) (by kernel_rfl) (by kernel_rfl) (v_assign rfl) (eX (by repeat constructor)) (dd rfl) ?_
    refine a_done (by kernel_rfl) ?_ _
    refine c_ret1 Tryz.func12 rfl rfl fun w O hS => ?_
    exact ⟨(), congrArg Value.bool (decide_eq_false (by rw [hi, g2]; simp)).symm, trivial, trivial⟩
set_option maxRecDepth 100000 in
theorem right4_con (q : Rq9) (d f l : Value) (hk : q.1 = 4) (hq : FineQ q) : Con Tryz.prog 12 [.agg #[.int .i64 q.1, .int .i64 q.2.1, .int .i64 q.2.2.1, .string q.2.2.2.1, .string q.2.2.2.2.1, d, f, l]] [Sl (eInt .i64) d q.2.2.2.2.2.1, Sl eStr f q.2.2.2.2.2.2.1, Sl ePr l q.2.2.2.2.2.2.2] (γ := Unit) (fun _ => .bool (decide (RightQ q))) (fun _ => True) (fun _ => []) := by
  have hlk : ∀ b1 b2, Go.SL.look (kindsM b1 b2) q.1 = some (.agg #[fnV 94, fnV 98]) := fun b1 b2 => by rw [hk]; exact look4 b1 b2
  have hT := files_con (.int .i64 q.1) (.int .i64 q.2.1) (.int .i64 q.2.2.1) (.string q.2.2.2.1) (.string q.2.2.2.2.1) d f l q.2.2.2.2.2.2.1 hq.files.1 hq.files.2
  have hR := rRevert_con q d f l
  have hi := right_iff4 hk
  have hS := sameReq_con (q.1, q.2.1, q.2.2.1, q.2.2.2.1, q.2.2.2.2.1, q.2.2.2.2.2.1, [], q.2.2.2.2.2.2.2) (zeroQ q.1) (d) (.slice none 0 0) (l) (.slice none 0 0) (.slice none 0 0) (.slice none 0 0) ⟨hq.size.1, Nat.zero_le _, hq.size.2.2⟩ (zeroQ_size _)
  dsimp only at hS
  refine con_of Tryz.func12 rfl (dd rfl) fun w0 O0 => ?_
  refine c_seq ?_
  refine c_region ?_
  refine o_step (s_box rfl (dd rfl) (fun b1 => ?_))
  refine o_val (v_assign rfl) (dd rfl) ?_
  refine o_nil ?_
  refine c_seq ?_
  refine c_joinR (γ := Nat × Nat × Nat × Nat) [(1, _), (2, _)] (fun _ => True) (fun g => [(3, ptr g.1), (4, .bool true)]) (fun g => [Blk g.1 77 [fnV 94, fnV 98], Blk b1 32 [.int .i64 q.1, .int .i64 q.2.1, .int .i64 q.2.2.1, .string q.2.2.2.1, .string q.2.2.2.2.1, d, f, l], Sl (eInt .i64) d q.2.2.2.2.2.1, Sl eStr f q.2.2.2.2.2.2.1, Sl ePr l q.2.2.2.2.2.2.2, Blk g.2.2.1 75 [fnV 81], Blk g.2.2.2 75 [fnV 82]]) (by repeat (first | exact trivial | refine ⟨rfl, ?_⟩)) ?_ ?_
  rotate_left
  · intro MEET
    skip
    refine c_held [BlkR b1 32 [.int .i64 q.1, .int .i64 q.2.1, .int .i64 q.2.2.1, .string q.2.2.2.1, .string q.2.2.2.2.1, d, f, l], Sl (eInt .i64) d q.2.2.2.2.2.1, Sl eStr f q.2.2.2.2.2.2.1, Sl ePr l q.2.2.2.2.2.2.2] rfl ?_
    refine a_take 1 rfl (by kernel_rfl) (by kernel_rfl) (by kernel_rfl) (v_fieldAddrC 0 Tryz.underlying32 rfl ti3 (by decide) rfl) (eX (by repeat constructor)) (dd rfl) ?_
    refine a_take 2 rfl (by kernel_rfl) (by kernel_rfl) (by kernel_rfl) (v_load lone3 rfl (hX (by repeat constructor)) rfl) (eX (by repeat constructor)) (dd rfl) ?_
    refine a_two 0 7 rfl rfl (by kernel_rfl) ?_ ?_
    · skip
      refine s_callf cl39 (kinds_con) rfl (dd rfl) (pXs (by repeat constructor)) (fun g _ => a_on (eX (by repeat constructor)) ?_)
      refine a_two 3 7 rfl rfl (by kernel_rfl) ?_ ?_
      · skip
        refine s_val (v_lookupS kInt Tryz.underlying79 Tryz.underlying3 ti77 rfl rfl (hX (by repeat constructor)) (hlk g.2.1 g.2.2)) (dd rfl) (a_on (eX (by repeat constructor)) ?_)
        refine a_take 4 rfl (by kernel_rfl) (by kernel_rfl) (by kernel_rfl) (v_move rfl) (eX (by repeat constructor)) (dd rfl) ?_
        refine a_take 5 rfl (by kernel_rfl) (by kernel_rfl) (by kernel_rfl) (v_extract rfl rfl) (eX (by repeat constructor)) (dd rfl) ?_
        refine a_take 6 rfl (by kernel_rfl) (by kernel_rfl) (by kernel_rfl) (v_extract rfl rfl) (eX (by repeat constructor)) (dd rfl) ?_
        refine a_one 7 rfl (by kernel_rfl) (s_alloc ti77 (dd rfl) (fun b3 => a_on (eX (by repeat constructor)) ?_))
        refine a_one 8 rfl (by kernel_rfl) (s_store_all ti77 rfl rfl (by first | exact CellsV.lit rfl | exact CellsV.one (by first | exact OneC.lit rfl | exact OneC.sl (hX (by repeat constructor)) )) (by repeat (first | exact OneAll.nil | (refine OneAll.cons ?_ ?_; · first | exact OneC.lit rfl | exact OneC.sl (hX (by repeat constructor)) ) | exact OneAll.rd (hX (by repeat constructor)))) rfl (pB (by repeat constructor)) rfl (a_on (eX (by repeat constructor)) ?_))
        refine a_take 9 rfl (by kernel_rfl) (by kernel_rfl) (by kernel_rfl) (v_assign rfl) (eX (by repeat constructor)) (dd rfl) ?_
        refine a_done (by kernel_rfl) ?_ _
        refine c_use (MEET ((b3, g)) (trivial)) (by repeat (first | exact trivial | refine ⟨rfl, ?_⟩)) (eX (by repeat constructor))
      · skip
        refine s_alloc ti77 (dd rfl) (fun b3 => a_on (eX (by repeat constructor)) ?_)
        refine a_one 3 rfl (by kernel_rfl) (s_val (v_lookupS kInt Tryz.underlying79 Tryz.underlying3 ti77 rfl rfl (hX (by repeat constructor)) (hlk g.2.1 g.2.2)) (dd rfl) (a_on (eX (by repeat constructor)) ?_))
        refine a_take 4 rfl (by kernel_rfl) (by kernel_rfl) (by kernel_rfl) (v_move rfl) (eX (by repeat constructor)) (dd rfl) ?_
        refine a_take 5 rfl (by kernel_rfl) (by kernel_rfl) (by kernel_rfl) (v_extract rfl rfl) (eX (by repeat constructor)) (dd rfl) ?_
        refine a_take 6 rfl (by kernel_rfl) (by kernel_rfl) (by kernel_rfl) (v_extract rfl rfl) (eX (by repeat constructor)) (dd rfl) ?_
        refine a_one 8 rfl (by kernel_rfl) (s_store_all ti77 rfl rfl (by first | exact CellsV.lit rfl | exact CellsV.one (by first | exact OneC.lit rfl | exact OneC.sl (hX (by repeat constructor)) )) (by repeat (first | exact OneAll.nil | (refine OneAll.cons ?_ ?_; · first | exact OneC.lit rfl | exact OneC.sl (hX (by repeat constructor)) ) | exact OneAll.rd (hX (by repeat constructor)))) rfl (pB (by repeat constructor)) rfl (a_on (eX (by repeat constructor)) ?_))
        refine a_take 9 rfl (by kernel_rfl) (by kernel_rfl) (by kernel_rfl) (v_assign rfl) (eX (by repeat constructor)) (dd rfl) ?_
        refine a_done (by kernel_rfl) ?_ _
        refine c_use (MEET ((b3, g)) (trivial)) (by repeat (first | exact trivial | refine ⟨rfl, ?_⟩)) (eX (by repeat constructor))
    · skip
      refine s_alloc ti77 (dd rfl) (fun b3 => a_on (eX (by repeat constructor)) ?_)
      refine a_one 0 rfl (by kernel_rfl) (s_callf cl39 (kinds_con) rfl (dd rfl) (pXs (by repeat constructor)) (fun g _ => a_on (eX (by repeat constructor)) ?_))
      refine a_one 3 rfl (by kernel_rfl) (s_val (v_lookupS kInt Tryz.underlying79 Tryz.underlying3 ti77 rfl rfl (hX (by repeat constructor)) (hlk g.2.1 g.2.2)) (dd rfl) (a_on (eX (by repeat constructor)) ?_))
      refine a_take 4 rfl (by kernel_rfl) (by kernel_rfl) (by kernel_rfl) (v_move rfl) (eX (by repeat constructor)) (dd rfl) ?_
      refine a_take 5 rfl (by kernel_rfl) (by kernel_rfl) (by kernel_rfl) (v_extract rfl rfl) (eX (by repeat constructor)) (dd rfl) ?_
      refine a_take 6 rfl (by kernel_rfl) (by kernel_rfl) (by kernel_rfl) (v_extract rfl rfl) (eX (by repeat constructor)) (dd rfl) ?_
      refine a_one 8 rfl (by kernel_rfl) (s_store_all ti77 rfl rfl (by first | exact CellsV.lit rfl | exact CellsV.one (by first | exact OneC.lit rfl | exact OneC.sl (hX (by repeat constructor)) )) (by repeat (first | exact OneAll.nil | (refine OneAll.cons ?_ ?_; · first | exact OneC.lit rfl | exact OneC.sl (hX (by repeat constructor)) ) | exact OneAll.rd (hX (by repeat constructor)))) rfl (pB (by repeat constructor)) rfl (a_on (eX (by repeat constructor)) ?_))
      refine a_take 9 rfl (by kernel_rfl) (by kernel_rfl) (by kernel_rfl) (v_assign rfl) (eX (by repeat constructor)) (dd rfl) ?_
      refine a_done (by kernel_rfl) ?_ _
      refine c_use (MEET ((b3, g)) (trivial)) (by repeat (first | exact trivial | refine ⟨rfl, ?_⟩)) (eX (by repeat constructor))
  rintro ⟨b3, bm, bn, bg⟩ -
  dsimp only [List.cons_append, List.nil_append]
  refine c_seq ?_
  refine c_held [BlkR b3 77 [fnV 94, fnV 98], BlkR b1 32 [.int .i64 q.1, .int .i64 q.2.1, .int .i64 q.2.2.1, .string q.2.2.2.1, .string q.2.2.2.2.1, d, f, l], Sl (eInt .i64) d q.2.2.2.2.2.1, Sl eStr f q.2.2.2.2.2.2.1, Sl ePr l q.2.2.2.2.2.2.2] rfl ?_
  refine a_take 0 rfl (by kernel_rfl) (by kernel_rfl) (by kernel_rfl) (v_move rfl) (eX (by repeat constructor)) (dd rfl) ?_
  refine a_take 1 rfl (by kernel_rfl) (by kernel_rfl) (by kernel_rfl) (v_move rfl) (eX (by repeat constructor)) (dd rfl) ?_
  refine a_take_on 2 rfl rfl rfl (by kernel_rfl) (by kernel_rfl) (by kernel_rfl) (v_fieldAddrC 0 Tryz.underlying77 rfl ti29 (by decide) rfl) (eX (by repeat constructor)) (dd rfl) ?_
  refine a_take_on 3 rfl rfl rfl (by kernel_rfl) (by kernel_rfl) (by kernel_rfl) (v_load lone29 rfl (hX (by repeat constructor)) rfl) (eX (by repeat constructor)) (dd rfl) ?_
  refine a_take_on 4 rfl rfl rfl (by kernel_rfl) (by kernel_rfl) (by kernel_rfl) (v_load_all ⟨_, Tryz.underlying32⟩ ti32 rfl (hX (by repeat constructor)) rfl) (eX (by repeat constructor)) (dd rfl) ?_
  by_cases g1 : (decide (q.2.2.2.2.2.2.1.length ≤ 8) && filesP ⟨#[]⟩ q.2.2.2.2.2.2.1) = true
  · rw [g1] at hT
    refine a_one_on 5 rfl rfl rfl (by kernel_rfl) (s_call_keep cl94 (hT) (first := []) (cap := []) rfl rfl rfl (dd rfl) (rX (by repeat constructor)) (fun _ => sX) (fun _ _ => a_on (eX (by repeat constructor)) ?_))
    refine a_take 6 rfl (by kernel_rfl) (by kernel_rfl) (by kernel_rfl) (v_pick_t rfl rfl) (eX (by repeat constructor)) (dd rfl) ?_
    refine a_take 7 rfl (by kernel_rfl) (by kernel_rfl) (by kernel_rfl) (v_move rfl) (eX (by repeat constructor)) (dd rfl) ?_
    refine a_know (s := 19) rfl (show _ = Value.bool true from rfl) ?_
    refine a_take_on 8 rfl rfl rfl (by kernel_rfl) (by kernel_rfl) (by kernel_rfl) (v_fieldAddrC 1 Tryz.underlying77 rfl ti75 (by decide) rfl) (eX (by repeat constructor)) (dd rfl) ?_
    refine a_take_on 9 rfl rfl rfl (by kernel_rfl) (by kernel_rfl) (by kernel_rfl) (v_load lone75 rfl (hX (by repeat constructor)) rfl) (eX (by repeat constructor)) (dd rfl) ?_
    refine a_take_on 10 rfl rfl rfl (by kernel_rfl) (by kernel_rfl) (by kernel_rfl) (v_load_all ⟨_, Tryz.underlying32⟩ ti32 rfl (hX (by repeat constructor)) rfl) (eX (by repeat constructor)) (dd rfl) ?_
    refine a_take_on 12 rfl rfl rfl (by kernel_rfl) (by kernel_rfl) (by kernel_rfl) (v_fieldAddrC 0 Tryz.underlying32 rfl ti3 (by decide) rfl) (eX (by repeat constructor)) (dd rfl) ?_
    refine a_take_on 13 rfl rfl rfl (by kernel_rfl) (by kernel_rfl) (by kernel_rfl) (v_load lone3 rfl (hX (by repeat constructor)) rfl) (eX (by repeat constructor)) (dd rfl) ?_
    refine a_take_on 14 rfl rfl rfl (by kernel_rfl) (by kernel_rfl) (by kernel_rfl) (v_buildS (places := [(0, 1), (1, 1), (2, 1), (3, 1), (4, 1), (5, 1), (6, 1), (7, 1)]) (cells := [_, .int .i64 0, .int .i64 0, .string ⟨#[]⟩, .string ⟨#[]⟩, .slice none 0 0, .slice none 0 0, .slice none 0 0]) Tryz.underlying32 ti32 (by kernel_rfl) rfl (by repeat (first | exact PartsC.nil | (apply PartsC.one (by first | exact OneC.lit rfl | exact OneC.sl (hX (by repeat constructor)) )) | (apply PartsC.lit rfl))) rfl) (eX (by repeat constructor)) (dd rfl) ?_
    refine a_one_on 11 rfl rfl rfl (by kernel_rfl) (s_call_keep cl98 (hR) (first := []) (cap := []) rfl rfl rfl (dd rfl) (rX (by repeat constructor)) (fun _ => sX) (fun _ _ => a_on (eX (by repeat constructor)) ?_))
    refine a_one_on 15 rfl rfl rfl (by kernel_rfl) (s_callf cl15 (hS) rfl (dd rfl) (pXs (by repeat constructor)) (fun _ _ => a_on (eX (by repeat constructor)) ?_))
    refine a_take 16 rfl (by kernel_rfl) (by kernel_rfl) (by kernel_rfl) (v_pick_t rfl rfl) (eX (by repeat constructor)) (dd rfl) ?_
    refine a_take 17 rfl (by kernel_rfl) (by kernel_rfl) (by kernel_rfl) (v_assign rfl) (eX (by repeat constructor)) (dd rfl) ?_
    refine a_done (by kernel_rfl) ?_ _
    refine c_ret1 Tryz.func12 rfl rfl fun w O hS => ?_
    exact ⟨(), congrArg Value.bool (decide_eq_decide.2 (by rw [hi, g1]; simp)), trivial, trivial⟩
  · have g2 : (decide (q.2.2.2.2.2.2.1.length ≤ 8) && filesP ⟨#[]⟩ q.2.2.2.2.2.2.1) = false := Bool.eq_false_iff.2 g1
    rw [g2] at hT
    refine a_one_on 5 rfl rfl rfl (by kernel_rfl) (s_call_keep cl94 (hT) (first := []) (cap := []) rfl rfl rfl (dd rfl) (rX (by repeat constructor)) (fun _ => sX) (fun _ _ => a_on (eX (by repeat constructor)) ?_))
    refine a_take 6 rfl (by kernel_rfl) (by kernel_rfl) (by kernel_rfl) (v_pick_t rfl rfl) (eX (by repeat constructor)) (dd rfl) ?_
    refine a_take 7 rfl (by kernel_rfl) (by kernel_rfl) (by kernel_rfl) (v_move rfl) (eX (by repeat constructor)) (dd rfl) ?_
    refine a_know (s := 19) rfl (show _ = Value.bool false from rfl) ?_
    refine a_take_off 8 rfl rfl rfl rfl (by kernel_rfl) (by kernel_rfl) (by kernel_rfl) (eX (by repeat constructor)) (dd rfl) ?_
    refine a_take_off 9 rfl rfl rfl rfl (by kernel_rfl) (by kernel_rfl) (by kernel_rfl) (eX (by repeat constructor)) (dd rfl) ?_
    refine a_take_off 10 rfl rfl rfl rfl (by kernel_rfl) (by kernel_rfl) (by kernel_rfl) (eX (by repeat constructor)) (dd rfl) ?_
    refine a_take_off 11 rfl rfl rfl rfl (by kernel_rfl) (by kernel_rfl) (by kernel_rfl) (eX (by repeat constructor)) (dd rfl) ?_
    refine a_take_off 12 rfl rfl rfl rfl (by kernel_rfl) (by kernel_rfl) (by kernel_rfl) (eX (by repeat constructor)) (dd rfl) ?_
    refine a_take_off 13 rfl rfl rfl rfl (by kernel_rfl) (by kernel_rfl) (by kernel_rfl) (eX (by repeat constructor)) (dd rfl) ?_
    refine a_take_off 14 rfl rfl rfl rfl (by kernel_rfl) (by kernel_rfl) (by kernel_rfl) (eX (by repeat constructor)) (dd rfl) ?_
    refine a_take_off 15 rfl rfl rfl rfl (by kernel_rfl) (by kernel_rfl) (by kernel_rfl) (eX (by repeat constructor)) (dd rfl) ?_
    refine a_take 16 rfl (by kernel_rfl) (by kernel_rfl) (by kernel_rfl) (v_pick_f rfl rfl) (eX (by repeat constructor)) (dd rfl) ?_
    refine a_take 17 rfl (by kernel_rfl) (by kernel_rfl) (by kernel_rfl) (v_assign rfl) (eX (by repeat constructor)) (dd rfl) ?_
    refine a_done (by kernel_rfl) ?_ _
    refine c_ret1 Tryz.func12 rfl rfl fun w O hS => ?_
    exact ⟨(), congrArg Value.bool (decide_eq_false (by rw [hi, g2]; simp)).symm, trivial, trivial⟩
set_option maxRecDepth 100000 in
theorem right5_con (q : Rq9) (d f l : Value) (hk : q.1 = 5) (hq : FineQ q) : Con Tryz.prog 12 [.agg #[.int .i64 q.1, .int .i64 q.2.1, .int .i64 q.2.2.1, .string q.2.2.2.1, .string q.2.2.2.2.1, d, f, l]] [Sl (eInt .i64) d q.2.2.2.2.2.1, Sl eStr f q.2.2.2.2.2.2.1, Sl ePr l q.2.2.2.2.2.2.2] (γ := Unit) (fun _ => .bool (decide (RightQ q))) (fun _ => True) (fun _ => []) := by
  have hlk : ∀ b1 b2, Go.SL.look (kindsM b1 b2) q.1 = some (.agg #[fnV 99, fnC 100 b1]) := fun b1 b2 => by rw [hk]; exact look5 b1 b2
  have hT := tShelve_con q d f l hq.name hq.files.1 hq.files.2
  have hR := rShelve_con q d f l
  have hi := right_iff5 hk
  have hS := sameReq_con (q.1, q.2.1, q.2.2.1, ⟨#[]⟩, q.2.2.2.2.1, q.2.2.2.2.2.1, [], q.2.2.2.2.2.2.2) (zeroQ q.1) (d) (.slice none 0 0) (l) (.slice none 0 0) (.slice none 0 0) (.slice none 0 0) ⟨hq.size.1, Nat.zero_le _, hq.size.2.2⟩ (zeroQ_size _)
  dsimp only at hS
  refine con_of Tryz.func12 rfl (dd rfl) fun w0 O0 => ?_
  refine c_seq ?_
  refine c_region ?_
  refine o_step (s_box rfl (dd rfl) (fun b1 => ?_))
  refine o_val (v_assign rfl) (dd rfl) ?_
  refine o_nil ?_
  refine c_seq ?_
  refine c_joinR (γ := Nat × Nat × Nat × Nat) [(1, _), (2, _)] (fun _ => True) (fun g => [(3, ptr g.1), (4, .bool true)]) (fun g => [Blk g.1 77 [fnV 99, fnC 100 g.2.2.1], Blk b1 32 [.int .i64 q.1, .int .i64 q.2.1, .int .i64 q.2.2.1, .string q.2.2.2.1, .string q.2.2.2.2.1, d, f, l], Sl (eInt .i64) d q.2.2.2.2.2.1, Sl eStr f q.2.2.2.2.2.2.1, Sl ePr l q.2.2.2.2.2.2.2, Blk g.2.2.1 75 [fnV 81], Blk g.2.2.2 75 [fnV 82]]) (by repeat (first | exact trivial | refine ⟨rfl, ?_⟩)) ?_ ?_
  rotate_left
  · intro MEET
    skip
    refine c_held [BlkR b1 32 [.int .i64 q.1, .int .i64 q.2.1, .int .i64 q.2.2.1, .string q.2.2.2.1, .string q.2.2.2.2.1, d, f, l], Sl (eInt .i64) d q.2.2.2.2.2.1, Sl eStr f q.2.2.2.2.2.2.1, Sl ePr l q.2.2.2.2.2.2.2] rfl ?_
    refine a_take 1 rfl (by kernel_rfl) (by kernel_rfl) (by kernel_rfl) (v_fieldAddrC 0 Tryz.underlying32 rfl ti3 (by decide) rfl) (eX (by repeat constructor)) (dd rfl) ?_
    refine a_take 2 rfl (by kernel_rfl) (by kernel_rfl) (by kernel_rfl) (v_load lone3 rfl (hX (by repeat constructor)) rfl) (eX (by repeat constructor)) (dd rfl) ?_
    refine a_two 0 7 rfl rfl (by kernel_rfl) ?_ ?_
    · skip
      refine s_callf cl39 (kinds_con) rfl (dd rfl) (pXs (by repeat constructor)) (fun g _ => a_on (eX (by repeat constructor)) ?_)
      refine a_two 3 7 rfl rfl (by kernel_rfl) ?_ ?_
      · skip
        refine s_val (v_lookupS kInt Tryz.underlying79 Tryz.underlying3 ti77 rfl rfl (hX (by repeat constructor)) (hlk g.2.1 g.2.2)) (dd rfl) (a_on (eX (by repeat constructor)) ?_)
        refine a_take 4 rfl (by kernel_rfl) (by kernel_rfl) (by kernel_rfl) (v_move rfl) (eX (by repeat constructor)) (dd rfl) ?_
        refine a_take 5 rfl (by kernel_rfl) (by kernel_rfl) (by kernel_rfl) (v_extract rfl rfl) (eX (by repeat constructor)) (dd rfl) ?_
        refine a_take 6 rfl (by kernel_rfl) (by kernel_rfl) (by kernel_rfl) (v_extract rfl rfl) (eX (by repeat constructor)) (dd rfl) ?_
        refine a_one 7 rfl (by kernel_rfl) (s_alloc ti77 (dd rfl) (fun b3 => a_on (eX (by repeat constructor)) ?_))
        refine a_one 8 rfl (by kernel_rfl) (s_store_all ti77 rfl rfl (by first | exact CellsV.lit rfl | exact CellsV.one (by first | exact OneC.lit rfl | exact OneC.sl (hX (by repeat constructor)) )) (by repeat (first | exact OneAll.nil | (refine OneAll.cons ?_ ?_; · first | exact OneC.lit rfl | exact OneC.sl (hX (by repeat constructor)) ) | exact OneAll.rd (hX (by repeat constructor)))) rfl (pB (by repeat constructor)) rfl (a_on (eX (by repeat constructor)) ?_))
        refine a_take 9 rfl (by kernel_rfl) (by kernel_rfl) (by kernel_rfl) (v_assign rfl) (eX (by repeat constructor)) (dd rfl) ?_
        refine a_done (by kernel_rfl) ?_ _
        refine c_use (MEET ((b3, g)) (trivial)) (by repeat (first | exact trivial | refine ⟨rfl, ?_⟩)) (eX (by repeat constructor))
      · skip
        refine s_alloc ti77 (dd rfl) (fun b3 => a_on (eX (by repeat constructor)) ?_)
        refine a_one 3 rfl (by kernel_rfl) (s_val (v_lookupS kInt Tryz.underlying79 Tryz.underlying3 ti77 rfl rfl (hX (by repeat constructor)) (hlk g.2.1 g.2.2)) (dd rfl) (a_on (eX (by repeat constructor)) ?_))
        refine a_take 4 rfl (by kernel_rfl) (by kernel_rfl) (by kernel_rfl) (v_move rfl) (eX (by repeat constructor)) (dd rfl) ?_
        refine a_take 5 rfl (by kernel_rfl) (by kernel_rfl) (by kernel_rfl) (v_extract rfl rfl) (eX (by repeat constructor)) (dd rfl) ?_
        refine a_take 6 rfl (by kernel_rfl) (by kernel_rfl) (by kernel_rfl) (v_extract rfl rfl) (eX (by repeat constructor)) (dd rfl) ?_
        refine a_one 8 rfl (by kernel_rfl) (s_store_all ti77 rfl rfl (by first | exact CellsV.lit rfl | exact CellsV.one (by first | exact OneC.lit rfl | exact OneC.sl (hX (by repeat constructor)) )) (by repeat (first | exact OneAll.nil | (refine OneAll.cons ?_ ?_; · first | exact OneC.lit rfl | exact OneC.sl (hX (by repeat constructor)) ) | exact OneAll.rd (hX (by repeat constructor)))) rfl (pB (by repeat constructor)) rfl (a_on (eX (by repeat constructor)) ?_))
        refine a_take 9 rfl (by kernel_rfl) (by kernel_rfl) (by kernel_rfl) (v_assign rfl) (eX (by repeat constructor)) (dd rfl) ?_
        refine a_done (by kernel_rfl) ?_ _
        refine c_use (MEET ((b3, g)) (trivial)) (by repeat (first | exact trivial | refine ⟨rfl, ?_⟩)) (eX (by repeat constructor))
    · skip
      refine s_alloc ti77 (dd rfl) (fun b3 => a_on (eX (by repeat constructor)) ?_)
      refine a_one 0 rfl (by kernel_rfl) (s_callf cl39 (kinds_con) rfl (dd rfl) (pXs (by repeat constructor)) (fun g _ => a_on (eX (by repeat constructor)) ?_))
      refine a_one 3 rfl (by kernel_rfl) (s_val (v_lookupS kInt Tryz.underlying79 Tryz.underlying3 ti77 rfl rfl (hX (by repeat constructor)) (hlk g.2.1 g.2.2)) (dd rfl) (a_on (eX (by repeat constructor)) ?_))
      refine a_take 4 rfl (by kernel_rfl) (by kernel_rfl) (by kernel_rfl) (v_move rfl) (eX (by repeat constructor)) (dd rfl) ?_
      refine a_take 5 rfl (by kernel_rfl) (by kernel_rfl) (by kernel_rfl) (v_extract rfl rfl) (eX (by repeat constructor)) (dd rfl) ?_
      refine a_take 6 rfl (by kernel_rfl) (by kernel_rfl) (by kernel_rfl) (v_extract rfl rfl) (eX (by repeat constructor)) (dd rfl) ?_
      refine a_one 8 rfl (by kernel_rfl) (s_store_all ti77 rfl rfl (by first | exact CellsV.lit rfl | exact CellsV.one (by first | exact OneC.lit rfl | exact OneC.sl (hX (by repeat constructor)) )) (by repeat (first | exact OneAll.nil | (refine OneAll.cons ?_ ?_; · first | exact OneC.lit rfl | exact OneC.sl (hX (by repeat constructor)) ) | exact OneAll.rd (hX (by repeat constructor)))) rfl (pB (by repeat constructor)) rfl (a_on (eX (by repeat constructor)) ?_))
      refine a_take 9 rfl (by kernel_rfl) (by kernel_rfl) (by kernel_rfl) (v_assign rfl) (eX (by repeat constructor)) (dd rfl) ?_
      refine a_done (by kernel_rfl) ?_ _
      refine c_use (MEET ((b3, g)) (trivial)) (by repeat (first | exact trivial | refine ⟨rfl, ?_⟩)) (eX (by repeat constructor))
  rintro ⟨b3, bm, bn, bg⟩ -
  dsimp only [List.cons_append, List.nil_append]
  refine c_seq ?_
  refine c_held [BlkR b3 77 [fnV 99, fnC 100 bn], BlkR b1 32 [.int .i64 q.1, .int .i64 q.2.1, .int .i64 q.2.2.1, .string q.2.2.2.1, .string q.2.2.2.2.1, d, f, l], Sl (eInt .i64) d q.2.2.2.2.2.1, Sl eStr f q.2.2.2.2.2.2.1, Sl ePr l q.2.2.2.2.2.2.2, BlkR bn 75 [fnV 81]] rfl ?_
  refine a_take 0 rfl (by kernel_rfl) (by kernel_rfl) (by kernel_rfl) (v_move rfl) (eX (by repeat constructor)) (dd rfl) ?_
  refine a_take 1 rfl (by kernel_rfl) (by kernel_rfl) (by kernel_rfl) (v_move rfl) (eX (by repeat constructor)) (dd rfl) ?_
  refine a_take_on 2 rfl rfl rfl (by kernel_rfl) (by kernel_rfl) (by kernel_rfl) (v_fieldAddrC 0 Tryz.underlying77 rfl ti29 (by decide) rfl) (eX (by repeat constructor)) (dd rfl) ?_
  refine a_take_on 3 rfl rfl rfl (by kernel_rfl) (by kernel_rfl) (by kernel_rfl) (v_load lone29 rfl (hX (by repeat constructor)) rfl) (eX (by repeat constructor)) (dd rfl) ?_
  refine a_take_on 4 rfl rfl rfl (by kernel_rfl) (by kernel_rfl) (by kernel_rfl) (v_load_all ⟨_, Tryz.underlying32⟩ ti32 rfl (hX (by repeat constructor)) rfl) (eX (by repeat constructor)) (dd rfl) ?_
  by_cases g1 : (namedP q.2.2.2.1 && (decide (q.2.2.2.2.2.2.1.length ≤ 8) && filesP ⟨#[]⟩ q.2.2.2.2.2.2.1)) = true
  · rw [g1] at hT
    refine a_one_on 5 rfl rfl rfl (by kernel_rfl) (s_call_keep cl99 (hT) (first := []) (cap := []) rfl rfl rfl (dd rfl) (rX (by repeat constructor)) (fun _ => sX) (fun _ _ => a_on (eX (by repeat constructor)) ?_))
    refine a_take 6 rfl (by kernel_rfl) (by kernel_rfl) (by kernel_rfl) (v_pick_t rfl rfl) (eX (by repeat constructor)) (dd rfl) ?_
    refine a_take 7 rfl (by kernel_rfl) (by kernel_rfl) (by kernel_rfl) (v_move rfl) (eX (by repeat constructor)) (dd rfl) ?_
    refine a_know (s := 19) rfl (show _ = Value.bool true from rfl) ?_
    refine a_take_on 8 rfl rfl rfl (by kernel_rfl) (by kernel_rfl) (by kernel_rfl) (v_fieldAddrC 1 Tryz.underlying77 rfl ti75 (by decide) rfl) (eX (by repeat constructor)) (dd rfl) ?_
    refine a_take_on 9 rfl rfl rfl (by kernel_rfl) (by kernel_rfl) (by kernel_rfl) (v_load lone75 rfl (hX (by repeat constructor)) rfl) (eX (by repeat constructor)) (dd rfl) ?_
    refine a_take_on 10 rfl rfl rfl (by kernel_rfl) (by kernel_rfl) (by kernel_rfl) (v_load_all ⟨_, Tryz.underlying32⟩ ti32 rfl (hX (by repeat constructor)) rfl) (eX (by repeat constructor)) (dd rfl) ?_
    refine a_take_on 12 rfl rfl rfl (by kernel_rfl) (by kernel_rfl) (by kernel_rfl) (v_fieldAddrC 0 Tryz.underlying32 rfl ti3 (by decide) rfl) (eX (by repeat constructor)) (dd rfl) ?_
    refine a_take_on 13 rfl rfl rfl (by kernel_rfl) (by kernel_rfl) (by kernel_rfl) (v_load lone3 rfl (hX (by repeat constructor)) rfl) (eX (by repeat constructor)) (dd rfl) ?_
    refine a_take_on 14 rfl rfl rfl (by kernel_rfl) (by kernel_rfl) (by kernel_rfl) (v_buildS (places := [(0, 1), (1, 1), (2, 1), (3, 1), (4, 1), (5, 1), (6, 1), (7, 1)]) (cells := [_, .int .i64 0, .int .i64 0, .string ⟨#[]⟩, .string ⟨#[]⟩, .slice none 0 0, .slice none 0 0, .slice none 0 0]) Tryz.underlying32 ti32 (by kernel_rfl) rfl (by repeat (first | exact PartsC.nil | (apply PartsC.one (by first | exact OneC.lit rfl | exact OneC.sl (hX (by repeat constructor)) )) | (apply PartsC.lit rfl))) rfl) (eX (by repeat constructor)) (dd rfl) ?_
    refine a_one_on 11 rfl rfl rfl (by kernel_rfl) (s_call_keep cl100 (hR bn) (first := []) (cap := [ptr1 bn]) rfl rfl rfl (dd rfl) (rX (by repeat constructor)) (fun _ => sX) (fun _ _ => a_on (eX (by repeat constructor)) ?_))
    refine a_one_on 15 rfl rfl rfl (by kernel_rfl) (s_callf cl15 (hS) rfl (dd rfl) (pXs (by repeat constructor)) (fun _ _ => a_on (eX (by repeat constructor)) ?_))
    refine a_take 16 rfl (by kernel_rfl) (by kernel_rfl) (by kernel_rfl) (v_pick_t rfl rfl) (eX (by repeat constructor)) (dd rfl) ?_
    refine a_take 17 rfl (by kernel_rfl) (by kernel_rfl) (by kernel_rfl) (v_assign rfl) (eX (by repeat constructor)) (dd rfl) ?_
    refine a_done (by kernel_rfl) ?_ _
    refine c_ret1 Tryz.func12 rfl rfl fun w O hS => ?_
    exact ⟨(), congrArg Value.bool (decide_eq_decide.2 (by rw [hi, g1]; simp)), trivial, trivial⟩
  · have g2 : (namedP q.2.2.2.1 && (decide (q.2.2.2.2.2.2.1.length ≤ 8) && filesP ⟨#[]⟩ q.2.2.2.2.2.2.1)) = false := Bool.eq_false_iff.2 g1
    rw [g2] at hT
    refine a_one_on 5 rfl rfl rfl (by kernel_rfl) (s_call_keep cl99 (hT) (first := []) (cap := []) rfl rfl rfl (dd rfl) (rX (by repeat constructor)) (fun _ => sX) (fun _ _ => a_on (eX (by repeat constructor)) ?_))
    refine a_take 6 rfl (by kernel_rfl) (by kernel_rfl) (by kernel_rfl) (v_pick_t rfl rfl) (eX (by repeat constructor)) (dd rfl) ?_
    refine a_take 7 rfl (by kernel_rfl) (by kernel_rfl) (by kernel_rfl) (v_move rfl) (eX (by repeat constructor)) (dd rfl) ?_
    refine a_know (s := 19) rfl (show _ = Value.bool false from rfl) ?_
    refine a_take_off 8 rfl rfl rfl rfl (by kernel_rfl) (by kernel_rfl) (by kernel_rfl) (eX (by repeat constructor)) (dd rfl) ?_
    refine a_take_off 9 rfl rfl rfl rfl (by kernel_rfl) (by kernel_rfl) (by kernel_rfl) (eX (by repeat constructor)) (dd rfl) ?_
    refine a_take_off 10 rfl rfl rfl rfl (by kernel_rfl) (by kernel_rfl) (by kernel_rfl) (eX (by repeat constructor)) (dd rfl) ?_
    refine a_take_off 11 rfl rfl rfl rfl (by kernel_rfl) (by kernel_rfl) (by kernel_rfl) (eX (by repeat constructor)) (dd rfl) ?_
    refine a_take_off 12 rfl rfl rfl rfl (by kernel_rfl) (by kernel_rfl) (by kernel_rfl) (eX (by repeat constructor)) (dd rfl) ?_
    refine a_take_off 13 rfl rfl rfl rfl (by kernel_rfl) (by kernel_rfl) (by kernel_rfl) (eX (by repeat constructor)) (dd rfl) ?_
    refine a_take_off 14 rfl rfl rfl rfl (by kernel_rfl) (by kernel_rfl) (by kernel_rfl) (eX (by repeat constructor)) (dd rfl) ?_
    refine a_take_off 15 rfl rfl rfl rfl (by kernel_rfl) (by kernel_rfl) (by kernel_rfl) (eX (by repeat constructor)) (dd rfl) ?_
    refine a_take 16 rfl (by kernel_rfl) (by kernel_rfl) (by kernel_rfl) (v_pick_f rfl rfl) (eX (by repeat constructor)) (dd rfl) ?_
    refine a_take 17 rfl (by kernel_rfl) (by kernel_rfl) (by kernel_rfl) (v_assign rfl) (eX (by repeat constructor)) (dd rfl) ?_
    refine a_done (by kernel_rfl) ?_ _
    refine c_ret1 Tryz.func12 rfl rfl fun w O hS => ?_
    exact ⟨(), congrArg Value.bool (decide_eq_false (by rw [hi, g2]; simp)).symm, trivial, trivial⟩
set_option maxRecDepth 100000 in
theorem right6_con (q : Rq9) (d f l : Value) (hk : q.1 = 6) (hq : FineQ q) : Con Tryz.prog 12 [.agg #[.int .i64 q.1, .int .i64 q.2.1, .int .i64 q.2.2.1, .string q.2.2.2.1, .string q.2.2.2.2.1, d, f, l]] [Sl (eInt .i64) d q.2.2.2.2.2.1, Sl eStr f q.2.2.2.2.2.2.1, Sl ePr l q.2.2.2.2.2.2.2] (γ := Unit) (fun _ => .bool (decide (RightQ q))) (fun _ => True) (fun _ => []) := by
  have hlk : ∀ b1 b2, Go.SL.look (kindsM b1 b2) q.1 = some (.agg #[fnV 85, fnV 81]) := fun b1 b2 => by rw [hk]; exact look6 b1 b2
  have hT := tNamed_con q d f l hq.name
  have hR := rName_con q d f l
  have hi := right_iff6 hk
  have hS := sameReq_con (q.1, q.2.1, q.2.2.1, ⟨#[]⟩, q.2.2.2.2.1, q.2.2.2.2.2.1, q.2.2.2.2.2.2.1, q.2.2.2.2.2.2.2) (zeroQ q.1) (d) (f) (l) (.slice none 0 0) (.slice none 0 0) (.slice none 0 0) ⟨hq.size.1, hq.size.2.1, hq.size.2.2⟩ (zeroQ_size _)
  dsimp only at hS
  refine con_of Tryz.func12 rfl (dd rfl) fun w0 O0 => ?_
  refine c_seq ?_
  refine c_region ?_
  refine o_step (s_box rfl (dd rfl) (fun b1 => ?_))
  refine o_val (v_assign rfl) (dd rfl) ?_
  refine o_nil ?_
  refine c_seq ?_
  refine c_joinR (γ := Nat × Nat × Nat × Nat) [(1, _), (2, _)] (fun _ => True) (fun g => [(3, ptr g.1), (4, .bool true)]) (fun g => [Blk g.1 77 [fnV 85, fnV 81], Blk b1 32 [.int .i64 q.1, .int .i64 q.2.1, .int .i64 q.2.2.1, .string q.2.2.2.1, .string q.2.2.2.2.1, d, f, l], Sl (eInt .i64) d q.2.2.2.2.2.1, Sl eStr f q.2.2.2.2.2.2.1, Sl ePr l q.2.2.2.2.2.2.2, Blk g.2.2.1 75 [fnV 81], Blk g.2.2.2 75 [fnV 82]]) (by repeat (first | exact trivial | refine ⟨rfl, ?_⟩)) ?_ ?_
  rotate_left
  · intro MEET
    skip
    refine c_held [BlkR b1 32 [.int .i64 q.1, .int .i64 q.2.1, .int .i64 q.2.2.1, .string q.2.2.2.1, .string q.2.2.2.2.1, d, f, l], Sl (eInt .i64) d q.2.2.2.2.2.1, Sl eStr f q.2.2.2.2.2.2.1, Sl ePr l q.2.2.2.2.2.2.2] rfl ?_
    refine a_take 1 rfl (by kernel_rfl) (by kernel_rfl) (by kernel_rfl) (v_fieldAddrC 0 Tryz.underlying32 rfl ti3 (by decide) rfl) (eX (by repeat constructor)) (dd rfl) ?_
    refine a_take 2 rfl (by kernel_rfl) (by kernel_rfl) (by kernel_rfl) (v_load lone3 rfl (hX (by repeat constructor)) rfl) (eX (by repeat constructor)) (dd rfl) ?_
    refine a_two 0 7 rfl rfl (by kernel_rfl) ?_ ?_
    · skip
      refine s_callf cl39 (kinds_con) rfl (dd rfl) (pXs (by repeat constructor)) (fun g _ => a_on (eX (by repeat constructor)) ?_)
      refine a_two 3 7 rfl rfl (by kernel_rfl) ?_ ?_
      · skip
        refine s_val (v_lookupS kInt Tryz.underlying79 Tryz.underlying3 ti77 rfl rfl (hX (by repeat constructor)) (hlk g.2.1 g.2.2)) (dd rfl) (a_on (eX (by repeat constructor)) ?_)
        refine a_take 4 rfl (by kernel_rfl) (by kernel_rfl) (by kernel_rfl) (v_move rfl) (eX (by repeat constructor)) (dd rfl) ?_
        refine a_take 5 rfl (by kernel_rfl) (by kernel_rfl) (by kernel_rfl) (v_extract rfl rfl) (eX (by repeat constructor)) (dd rfl) ?_
        refine a_take 6 rfl (by kernel_rfl) (by kernel_rfl) (by kernel_rfl) (v_extract rfl rfl) (eX (by repeat constructor)) (dd rfl) ?_
        refine a_one 7 rfl (by kernel_rfl) (s_alloc ti77 (dd rfl) (fun b3 => a_on (eX (by repeat constructor)) ?_))
        refine a_one 8 rfl (by kernel_rfl) (s_store_all ti77 rfl rfl (by first | exact CellsV.lit rfl | exact CellsV.one (by first | exact OneC.lit rfl | exact OneC.sl (hX (by repeat constructor)) )) (by repeat (first | exact OneAll.nil | (refine OneAll.cons ?_ ?_; · first | exact OneC.lit rfl | exact OneC.sl (hX (by repeat constructor)) ) | exact OneAll.rd (hX (by repeat constructor)))) rfl (pB (by repeat constructor)) rfl (a_on (eX (by repeat constructor)) ?_))
        refine a_take 9 rfl (by kernel_rfl) (by kernel_rfl) (by kernel_rfl) (v_assign rfl) (eX (by repeat constructor)) (dd rfl) ?_
        refine a_done (by kernel_rfl) ?_ _
        refine c_use (MEET ((b3, g)) (trivial)) (by repeat (first | exact trivial | refine ⟨rfl, ?_⟩)) (eX (by repeat constructor))
      · skip
        refine s_alloc ti77 (dd rfl) (fun b3 => a_on (eX (by repeat constructor)) ?_)
        refine a_one 3 rfl (by kernel_rfl) (s_val (v_lookupS kInt Tryz.underlying79 Tryz.underlying3 ti77 rfl rfl (hX (by repeat constructor)) (hlk g.2.1 g.2.2)) (dd rfl) (a_on (eX (by repeat constructor)) ?_))
        refine a_take 4 rfl (by kernel_rfl) (by kernel_rfl) (by kernel_rfl) (v_move rfl) (eX (by repeat constructor)) (dd rfl) ?_
        refine a_take 5 rfl (by kernel_rfl) (by kernel_rfl) (by kernel_rfl) (v_extract rfl rfl) (eX (by repeat constructor)) (dd rfl) ?_
        refine a_take 6 rfl (by kernel_rfl) (by kernel_rfl) (by kernel_rfl) (v_extract rfl rfl) (eX (by repeat constructor)) (dd rfl) ?_
        refine a_one 8 rfl (by kernel_rfl) (s_store_all ti77 rfl rfl (by first | exact CellsV.lit rfl | exact CellsV.one (by first | exact OneC.lit rfl | exact OneC.sl (hX (by repeat constructor)) )) (by repeat (first | exact OneAll.nil | (refine OneAll.cons ?_ ?_; · first | exact OneC.lit rfl | exact OneC.sl (hX (by repeat constructor)) ) | exact OneAll.rd (hX (by repeat constructor)))) rfl (pB (by repeat constructor)) rfl (a_on (eX (by repeat constructor)) ?_))
        refine a_take 9 rfl (by kernel_rfl) (by kernel_rfl) (by kernel_rfl) (v_assign rfl) (eX (by repeat constructor)) (dd rfl) ?_
        refine a_done (by kernel_rfl) ?_ _
        refine c_use (MEET ((b3, g)) (trivial)) (by repeat (first | exact trivial | refine ⟨rfl, ?_⟩)) (eX (by repeat constructor))
    · skip
      refine s_alloc ti77 (dd rfl) (fun b3 => a_on (eX (by repeat constructor)) ?_)
      refine a_one 0 rfl (by kernel_rfl) (s_callf cl39 (kinds_con) rfl (dd rfl) (pXs (by repeat constructor)) (fun g _ => a_on (eX (by repeat constructor)) ?_))
      refine a_one 3 rfl (by kernel_rfl) (s_val (v_lookupS kInt Tryz.underlying79 Tryz.underlying3 ti77 rfl rfl (hX (by repeat constructor)) (hlk g.2.1 g.2.2)) (dd rfl) (a_on (eX (by repeat constructor)) ?_))
      refine a_take 4 rfl (by kernel_rfl) (by kernel_rfl) (by kernel_rfl) (v_move rfl) (eX (by repeat constructor)) (dd rfl) ?_
      refine a_take 5 rfl (by kernel_rfl) (by kernel_rfl) (by kernel_rfl) (v_extract rfl rfl) (eX (by repeat constructor)) (dd rfl) ?_
      refine a_take 6 rfl (by kernel_rfl) (by kernel_rfl) (by kernel_rfl) (v_extract rfl rfl) (eX (by repeat constructor)) (dd rfl) ?_
      refine a_one 8 rfl (by kernel_rfl) (s_store_all ti77 rfl rfl (by first | exact CellsV.lit rfl | exact CellsV.one (by first | exact OneC.lit rfl | exact OneC.sl (hX (by repeat constructor)) )) (by repeat (first | exact OneAll.nil | (refine OneAll.cons ?_ ?_; · first | exact OneC.lit rfl | exact OneC.sl (hX (by repeat constructor)) ) | exact OneAll.rd (hX (by repeat constructor)))) rfl (pB (by repeat constructor)) rfl (a_on (eX (by repeat constructor)) ?_))
      refine a_take 9 rfl (by kernel_rfl) (by kernel_rfl) (by kernel_rfl) (v_assign rfl) (eX (by repeat constructor)) (dd rfl) ?_
      refine a_done (by kernel_rfl) ?_ _
      refine c_use (MEET ((b3, g)) (trivial)) (by repeat (first | exact trivial | refine ⟨rfl, ?_⟩)) (eX (by repeat constructor))
  rintro ⟨b3, bm, bn, bg⟩ -
  dsimp only [List.cons_append, List.nil_append]
  refine c_seq ?_
  refine c_held [BlkR b3 77 [fnV 85, fnV 81], BlkR b1 32 [.int .i64 q.1, .int .i64 q.2.1, .int .i64 q.2.2.1, .string q.2.2.2.1, .string q.2.2.2.2.1, d, f, l], Sl (eInt .i64) d q.2.2.2.2.2.1, Sl eStr f q.2.2.2.2.2.2.1, Sl ePr l q.2.2.2.2.2.2.2] rfl ?_
  refine a_take 0 rfl (by kernel_rfl) (by kernel_rfl) (by kernel_rfl) (v_move rfl) (eX (by repeat constructor)) (dd rfl) ?_
  refine a_take 1 rfl (by kernel_rfl) (by kernel_rfl) (by kernel_rfl) (v_move rfl) (eX (by repeat constructor)) (dd rfl) ?_
  refine a_take_on 2 rfl rfl rfl (by kernel_rfl) (by kernel_rfl) (by kernel_rfl) (v_fieldAddrC 0 Tryz.underlying77 rfl ti29 (by decide) rfl) (eX (by repeat constructor)) (dd rfl) ?_
  refine a_take_on 3 rfl rfl rfl (by kernel_rfl) (by kernel_rfl) (by kernel_rfl) (v_load lone29 rfl (hX (by repeat constructor)) rfl) (eX (by repeat constructor)) (dd rfl) ?_
  refine a_take_on 4 rfl rfl rfl (by kernel_rfl) (by kernel_rfl) (by kernel_rfl) (v_load_all ⟨_, Tryz.underlying32⟩ ti32 rfl (hX (by repeat constructor)) rfl) (eX (by repeat constructor)) (dd rfl) ?_
  by_cases g1 : (namedP q.2.2.2.1) = true
  · rw [g1] at hT
    refine a_one_on 5 rfl rfl rfl (by kernel_rfl) (s_call_keep cl85 (hT) (first := []) (cap := []) rfl rfl rfl (dd rfl) (rX (by repeat constructor)) (fun _ => sX) (fun _ _ => a_on (eX (by repeat constructor)) ?_))
    refine a_take 6 rfl (by kernel_rfl) (by kernel_rfl) (by kernel_rfl) (v_pick_t rfl rfl) (eX (by repeat constructor)) (dd rfl) ?_
    refine a_take 7 rfl (by kernel_rfl) (by kernel_rfl) (by kernel_rfl) (v_move rfl) (eX (by repeat constructor)) (dd rfl) ?_
    refine a_know (s := 19) rfl (show _ = Value.bool true from rfl) ?_
    refine a_take_on 8 rfl rfl rfl (by kernel_rfl) (by kernel_rfl) (by kernel_rfl) (v_fieldAddrC 1 Tryz.underlying77 rfl ti75 (by decide) rfl) (eX (by repeat constructor)) (dd rfl) ?_
    refine a_take_on 9 rfl rfl rfl (by kernel_rfl) (by kernel_rfl) (by kernel_rfl) (v_load lone75 rfl (hX (by repeat constructor)) rfl) (eX (by repeat constructor)) (dd rfl) ?_
    refine a_take_on 10 rfl rfl rfl (by kernel_rfl) (by kernel_rfl) (by kernel_rfl) (v_load_all ⟨_, Tryz.underlying32⟩ ti32 rfl (hX (by repeat constructor)) rfl) (eX (by repeat constructor)) (dd rfl) ?_
    refine a_take_on 12 rfl rfl rfl (by kernel_rfl) (by kernel_rfl) (by kernel_rfl) (v_fieldAddrC 0 Tryz.underlying32 rfl ti3 (by decide) rfl) (eX (by repeat constructor)) (dd rfl) ?_
    refine a_take_on 13 rfl rfl rfl (by kernel_rfl) (by kernel_rfl) (by kernel_rfl) (v_load lone3 rfl (hX (by repeat constructor)) rfl) (eX (by repeat constructor)) (dd rfl) ?_
    refine a_take_on 14 rfl rfl rfl (by kernel_rfl) (by kernel_rfl) (by kernel_rfl) (v_buildS (places := [(0, 1), (1, 1), (2, 1), (3, 1), (4, 1), (5, 1), (6, 1), (7, 1)]) (cells := [_, .int .i64 0, .int .i64 0, .string ⟨#[]⟩, .string ⟨#[]⟩, .slice none 0 0, .slice none 0 0, .slice none 0 0]) Tryz.underlying32 ti32 (by kernel_rfl) rfl (by repeat (first | exact PartsC.nil | (apply PartsC.one (by first | exact OneC.lit rfl | exact OneC.sl (hX (by repeat constructor)) )) | (apply PartsC.lit rfl))) rfl) (eX (by repeat constructor)) (dd rfl) ?_
    refine a_one_on 11 rfl rfl rfl (by kernel_rfl) (s_call_keep cl81 (hR) (first := []) (cap := []) rfl rfl rfl (dd rfl) (rX (by repeat constructor)) (fun _ => sX) (fun _ _ => a_on (eX (by repeat constructor)) ?_))
    refine a_one_on 15 rfl rfl rfl (by kernel_rfl) (s_callf cl15 (hS) rfl (dd rfl) (pXs (by repeat constructor)) (fun _ _ => a_on (eX (by repeat constructor)) ?_))
    refine a_take 16 rfl (by kernel_rfl) (by kernel_rfl) (by kernel_rfl) (v_pick_t rfl rfl) (eX (by repeat constructor)) (dd rfl) ?_
    refine a_take 17 rfl (by kernel_rfl) (by kernel_rfl) (by kernel_rfl) (v_assign rfl) (eX (by repeat constructor)) (dd rfl) ?_
    refine a_done (by kernel_rfl) ?_ _
    refine c_ret1 Tryz.func12 rfl rfl fun w O hS => ?_
    exact ⟨(), congrArg Value.bool (decide_eq_decide.2 (by rw [hi, g1]; simp)), trivial, trivial⟩
  · have g2 : (namedP q.2.2.2.1) = false := Bool.eq_false_iff.2 g1
    rw [g2] at hT
    refine a_one_on 5 rfl rfl rfl (by kernel_rfl) (s_call_keep cl85 (hT) (first := []) (cap := []) rfl rfl rfl (dd rfl) (rX (by repeat constructor)) (fun _ => sX) (fun _ _ => a_on (eX (by repeat constructor)) ?_))
    refine a_take 6 rfl (by kernel_rfl) (by kernel_rfl) (by kernel_rfl) (v_pick_t rfl rfl) (eX (by repeat constructor)) (dd rfl) ?_
    refine a_take 7 rfl (by kernel_rfl) (by kernel_rfl) (by kernel_rfl) (v_move rfl) (eX (by repeat constructor)) (dd rfl) ?_
    refine a_know (s := 19) rfl (show _ = Value.bool false from rfl) ?_
    refine a_take_off 8 rfl rfl rfl rfl (by kernel_rfl) (by kernel_rfl) (by kernel_rfl) (eX (by repeat constructor)) (dd rfl) ?_
    refine a_take_off 9 rfl rfl rfl rfl (by kernel_rfl) (by kernel_rfl) (by kernel_rfl) (eX (by repeat constructor)) (dd rfl) ?_
    refine a_take_off 10 rfl rfl rfl rfl (by kernel_rfl) (by kernel_rfl) (by kernel_rfl) (eX (by repeat constructor)) (dd rfl) ?_
    refine a_take_off 11 rfl rfl rfl rfl (by kernel_rfl) (by kernel_rfl) (by kernel_rfl) (eX (by repeat constructor)) (dd rfl) ?_
    refine a_take_off 12 rfl rfl rfl rfl (by kernel_rfl) (by kernel_rfl) (by kernel_rfl) (eX (by repeat constructor)) (dd rfl) ?_
    refine a_take_off 13 rfl rfl rfl rfl (by kernel_rfl) (by kernel_rfl) (by kernel_rfl) (eX (by repeat constructor)) (dd rfl) ?_
    refine a_take_off 14 rfl rfl rfl rfl (by kernel_rfl) (by kernel_rfl) (by kernel_rfl) (eX (by repeat constructor)) (dd rfl) ?_
    refine a_take_off 15 rfl rfl rfl rfl (by kernel_rfl) (by kernel_rfl) (by kernel_rfl) (eX (by repeat constructor)) (dd rfl) ?_
    refine a_take 16 rfl (by kernel_rfl) (by kernel_rfl) (by kernel_rfl) (v_pick_f rfl rfl) (eX (by repeat constructor)) (dd rfl) ?_
    refine a_take 17 rfl (by kernel_rfl) (by kernel_rfl) (by kernel_rfl) (v_assign rfl) (eX (by repeat constructor)) (dd rfl) ?_
    refine a_done (by kernel_rfl) ?_ _
    refine c_ret1 Tryz.func12 rfl rfl fun w O hS => ?_
    exact ⟨(), congrArg Value.bool (decide_eq_false (by rw [hi, g2]; simp)).symm, trivial, trivial⟩
set_option maxRecDepth 100000 in
theorem right7_con (q : Rq9) (d f l : Value) (hk : q.1 = 7) (hq : FineQ q) : Con Tryz.prog 12 [.agg #[.int .i64 q.1, .int .i64 q.2.1, .int .i64 q.2.2.1, .string q.2.2.2.1, .string q.2.2.2.2.1, d, f, l]] [Sl (eInt .i64) d q.2.2.2.2.2.1, Sl eStr f q.2.2.2.2.2.2.1, Sl ePr l q.2.2.2.2.2.2.2] (γ := Unit) (fun _ => .bool (decide (RightQ q))) (fun _ => True) (fun _ => []) := by
  have hlk : ∀ b1 b2, Go.SL.look (kindsM b1 b2) q.1 = some (.agg #[fnV 83, fnV 84]) := fun b1 b2 => by rw [hk]; exact look7 b1 b2
  have hT := tNone_con q d f l
  have hR := rNone_con q d f l
  have hi := right_iff7 hk
  have hS := sameReq_con (q.1, q.2.1, q.2.2.1, q.2.2.2.1, q.2.2.2.2.1, q.2.2.2.2.2.1, q.2.2.2.2.2.2.1, q.2.2.2.2.2.2.2) (zeroQ q.1) (d) (f) (l) (.slice none 0 0) (.slice none 0 0) (.slice none 0 0) ⟨hq.size.1, hq.size.2.1, hq.size.2.2⟩ (zeroQ_size _)
  dsimp only at hS
  refine con_of Tryz.func12 rfl (dd rfl) fun w0 O0 => ?_
  refine c_seq ?_
  refine c_region ?_
  refine o_step (s_box rfl (dd rfl) (fun b1 => ?_))
  refine o_val (v_assign rfl) (dd rfl) ?_
  refine o_nil ?_
  refine c_seq ?_
  refine c_joinR (γ := Nat × Nat × Nat × Nat) [(1, _), (2, _)] (fun _ => True) (fun g => [(3, ptr g.1), (4, .bool true)]) (fun g => [Blk g.1 77 [fnV 83, fnV 84], Blk b1 32 [.int .i64 q.1, .int .i64 q.2.1, .int .i64 q.2.2.1, .string q.2.2.2.1, .string q.2.2.2.2.1, d, f, l], Sl (eInt .i64) d q.2.2.2.2.2.1, Sl eStr f q.2.2.2.2.2.2.1, Sl ePr l q.2.2.2.2.2.2.2, Blk g.2.2.1 75 [fnV 81], Blk g.2.2.2 75 [fnV 82]]) (by repeat (first | exact trivial | refine ⟨rfl, ?_⟩)) ?_ ?_
  rotate_left
  · intro MEET
    skip
    refine c_held [BlkR b1 32 [.int .i64 q.1, .int .i64 q.2.1, .int .i64 q.2.2.1, .string q.2.2.2.1, .string q.2.2.2.2.1, d, f, l], Sl (eInt .i64) d q.2.2.2.2.2.1, Sl eStr f q.2.2.2.2.2.2.1, Sl ePr l q.2.2.2.2.2.2.2] rfl ?_
    refine a_take 1 rfl (by kernel_rfl) (by kernel_rfl) (by kernel_rfl) (v_fieldAddrC 0 Tryz.underlying32 rfl ti3 (by decide) rfl) (eX (by repeat constructor)) (dd rfl) ?_
    refine a_take 2 rfl (by kernel_rfl) (by kernel_rfl) (by kernel_rfl) (v_load lone3 rfl (hX (by repeat constructor)) rfl) (eX (by repeat constructor)) (dd rfl) ?_
    refine a_two 0 7 rfl rfl (by kernel_rfl) ?_ ?_
    · skip
      refine s_callf cl39 (kinds_con) rfl (dd rfl) (pXs (by repeat constructor)) (fun g _ => a_on (eX (by repeat constructor)) ?_)
      refine a_two 3 7 rfl rfl (by kernel_rfl) ?_ ?_
      · skip
        refine s_val (v_lookupS kInt Tryz.underlying79 Tryz.underlying3 ti77 rfl rfl (hX (by repeat constructor)) (hlk g.2.1 g.2.2)) (dd rfl) (a_on (eX (by repeat constructor)) ?_)
        refine a_take 4 rfl (by kernel_rfl) (by kernel_rfl) (by kernel_rfl) (v_move rfl) (eX (by repeat constructor)) (dd rfl) ?_
        refine a_take 5 rfl (by kernel_rfl) (by kernel_rfl) (by kernel_rfl) (v_extract rfl rfl) (eX (by repeat constructor)) (dd rfl) ?_
        refine a_take 6 rfl (by kernel_rfl) (by kernel_rfl) (by kernel_rfl) (v_extract rfl rfl) (eX (by repeat constructor)) (dd rfl) ?_
        refine a_one 7 rfl (by kernel_rfl) (s_alloc ti77 (dd rfl) (fun b3 => a_on (eX (by repeat constructor)) ?_))
        refine a_one 8 rfl (by kernel_rfl) (s_store_all ti77 rfl rfl (by first | exact CellsV.lit rfl | exact CellsV.one (by first | exact OneC.lit rfl | exact OneC.sl (hX (by repeat constructor)) )) (by repeat (first | exact OneAll.nil | (refine OneAll.cons ?_ ?_; · first | exact OneC.lit rfl | exact OneC.sl (hX (by repeat constructor)) ) | exact OneAll.rd (hX (by repeat constructor)))) rfl (pB (by repeat constructor)) rfl (a_on (eX (by repeat constructor)) ?_))
        refine a_take 9 rfl (by kernel_rfl) (by kernel_rfl) (by kernel_rfl) (v_assign rfl) (eX (by repeat constructor)) (dd rfl) ?_
        refine a_done (by kernel_rfl) ?_ _
        refine c_use (MEET ((b3, g)) (trivial)) (by repeat (first | exact trivial | refine ⟨rfl, ?_⟩)) (eX (by repeat constructor))
      · skip
        refine s_alloc ti77 (dd rfl) (fun b3 => a_on (eX (by repeat constructor)) ?_)
        refine a_one 3 rfl (by kernel_rfl) (s_val (v_lookupS kInt Tryz.underlying79 Tryz.underlying3 ti77 rfl rfl (hX (by repeat constructor)) (hlk g.2.1 g.2.2)) (dd rfl) (a_on (eX (by repeat constructor)) ?_))
        refine a_take 4 rfl (by kernel_rfl) (by kernel_rfl) (by kernel_rfl) (v_move rfl) (eX (by repeat constructor)) (dd rfl) ?_
        refine a_take 5 rfl (by kernel_rfl) (by kernel_rfl) (by kernel_rfl) (v_extract rfl rfl) (eX (by repeat constructor)) (dd rfl) ?_
        refine a_take 6 rfl (by kernel_rfl) (by kernel_rfl) (by kernel_rfl) (v_extract rfl rfl) (eX (by repeat constructor)) (dd rfl) ?_
        refine a_one 8 rfl (by kernel_rfl) (s_store_all ti77 rfl rfl (by first | exact CellsV.lit rfl | exact CellsV.one (by first | exact OneC.lit rfl | exact OneC.sl (hX (by repeat constructor)) )) (by repeat (first | exact OneAll.nil | (refine OneAll.cons ?_ ?_; · first | exact OneC.lit rfl | exact OneC.sl (hX (by repeat constructor)) ) | exact OneAll.rd (hX (by repeat constructor)))) rfl (pB (by repeat constructor)) rfl (a_on (eX (by repeat constructor)) ?_))
        refine a_take 9 rfl (by kernel_rfl) (by kernel_rfl) (by kernel_rfl) (v_assign rfl) (eX (by repeat constructor)) (dd rfl) ?_
        refine a_done (by kernel_rfl) ?_ _
        refine c_use (MEET ((b3, g)) (trivial)) (by repeat (first | exact trivial | refine ⟨rfl, ?_⟩)) (eX (by repeat constructor))
    · skip
      refine s_alloc ti77 (dd rfl) (fun b3 => a_on (eX (by repeat constructor)) ?_)
      refine a_one 0 rfl (by kernel_rfl) (s_callf cl39 (kinds_con) rfl (dd rfl) (pXs (by repeat constructor)) (fun g _ => a_on (eX (by repeat constructor)) ?_))
      refine a_one 3 rfl (by kernel_rfl) (s_val (v_lookupS kInt Tryz.underlying79 Tryz.underlying3 ti77 rfl rfl (hX (by repeat constructor)) (hlk g.2.1 g.2.2)) (dd rfl) (a_on (eX (by repeat constructor)) ?_))
      refine a_take 4 rfl (by kernel_rfl) (by kernel_rfl) (by kernel_rfl) (v_move rfl) (eX (by repeat constructor)) (dd rfl) ?_
      refine a_take 5 rfl (by kernel_rfl) (by kernel_rfl) (by kernel_rfl) (v_extract rfl rfl) (eX (by repeat constructor)) (dd rfl) ?_
      refine a_take 6 rfl (by kernel_rfl) (by kernel_rfl) (by kernel_rfl) (v_extract rfl rfl) (eX (by repeat constructor)) (dd rfl) ?_
      refine a_one 8 rfl (by kernel_rfl) (s_store_all ti77 rfl rfl (by first | exact CellsV.lit rfl | exact CellsV.one (by first | exact OneC.lit rfl | exact OneC.sl (hX (by repeat constructor)) )) (by repeat (first | exact OneAll.nil | (refine OneAll.cons ?_ ?_; · first | exact OneC.lit rfl | exact OneC.sl (hX (by repeat constructor)) ) | exact OneAll.rd (hX (by repeat constructor)))) rfl (pB (by repeat constructor)) rfl (a_on (eX (by repeat constructor)) ?_))
      refine a_take 9 rfl (by kernel_rfl) (by kernel_rfl) (by kernel_rfl) (v_assign rfl) (eX (by repeat constructor)) (dd rfl) ?_
      refine a_done (by kernel_rfl) ?_ _
      refine c_use (MEET ((b3, g)) (trivial)) (by repeat (first | exact trivial | refine ⟨rfl, ?_⟩)) (eX (by repeat constructor))
  rintro ⟨b3, bm, bn, bg⟩ -
  dsimp only [List.cons_append, List.nil_append]
  refine c_seq ?_
  refine c_held [BlkR b3 77 [fnV 83, fnV 84], BlkR b1 32 [.int .i64 q.1, .int .i64 q.2.1, .int .i64 q.2.2.1, .string q.2.2.2.1, .string q.2.2.2.2.1, d, f, l], Sl (eInt .i64) d q.2.2.2.2.2.1, Sl eStr f q.2.2.2.2.2.2.1, Sl ePr l q.2.2.2.2.2.2.2] rfl ?_
  refine a_take 0 rfl (by kernel_rfl) (by kernel_rfl) (by kernel_rfl) (v_move rfl) (eX (by repeat constructor)) (dd rfl) ?_
  refine a_take 1 rfl (by kernel_rfl) (by kernel_rfl) (by kernel_rfl) (v_move rfl) (eX (by repeat constructor)) (dd rfl) ?_
  refine a_take_on 2 rfl rfl rfl (by kernel_rfl) (by kernel_rfl) (by kernel_rfl) (v_fieldAddrC 0 Tryz.underlying77 rfl ti29 (by decide) rfl) (eX (by repeat constructor)) (dd rfl) ?_
  refine a_take_on 3 rfl rfl rfl (by kernel_rfl) (by kernel_rfl) (by kernel_rfl) (v_load lone29 rfl (hX (by repeat constructor)) rfl) (eX (by repeat constructor)) (dd rfl) ?_
  refine a_take_on 4 rfl rfl rfl (by kernel_rfl) (by kernel_rfl) (by kernel_rfl) (v_load_all ⟨_, Tryz.underlying32⟩ ti32 rfl (hX (by repeat constructor)) rfl) (eX (by repeat constructor)) (dd rfl) ?_
  refine a_one_on 5 rfl rfl rfl (by kernel_rfl) (s_call_keep cl83 (hT) (first := []) (cap := []) rfl rfl rfl (dd rfl) (rX (by repeat constructor)) (fun _ => sX) (fun _ _ => a_on (eX (by repeat constructor)) ?_))
  refine a_take 6 rfl (by kernel_rfl) (by kernel_rfl) (by kernel_rfl) (v_pick_t rfl rfl) (eX (by repeat constructor)) (dd rfl) ?_
  refine a_take 7 rfl (by kernel_rfl) (by kernel_rfl) (by kernel_rfl) (v_move rfl) (eX (by repeat constructor)) (dd rfl) ?_
  refine a_know (s := 19) rfl (show _ = Value.bool true from rfl) ?_
  refine a_take_on 8 rfl rfl rfl (by kernel_rfl) (by kernel_rfl) (by kernel_rfl) (v_fieldAddrC 1 Tryz.underlying77 rfl ti75 (by decide) rfl) (eX (by repeat constructor)) (dd rfl) ?_
  refine a_take_on 9 rfl rfl rfl (by kernel_rfl) (by kernel_rfl) (by kernel_rfl) (v_load lone75 rfl (hX (by repeat constructor)) rfl) (eX (by repeat constructor)) (dd rfl) ?_
  refine a_take_on 10 rfl rfl rfl (by kernel_rfl) (by kernel_rfl) (by kernel_rfl) (v_load_all ⟨_, Tryz.underlying32⟩ ti32 rfl (hX (by repeat constructor)) rfl) (eX (by repeat constructor)) (dd rfl) ?_
  refine a_take_on 12 rfl rfl rfl (by kernel_rfl) (by kernel_rfl) (by kernel_rfl) (v_fieldAddrC 0 Tryz.underlying32 rfl ti3 (by decide) rfl) (eX (by repeat constructor)) (dd rfl) ?_
  refine a_take_on 13 rfl rfl rfl (by kernel_rfl) (by kernel_rfl) (by kernel_rfl) (v_load lone3 rfl (hX (by repeat constructor)) rfl) (eX (by repeat constructor)) (dd rfl) ?_
  refine a_take_on 14 rfl rfl rfl (by kernel_rfl) (by kernel_rfl) (by kernel_rfl) (v_buildS (places := [(0, 1), (1, 1), (2, 1), (3, 1), (4, 1), (5, 1), (6, 1), (7, 1)]) (cells := [_, .int .i64 0, .int .i64 0, .string ⟨#[]⟩, .string ⟨#[]⟩, .slice none 0 0, .slice none 0 0, .slice none 0 0]) Tryz.underlying32 ti32 (by kernel_rfl) rfl (by repeat (first | exact PartsC.nil | (apply PartsC.one (by first | exact OneC.lit rfl | exact OneC.sl (hX (by repeat constructor)) )) | (apply PartsC.lit rfl))) rfl) (eX (by repeat constructor)) (dd rfl) ?_
  refine a_one_on 11 rfl rfl rfl (by kernel_rfl) (s_call_keep cl84 (hR) (first := []) (cap := []) rfl rfl rfl (dd rfl) (rX (by repeat constructor)) (fun _ => sX) (fun _ _ => a_on (eX (by repeat constructor)) ?_))
  refine a_one_on 15 rfl rfl rfl (by kernel_rfl) (s_callf cl15 (hS) rfl (dd rfl) (pXs (by repeat constructor)) (fun _ _ => a_on (eX (by repeat constructor)) ?_))
  refine a_take 16 rfl (by kernel_rfl) (by kernel_rfl) (by kernel_rfl) (v_pick_t rfl rfl) (eX (by repeat constructor)) (dd rfl) ?_
  refine a_take 17 rfl (by kernel_rfl) (by kernel_rfl) (by kernel_rfl) (v_assign rfl) (eX (by repeat constructor)) (dd rfl) ?_
  refine a_done (by kernel_rfl) ?_ _
  refine c_ret1 Tryz.func12 rfl rfl fun w O hS => ?_
  exact ⟨(), congrArg Value.bool (decide_eq_decide.2 (by rw [hi]; simp)), trivial, trivial⟩
set_option maxRecDepth 100000 in
theorem right8_con (q : Rq9) (d f l : Value) (hk : q.1 = 8) (hq : FineQ q) : Con Tryz.prog 12 [.agg #[.int .i64 q.1, .int .i64 q.2.1, .int .i64 q.2.2.1, .string q.2.2.2.1, .string q.2.2.2.2.1, d, f, l]] [Sl (eInt .i64) d q.2.2.2.2.2.1, Sl eStr f q.2.2.2.2.2.2.1, Sl ePr l q.2.2.2.2.2.2.2] (γ := Unit) (fun _ => .bool (decide (RightQ q))) (fun _ => True) (fun _ => []) := by
  have hlk : ∀ b1 b2, Go.SL.look (kindsM b1 b2) q.1 = some (.agg #[fnV 83, fnV 84]) := fun b1 b2 => by rw [hk]; exact look8 b1 b2
  have hT := tNone_con q d f l
  have hR := rNone_con q d f l
  have hi := right_iff8 hk
  have hS := sameReq_con (q.1, q.2.1, q.2.2.1, q.2.2.2.1, q.2.2.2.2.1, q.2.2.2.2.2.1, q.2.2.2.2.2.2.1, q.2.2.2.2.2.2.2) (zeroQ q.1) (d) (f) (l) (.slice none 0 0) (.slice none 0 0) (.slice none 0 0) ⟨hq.size.1, hq.size.2.1, hq.size.2.2⟩ (zeroQ_size _)
  dsimp only at hS
  refine con_of Tryz.func12 rfl (dd rfl) fun w0 O0 => ?_
  refine c_seq ?_
  refine c_region ?_
  refine o_step (s_box rfl (dd rfl) (fun b1 => ?_))
  refine o_val (v_assign rfl) (dd rfl) ?_
  refine o_nil ?_
  refine c_seq ?_
  refine c_joinR (γ := Nat × Nat × Nat × Nat) [(1, _), (2, _)] (fun _ => True) (fun g => [(3, ptr g.1), (4, .bool true)]) (fun g => [Blk g.1 77 [fnV 83, fnV 84], Blk b1 32 [.int .i64 q.1, .int .i64 q.2.1, .int .i64 q.2.2.1, .string q.2.2.2.1, .string q.2.2.2.2.1, d, f, l], Sl (eInt .i64) d q.2.2.2.2.2.1, Sl eStr f q.2.2.2.2.2.2.1, Sl ePr l q.2.2.2.2.2.2.2, Blk g.2.2.1 75 [fnV 81], Blk g.2.2.2 75 [fnV 82]]) (by repeat (first | exact trivial | refine ⟨rfl, ?_⟩)) ?_ ?_
  rotate_left
  · intro MEET
    skip
    refine c_held [BlkR b1 32 [.int .i64 q.1, .int .i64 q.2.1, .int .i64 q.2.2.1, .string q.2.2.2.1, .string q.2.2.2.2.1, d, f, l], Sl (eInt .i64) d q.2.2.2.2.2.1, Sl eStr f q.2.2.2.2.2.2.1, Sl ePr l q.2.2.2.2.2.2.2] rfl ?_
    refine a_take 1 rfl (by kernel_rfl) (by kernel_rfl) (by kernel_rfl) (v_fieldAddrC 0 Tryz.underlying32 rfl ti3 (by decide) rfl) (eX (by repeat constructor)) (dd rfl) ?_
    refine a_take 2 rfl (by kernel_rfl) (by kernel_rfl) (by kernel_rfl) (v_load lone3 rfl (hX (by repeat constructor)) rfl) (eX (by repeat constructor)) (dd rfl) ?_
    refine a_two 0 7 rfl rfl (by kernel_rfl) ?_ ?_
    · skip
      refine s_callf cl39 (kinds_con) rfl (dd rfl) (pXs (by repeat constructor)) (fun g _ => a_on (eX (by repeat constructor)) ?_)
      refine a_two 3 7 rfl rfl (by kernel_rfl) ?_ ?_
      · skip
        refine s_val (v_lookupS kInt Tryz.underlying79 Tryz.underlying3 ti77 rfl rfl (hX (by repeat constructor)) (hlk g.2.1 g.2.2)) (dd rfl) (a_on (eX (by repeat constructor)) ?_)
        refine a_take 4 rfl (by kernel_rfl) (by kernel_rfl) (by kernel_rfl) (v_move rfl) (eX (by repeat constructor)) (dd rfl) ?_
        refine a_take 5 rfl (by kernel_rfl) (by kernel_rfl) (by kernel_rfl) (v_extract rfl rfl) (eX (by repeat constructor)) (dd rfl) ?_
        refine a_take 6 rfl (by kernel_rfl) (by kernel_rfl) (by kernel_rfl) (v_extract rfl rfl) (eX (by repeat constructor)) (dd rfl) ?_
        refine a_one 7 rfl (by kernel_rfl) (s_alloc ti77 (dd rfl) (fun b3 => a_on (eX (by repeat constructor)) ?_))
        refine a_one 8 rfl (by kernel_rfl) (s_store_all ti77 rfl rfl (by first | exact CellsV.lit rfl | exact CellsV.one (by first | exact OneC.lit rfl | exact OneC.sl (hX (by repeat constructor)) )) (by repeat (first | exact OneAll.nil | (refine OneAll.cons ?_ ?_; · first | exact OneC.lit rfl | exact OneC.sl (hX (by repeat constructor)) ) | exact OneAll.rd (hX (by repeat constructor)))) rfl (pB (by repeat constructor)) rfl (a_on (eX (by repeat constructor)) ?_))
        refine a_take 9 rfl (by kernel_rfl) (by kernel_rfl) (by kernel_rfl) (v_assign rfl) (eX (by repeat constructor)) (dd rfl) ?_
        refine a_done (by kernel_rfl) ?_ _
        refine c_use (MEET ((b3, g)) (trivial)) (by repeat (first | exact trivial | refine ⟨rfl, ?_⟩)) (eX (by repeat constructor))
      · skip
        refine s_alloc ti77 (dd rfl) (fun b3 => a_on (eX (by repeat constructor)) ?_)
        refine a_one 3 rfl (by kernel_rfl) (s_val (v_lookupS kInt Tryz.underlying79 Tryz.underlying3 ti77 rfl rfl (hX (by repeat constructor)) (hlk g.2.1 g.2.2)) (dd rfl) (a_on (eX (by repeat constructor)) ?_))
        refine a_take 4 rfl (by kernel_rfl) (by kernel_rfl) (by kernel_rfl) (v_move rfl) (eX (by repeat constructor)) (dd rfl) ?_
        refine a_take 5 rfl (by kernel_rfl) (by kernel_rfl) (by kernel_rfl) (v_extract rfl rfl) (eX (by repeat constructor)) (dd rfl) ?_
        refine a_take 6 rfl (by kernel_rfl) (by kernel_rfl) (by kernel_rfl) (v_extract rfl rfl) (eX (by repeat constructor)) (dd rfl) ?_
        refine a_one 8 rfl (by kernel_rfl) (s_store_all ti77 rfl rfl (by first | exact CellsV.lit rfl | exact CellsV.one (by first | exact OneC.lit rfl | exact OneC.sl (hX (by repeat constructor)) )) (by repeat (first | exact OneAll.nil | (refine OneAll.cons ?_ ?_; · first | exact OneC.lit rfl | exact OneC.sl (hX (by repeat constructor)) ) | exact OneAll.rd (hX (by repeat constructor)))) rfl (pB (by repeat constructor)) rfl (a_on (eX (by repeat constructor)) ?_))
        refine a_take 9 rfl (by kernel_rfl) (by kernel_rfl) (by kernel_rfl) (v_assign rfl) (eX (by repeat constructor)) (dd rfl) ?_
        refine a_done (by kernel_rfl) ?_ _
        refine c_use (MEET ((b3, g)) (trivial)) (by repeat (first | exact trivial | refine ⟨rfl, ?_⟩)) (eX (by repeat constructor))
    · skip
      refine s_alloc ti77 (dd rfl) (fun b3 => a_on (eX (by repeat constructor)) ?_)
      refine a_one 0 rfl (by kernel_rfl) (s_callf cl39 (kinds_con) rfl (dd rfl) (pXs (by repeat constructor)) (fun g _ => a_on (eX (by repeat constructor)) ?_))
      refine a_one 3 rfl (by kernel_rfl) (s_val (v_lookupS kInt Tryz.underlying79 Tryz.underlying3 ti77 rfl rfl (hX (by repeat constructor)) (hlk g.2.1 g.2.2)) (dd rfl) (a_on (eX (by repeat constructor)) ?_))
      refine a_take 4 rfl (by kernel_rfl) (by kernel_rfl) (by kernel_rfl) (v_move rfl) (eX (by repeat constructor)) (dd rfl) ?_
      refine a_take 5 rfl (by kernel_rfl) (by kernel_rfl) (by kernel_rfl) (v_extract rfl rfl) (eX (by repeat constructor)) (dd rfl) ?_
      refine a_take 6 rfl (by kernel_rfl) (by kernel_rfl) (by kernel_rfl) (v_extract rfl rfl) (eX (by repeat constructor)) (dd rfl) ?_
      refine a_one 8 rfl (by kernel_rfl) (s_store_all ti77 rfl rfl (by first | exact CellsV.lit rfl | exact CellsV.one (by first | exact OneC.lit rfl | exact OneC.sl (hX (by repeat constructor)) )) (by repeat (first | exact OneAll.nil | (refine OneAll.cons ?_ ?_; · first | exact OneC.lit rfl | exact OneC.sl (hX (by repeat constructor)) ) | exact OneAll.rd (hX (by repeat constructor)))) rfl (pB (by repeat constructor)) rfl (a_on (eX (by repeat constructor)) ?_))
      refine a_take 9 rfl (by kernel_rfl) (by kernel_rfl) (by kernel_rfl) (v_assign rfl) (eX (by repeat constructor)) (dd rfl) ?_
      refine a_done (by kernel_rfl) ?_ _
      refine c_use (MEET ((b3, g)) (trivial)) (by repeat (first | exact trivial | refine ⟨rfl, ?_⟩)) (eX (by repeat constructor))
  rintro ⟨b3, bm, bn, bg⟩ -
  dsimp only [List.cons_append, List.nil_append]
  refine c_seq ?_
  refine c_held [BlkR b3 77 [fnV 83, fnV 84], BlkR b1 32 [.int .i64 q.1, .int .i64 q.2.1, .int .i64 q.2.2.1, .string q.2.2.2.1, .string q.2.2.2.2.1, d, f, l], Sl (eInt .i64) d q.2.2.2.2.2.1, Sl eStr f q.2.2.2.2.2.2.1, Sl ePr l q.2.2.2.2.2.2.2] rfl ?_
  refine a_take 0 rfl (by kernel_rfl) (by kernel_rfl) (by kernel_rfl) (v_move rfl) (eX (by repeat constructor)) (dd rfl) ?_
  refine a_take 1 rfl (by kernel_rfl) (by kernel_rfl) (by kernel_rfl) (v_move rfl) (eX (by repeat constructor)) (dd rfl) ?_
  refine a_take_on 2 rfl rfl rfl (by kernel_rfl) (by kernel_rfl) (by kernel_rfl) (v_fieldAddrC 0 Tryz.underlying77 rfl ti29 (by decide) rfl) (eX (by repeat constructor)) (dd rfl) ?_
  refine a_take_on 3 rfl rfl rfl (by kernel_rfl) (by kernel_rfl) (by kernel_rfl) (v_load lone29 rfl (hX (by repeat constructor)) rfl) (eX (by repeat constructor)) (dd rfl) ?_
  refine a_take_on 4 rfl rfl rfl (by kernel_rfl) (by kernel_rfl) (by kernel_rfl) (v_load_all ⟨_, Tryz.underlying32⟩ ti32 rfl (hX (by repeat constructor)) rfl) (eX (by repeat constructor)) (dd rfl) ?_
  refine a_one_on 5 rfl rfl rfl (by kernel_rfl) (s_call_keep cl83 (hT) (first := []) (cap := []) rfl rfl rfl (dd rfl) (rX (by repeat constructor)) (fun _ => sX) (fun _ _ => a_on (eX (by repeat constructor)) ?_))
  refine a_take 6 rfl (by kernel_rfl) (by kernel_rfl) (by kernel_rfl) (v_pick_t rfl rfl) (eX (by repeat constructor)) (dd rfl) ?_
  refine a_take 7 rfl (by kernel_rfl) (by kernel_rfl) (by kernel_rfl) (v_move rfl) (eX (by repeat constructor)) (dd rfl) ?_
  refine a_know (s := 19) rfl (show _ = Value.bool true from rfl) ?_
  refine a_take_on 8 rfl rfl rfl (by kernel_rfl) (by kernel_rfl) (by kernel_rfl) (v_fieldAddrC 1 Tryz.underlying77 rfl ti75 (by decide) rfl) (eX (by repeat constructor)) (dd rfl) ?_
  refine a_take_on 9 rfl rfl rfl (by kernel_rfl) (by kernel_rfl) (by kernel_rfl) (v_load lone75 rfl (hX (by repeat constructor)) rfl) (eX (by repeat constructor)) (dd rfl) ?_
  refine a_take_on 10 rfl rfl rfl (by kernel_rfl) (by kernel_rfl) (by kernel_rfl) (v_load_all ⟨_, Tryz.underlying32⟩ ti32 rfl (hX (by repeat constructor)) rfl) (eX (by repeat constructor)) (dd rfl) ?_
  refine a_take_on 12 rfl rfl rfl (by kernel_rfl) (by kernel_rfl) (by kernel_rfl) (v_fieldAddrC 0 Tryz.underlying32 rfl ti3 (by decide) rfl) (eX (by repeat constructor)) (dd rfl) ?_
  refine a_take_on 13 rfl rfl rfl (by kernel_rfl) (by kernel_rfl) (by kernel_rfl) (v_load lone3 rfl (hX (by repeat constructor)) rfl) (eX (by repeat constructor)) (dd rfl) ?_
  refine a_take_on 14 rfl rfl rfl (by kernel_rfl) (by kernel_rfl) (by kernel_rfl) (v_buildS (places := [(0, 1), (1, 1), (2, 1), (3, 1), (4, 1), (5, 1), (6, 1), (7, 1)]) (cells := [_, .int .i64 0, .int .i64 0, .string ⟨#[]⟩, .string ⟨#[]⟩, .slice none 0 0, .slice none 0 0, .slice none 0 0]) Tryz.underlying32 ti32 (by kernel_rfl) rfl (by repeat (first | exact PartsC.nil | (apply PartsC.one (by first | exact OneC.lit rfl | exact OneC.sl (hX (by repeat constructor)) )) | (apply PartsC.lit rfl))) rfl) (eX (by repeat constructor)) (dd rfl) ?_
  refine a_one_on 11 rfl rfl rfl (by kernel_rfl) (s_call_keep cl84 (hR) (first := []) (cap := []) rfl rfl rfl (dd rfl) (rX (by repeat constructor)) (fun _ => sX) (fun _ _ => a_on (eX (by repeat constructor)) ?_))
  refine a_one_on 15 rfl rfl rfl (by kernel_rfl) (s_callf cl15 (hS) rfl (dd rfl) (pXs (by repeat constructor)) (fun _ _ => a_on (eX (by repeat constructor)) ?_))
  refine a_take 16 rfl (by kernel_rfl) (by kernel_rfl) (by kernel_rfl) (v_pick_t rfl rfl) (eX (by repeat constructor)) (dd rfl) ?_
  refine a_take 17 rfl (by kernel_rfl) (by kernel_rfl) (by kernel_rfl) (v_assign rfl) (eX (by repeat constructor)) (dd rfl) ?_
  refine a_done (by kernel_rfl) ?_ _
  refine c_ret1 Tryz.func12 rfl rfl fun w O hS => ?_
  exact ⟨(), congrArg Value.bool (decide_eq_decide.2 (by rw [hi]; simp)), trivial, trivial⟩
set_option maxRecDepth 100000 in
theorem right9_con (q : Rq9) (d f l : Value) (hk : q.1 = 9) (hq : FineQ q) : Con Tryz.prog 12 [.agg #[.int .i64 q.1, .int .i64 q.2.1, .int .i64 q.2.2.1, .string q.2.2.2.1, .string q.2.2.2.2.1, d, f, l]] [Sl (eInt .i64) d q.2.2.2.2.2.1, Sl eStr f q.2.2.2.2.2.2.1, Sl ePr l q.2.2.2.2.2.2.2] (γ := Unit) (fun _ => .bool (decide (RightQ q))) (fun _ => True) (fun _ => []) := by
  have hlk : ∀ b1 b2, Go.SL.look (kindsM b1 b2) q.1 = some (.agg #[fnV 85, fnV 81]) := fun b1 b2 => by rw [hk]; exact look9 b1 b2
  have hT := tNamed_con q d f l hq.name
  have hR := rName_con q d f l
  have hi := right_iff9 hk
  have hS := sameReq_con (q.1, q.2.1, q.2.2.1, ⟨#[]⟩, q.2.2.2.2.1, q.2.2.2.2.2.1, q.2.2.2.2.2.2.1, q.2.2.2.2.2.2.2) (zeroQ q.1) (d) (f) (l) (.slice none 0 0) (.slice none 0 0) (.slice none 0 0) ⟨hq.size.1, hq.size.2.1, hq.size.2.2⟩ (zeroQ_size _)
  dsimp only at hS
  refine con_of Tryz.func12 rfl (dd rfl) fun w0 O0 => ?_
  refine c_seq ?_
  refine c_region ?_
  refine o_step (s_box rfl (dd rfl) (fun b1 => ?_))
  refine o_val (v_assign rfl) (dd rfl) ?_
  refine o_nil ?_
  refine c_seq ?_
  refine c_joinR (γ := Nat × Nat × Nat × Nat) [(1, _), (2, _)] (fun _ => True) (fun g => [(3, ptr g.1), (4, .bool true)]) (fun g => [Blk g.1 77 [fnV 85, fnV 81], Blk b1 32 [.int .i64 q.1, .int .i64 q.2.1, .int .i64 q.2.2.1, .string q.2.2.2.1, .string q.2.2.2.2.1, d, f, l], Sl (eInt .i64) d q.2.2.2.2.2.1, Sl eStr f q.2.2.2.2.2.2.1, Sl ePr l q.2.2.2.2.2.2.2, Blk g.2.2.1 75 [fnV 81], Blk g.2.2.2 75 [fnV 82]]) (by repeat (first | exact trivial | refine ⟨rfl, ?_⟩)) ?_ ?_
  rotate_left
  · intro MEET
    skip
    refine c_held [BlkR b1 32 [.int .i64 q.1, .int .i64 q.2.1, .int .i64 q.2.2.1, .string q.2.2.2.1, .string q.2.2.2.2.1, d, f, l], Sl (eInt .i64) d q.2.2.2.2.2.1, Sl eStr f q.2.2.2.2.2.2.1, Sl ePr l q.2.2.2.2.2.2.2] rfl ?_
    refine a_take 1 rfl (by kernel_rfl) (by kernel_rfl) (by kernel_rfl) (v_fieldAddrC 0 Tryz.underlying32 rfl ti3 (by decide) rfl) (eX (by repeat constructor)) (dd rfl) ?_
    refine a_take 2 rfl (by kernel_rfl) (by kernel_rfl) (by kernel_rfl) (v_load lone3 rfl (hX (by repeat constructor)) rfl) (eX (by repeat constructor)) (dd rfl) ?_
    refine a_two 0 7 rfl rfl (by kernel_rfl) ?_ ?_
    · skip
      refine s_callf cl39 (kinds_con) rfl (dd rfl) (pXs (by repeat constructor)) (fun g _ => a_on (eX (by repeat constructor)) ?_)
      refine a_two 3 7 rfl rfl (by kernel_rfl) ?_ ?_
      · skip
        refine s_val (v_lookupS kInt Tryz.underlying79 Tryz.underlying3 ti77 rfl rfl (hX (by repeat constructor)) (hlk g.2.1 g.2.2)) (dd rfl) (a_on (eX (by repeat constructor)) ?_)
        refine a_take 4 rfl (by kernel_rfl) (by kernel_rfl) (by kernel_rfl) (v_move rfl) (eX (by repeat constructor)) (dd rfl) ?_
        refine a_take 5 rfl (by kernel_rfl) (by kernel_rfl) (by kernel_rfl) (v_extract rfl rfl) (eX (by repeat constructor)) (dd rfl) ?_
        refine a_take 6 rfl (by kernel_rfl) (by kernel_rfl) (by kernel_rfl) (v_extract rfl rfl) (eX (by repeat constructor)) (dd rfl) ?_
        refine a_one 7 rfl (by kernel_rfl) (s_alloc ti77 (dd rfl) (fun b3 => a_on (eX (by repeat constructor)) ?_))
        refine a_one 8 rfl (by kernel_rfl) (s_store_all ti77 rfl rfl (by first | exact CellsV.lit rfl | exact CellsV.one (by first | exact OneC.lit rfl | exact OneC.sl (hX (by repeat constructor)) )) (by repeat (first | exact OneAll.nil | (refine OneAll.cons ?_ ?_; · first | exact OneC.lit rfl | exact OneC.sl (hX (by repeat constructor)) ) | exact OneAll.rd (hX (by repeat constructor)))) rfl (pB (by repeat constructor)) rfl (a_on (eX (by repeat constructor)) ?_))
        refine a_take 9 rfl (by kernel_rfl) (by kernel_rfl) (by kernel_rfl) (v_assign rfl) (eX (by repeat constructor)) (dd rfl) ?_
        refine a_done (by kernel_rfl) ?_ _
        refine c_use (MEET ((b3, g)) (trivial)) (by repeat (first | exact trivial | refine ⟨rfl, ?_⟩)) (eX (by repeat constructor))
      · skip
        refine s_alloc ti77 (dd rfl) (fun b3 => a_on (eX (by repeat constructor)) ?_)
        refine a_one 3 rfl (by kernel_rfl) (s_val (v_lookupS kInt Tryz.underlying79 Tryz.underlying3 ti77 rfl rfl (hX (by repeat constructor)) (hlk g.2.1 g.2.2)) (dd rfl) (a_on (eX (by repeat constructor)) ?_))
        refine a_take 4 rfl (by kernel_rfl) (by kernel_rfl) (by kernel_rfl) (v_move rfl) (eX (by repeat constructor)) (dd rfl) ?_
        refine a_take 5 rfl (by kernel_rfl) (by kernel_rfl) (by kernel_rfl) (v_extract rfl rfl) (eX (by repeat constructor)) (dd rfl) ?_
        refine a_take 6 rfl (by kernel_rfl) (by kernel_rfl) (by kernel_rfl) (v_extract rfl rfl) (eX (by repeat constructor)) (dd rfl) ?_
        refine a_one 8 rfl (by kernel_rfl) (s_store_all ti77 rfl rfl (by first | exact CellsV.lit rfl | exact CellsV.one (by first | exact OneC.lit rfl | exact OneC.sl (hX (by repeat constructor)) )) (by repeat (first | exact OneAll.nil | (refine OneAll.cons ?_ ?_; · first | exact OneC.lit rfl | exact OneC.sl (hX (by repeat constructor)) ) | exact OneAll.rd (hX (by repeat constructor)))) rfl (pB (by repeat constructor)) rfl (a_on (eX (by repeat constructor)) ?_))
        refine a_take 9 rfl (by kernel_rfl) (by kernel_rfl) (by kernel_rfl) (v_assign rfl) (eX (by repeat constructor)) (dd rfl) ?_
        refine a_done (by kernel_rfl) ?_ _
        refine c_use (MEET ((b3, g)) (trivial)) (by repeat (first | exact trivial | refine ⟨rfl, ?_⟩)) (eX (by repeat constructor))
    · skip
      refine s_alloc ti77 (dd rfl) (fun b3 => a_on (eX (by repeat constructor)) ?_)
      refine a_one 0 rfl (by kernel_rfl) (s_callf cl39 (kinds_con) rfl (dd rfl) (pXs (by repeat constructor)) (fun g _ => a_on (eX (by repeat constructor)) ?_))
      refine a_one 3 rfl (by kernel_rfl) (s_val (v_lookupS kInt Tryz.underlying79 Tryz.underlying3 ti77 rfl rfl (hX (by repeat constructor)) (hlk g.2.1 g.2.2)) (dd rfl) (a_on (eX (by repeat constructor)) ?_))
      refine a_take 4 rfl (by kernel_rfl) (by kernel_rfl) (by kernel_rfl) (v_move rfl) (eX (by repeat constructor)) (dd rfl) ?_
      refine a_take 5 rfl (by kernel_rfl) (by kernel_rfl) (by kernel_rfl) (v_extract rfl rfl) (eX (by repeat constructor)) (dd rfl) ?_
      refine a_take 6 rfl (by kernel_rfl) (by kernel_rfl) (by kernel_rfl) (v_extract rfl rfl) (eX (by repeat constructor)) (dd rfl) ?_
      refine a_one 8 rfl (by kernel_rfl) (s_store_all ti77 rfl rfl (by first | exact CellsV.lit rfl | exact CellsV.one (by first | exact OneC.lit rfl | exact OneC.sl (hX (by repeat constructor)) )) (by repeat (first | exact OneAll.nil | (refine OneAll.cons ?_ ?_; · first | exact OneC.lit rfl | exact OneC.sl (hX (by repeat constructor)) ) | exact OneAll.rd (hX (by repeat constructor)))) rfl (pB (by repeat constructor)) rfl (a_on (eX (by repeat constructor)) ?_))
      refine a_take 9 rfl (by kernel_rfl) (by kernel_rfl) (by kernel_rfl) (v_assign rfl) (eX (by repeat constructor)) (dd rfl) ?_
      refine a_done (by kernel_rfl) ?_ _
      refine c_use (MEET ((b3, g)) (trivial)) (by repeat (first | exact trivial | refine ⟨rfl, ?_⟩)) (eX (by repeat constructor))
  rintro ⟨b3, bm, bn, bg⟩ -
  dsimp only [List.cons_append, List.nil_append]
  refine c_seq ?_
  refine c_held [BlkR b3 77 [fnV 85, fnV 81], BlkR b1 32 [.int .i64 q.1, .int .i64 q.2.1, .int .i64 q.2.2.1, .string q.2.2.2.1, .string q.2.2.2.2.1, d, f, l], Sl (eInt .i64) d q.2.2.2.2.2.1, Sl eStr f q.2.2.2.2.2.2.1, Sl ePr l q.2.2.2.2.2.2.2] rfl ?_
  refine a_take 0 rfl (by kernel_rfl) (by kernel_rfl) (by kernel_rfl) (v_move rfl) (eX (by repeat constructor)) (dd rfl) ?_
  refine a_take 1 rfl (by kernel_rfl) (by kernel_rfl) (by kernel_rfl) (v_move rfl) (eX (by repeat constructor)) (dd rfl) ?_
  refine a_take_on 2 rfl rfl rfl (by kernel_rfl) (by kernel_rfl) (by kernel_rfl) (v_fieldAddrC 0 Tryz.underlying77 rfl ti29 (by decide) rfl) (eX (by repeat constructor)) (dd rfl) ?_
  refine a_take_on 3 rfl rfl rfl (by kernel_rfl) (by kernel_rfl) (by kernel_rfl) (v_load lone29 rfl (hX (by repeat constructor)) rfl) (eX (by repeat constructor)) (dd rfl) ?_
  refine a_take_on 4 rfl rfl rfl (by kernel_rfl) (by kernel_rfl) (by kernel_rfl) (v_load_all ⟨_, Tryz.underlying32⟩ ti32 rfl (hX (by repeat constructor)) rfl) (eX (by repeat constructor)) (dd rfl) ?_
  by_cases g1 : (namedP q.2.2.2.1) = true
  · rw [g1] at hT
    refine a_one_on 5 rfl rfl rfl (by kernel_rfl) (s_call_keep cl85 (hT) (first := []) (cap := []) rfl rfl rfl (dd rfl) (rX (by repeat constructor)) (fun _ => sX) (fun _ _ => a_on (eX (by repeat constructor)) ?_))
    refine a_take 6 rfl (by kernel_rfl) (by kernel_rfl) (by kernel_rfl) (v_pick_t rfl rfl) (eX (by repeat constructor)) (dd rfl) ?_
    refine a_take 7 rfl (by kernel_rfl) (by kernel_rfl) (by kernel_rfl) (v_move rfl) (eX (by repeat constructor)) (dd rfl) ?_
    refine a_know (s := 19) rfl (show _ = Value.bool true from rfl) ?_
    refine a_take_on 8 rfl rfl rfl (by kernel_rfl) (by kernel_rfl) (by kernel_rfl) (v_fieldAddrC 1 Tryz.underlying77 rfl ti75 (by decide) rfl) (eX (by repeat constructor)) (dd rfl) ?_
    refine a_take_on 9 rfl rfl rfl (by kernel_rfl) (by kernel_rfl) (by kernel_rfl) (v_load lone75 rfl (hX (by repeat constructor)) rfl) (eX (by repeat constructor)) (dd rfl) ?_
    refine a_take_on 10 rfl rfl rfl (by kernel_rfl) (by kernel_rfl) (by kernel_rfl) (v_load_all ⟨_, Tryz.underlying32⟩ ti32 rfl (hX (by repeat constructor)) rfl) (eX (by repeat constructor)) (dd rfl) ?_
    refine a_take_on 12 rfl rfl rfl (by kernel_rfl) (by kernel_rfl) (by kernel_rfl) (v_fieldAddrC 0 Tryz.underlying32 rfl ti3 (by decide) rfl) (eX (by repeat constructor)) (dd rfl) ?_
    refine a_take_on 13 rfl rfl rfl (by kernel_rfl) (by kernel_rfl) (by kernel_rfl) (v_load lone3 rfl (hX (by repeat constructor)) rfl) (eX (by repeat constructor)) (dd rfl) ?_
    refine a_take_on 14 rfl rfl rfl (by kernel_rfl) (by kernel_rfl) (by kernel_rfl) (v_buildS (places := [(0, 1), (1, 1), (2, 1), (3, 1), (4, 1), (5, 1), (6, 1), (7, 1)]) (cells := [_, .int .i64 0, .int .i64 0, .string ⟨#[]⟩, .string ⟨#[]⟩, .slice none 0 0, .slice none 0 0, .slice none 0 0]) Tryz.underlying32 ti32 (by kernel_rfl) rfl (by repeat (first | exact PartsC.nil | (apply PartsC.one (by first | exact OneC.lit rfl | exact OneC.sl (hX (by repeat constructor)) )) | (apply PartsC.lit rfl))) rfl) (eX (by repeat constructor)) (dd rfl) ?_
    refine a_one_on 11 rfl rfl rfl (by kernel_rfl) (s_call_keep cl81 (hR) (first := []) (cap := []) rfl rfl rfl (dd rfl) (rX (by repeat constructor)) (fun _ => sX) (fun _ _ => a_on (eX (by repeat constructor)) ?_))
    refine a_one_on 15 rfl rfl rfl (by kernel_rfl) (s_callf cl15 (hS) rfl (dd rfl) (pXs (by repeat constructor)) (fun _ _ => a_on (eX (by repeat constructor)) ?_))
    refine a_take 16 rfl (by kernel_rfl) (by kernel_rfl) (by kernel_rfl) (v_pick_t rfl rfl) (eX (by repeat constructor)) (dd rfl) ?_
    refine a_take 17 rfl (by kernel_rfl) (by kernel_rfl) (by kernel_rfl) (v_assign rfl) (eX (by repeat constructor)) (dd rfl) ?_
    refine a_done (by kernel_rfl) ?_ _
    refine c_ret1 Tryz.func12 rfl rfl fun w O hS => ?_
    exact ⟨(), congrArg Value.bool (decide_eq_decide.2 (by rw [hi, g1]; simp)), trivial, trivial⟩
  · have g2 : (namedP q.2.2.2.1) = false := Bool.eq_false_iff.2 g1
    rw [g2] at hT
    refine a_one_on 5 rfl rfl rfl (by kernel_rfl) (s_call_keep cl85 (hT) (first := []) (cap := []) rfl rfl rfl (dd rfl) (rX (by repeat constructor)) (fun _ => sX) (fun _ _ => a_on (eX (by repeat constructor)) ?_))
    refine a_take 6 rfl (by kernel_rfl) (by kernel_rfl) (by kernel_rfl) (v_pick_t rfl rfl) (eX (by repeat constructor)) (dd rfl) ?_
    refine a_take 7 rfl (by kernel_rfl) (by kernel_rfl) (by kernel_rfl) (v_move rfl) (eX (by repeat constructor)) (dd rfl) ?_
    refine a_know (s := 19) rfl (show _ = Value.bool false from rfl) ?_
    refine a_take_off 8 rfl rfl rfl rfl (by kernel_rfl) (by kernel_rfl) (by kernel_rfl) (eX (by repeat constructor)) (dd rfl) ?_
    refine a_take_off 9 rfl rfl rfl rfl (by kernel_rfl) (by kernel_rfl) (by kernel_rfl) (eX (by repeat constructor)) (dd rfl) ?_
    refine a_take_off 10 rfl rfl rfl rfl (by kernel_rfl) (by kernel_rfl) (by kernel_rfl) (eX (by repeat constructor)) (dd rfl) ?_
    refine a_take_off 11 rfl rfl rfl rfl (by kernel_rfl) (by kernel_rfl) (by kernel_rfl) (eX (by repeat constructor)) (dd rfl) ?_
    refine a_take_off 12 rfl rfl rfl rfl (by kernel_rfl) (by kernel_rfl) (by kernel_rfl) (eX (by repeat constructor)) (dd rfl) ?_
    refine a_take_off 13 rfl rfl rfl rfl (by kernel_rfl) (by kernel_rfl) (by kernel_rfl) (eX (by repeat constructor)) (dd rfl) ?_
    refine a_take_off 14 rfl rfl rfl rfl (by kernel_rfl) (by kernel_rfl) (by kernel_rfl) (eX (by repeat constructor)) (dd rfl) ?_
    refine a_take_off 15 rfl rfl rfl rfl (by kernel_rfl) (by kernel_rfl) (by kernel_rfl) (eX (by repeat constructor)) (dd rfl) ?_
    refine a_take 16 rfl (by kernel_rfl) (by kernel_rfl) (by kernel_rfl) (v_pick_f rfl rfl) (eX (by repeat constructor)) (dd rfl) ?_
    refine a_take 17 rfl (by kernel_rfl) (by kernel_rfl) (by kernel_rfl) (v_assign rfl) (eX (by repeat constructor)) (dd rfl) ?_
    refine a_done (by kernel_rfl) ?_ _
    refine c_ret1 Tryz.func12 rfl rfl fun w O hS => ?_
    exact ⟨(), congrArg Value.bool (decide_eq_false (by rw [hi, g2]; simp)).symm, trivial, trivial⟩
set_option maxRecDepth 100000 in
theorem right10_con (q : Rq9) (d f l : Value) (hk : q.1 = 10) (hq : FineQ q) : Con Tryz.prog 12 [.agg #[.int .i64 q.1, .int .i64 q.2.1, .int .i64 q.2.2.1, .string q.2.2.2.1, .string q.2.2.2.2.1, d, f, l]] [Sl (eInt .i64) d q.2.2.2.2.2.1, Sl eStr f q.2.2.2.2.2.2.1, Sl ePr l q.2.2.2.2.2.2.2] (γ := Unit) (fun _ => .bool (decide (RightQ q))) (fun _ => True) (fun _ => []) := by
  have hlk : ∀ b1 b2, Go.SL.look (kindsM b1 b2) q.1 = some (.agg #[fnV 101, fnV 81]) := fun b1 b2 => by rw [hk]; exact look10 b1 b2
  have hT := tWatch_con q d f l hq.name
  have hR := rName_con q d f l
  have hi := right_iff10 hk
  have hS := sameReq_con (q.1, q.2.1, q.2.2.1, ⟨#[]⟩, q.2.2.2.2.1, q.2.2.2.2.2.1, q.2.2.2.2.2.2.1, q.2.2.2.2.2.2.2) (zeroQ q.1) (d) (f) (l) (.slice none 0 0) (.slice none 0 0) (.slice none 0 0) ⟨hq.size.1, hq.size.2.1, hq.size.2.2⟩ (zeroQ_size _)
  dsimp only at hS
  refine con_of Tryz.func12 rfl (dd rfl) fun w0 O0 => ?_
  refine c_seq ?_
  refine c_region ?_
  refine o_step (s_box rfl (dd rfl) (fun b1 => ?_))
  refine o_val (v_assign rfl) (dd rfl) ?_
  refine o_nil ?_
  refine c_seq ?_
  refine c_joinR (γ := Nat × Nat × Nat × Nat) [(1, _), (2, _)] (fun _ => True) (fun g => [(3, ptr g.1), (4, .bool true)]) (fun g => [Blk g.1 77 [fnV 101, fnV 81], Blk b1 32 [.int .i64 q.1, .int .i64 q.2.1, .int .i64 q.2.2.1, .string q.2.2.2.1, .string q.2.2.2.2.1, d, f, l], Sl (eInt .i64) d q.2.2.2.2.2.1, Sl eStr f q.2.2.2.2.2.2.1, Sl ePr l q.2.2.2.2.2.2.2, Blk g.2.2.1 75 [fnV 81], Blk g.2.2.2 75 [fnV 82]]) (by repeat (first | exact trivial | refine ⟨rfl, ?_⟩)) ?_ ?_
  rotate_left
  · intro MEET
    skip
    refine c_held [BlkR b1 32 [.int .i64 q.1, .int .i64 q.2.1, .int .i64 q.2.2.1, .string q.2.2.2.1, .string q.2.2.2.2.1, d, f, l], Sl (eInt .i64) d q.2.2.2.2.2.1, Sl eStr f q.2.2.2.2.2.2.1, Sl ePr l q.2.2.2.2.2.2.2] rfl ?_
    refine a_take 1 rfl (by kernel_rfl) (by kernel_rfl) (by kernel_rfl) (v_fieldAddrC 0 Tryz.underlying32 rfl ti3 (by decide) rfl) (eX (by repeat constructor)) (dd rfl) ?_
    refine a_take 2 rfl (by kernel_rfl) (by kernel_rfl) (by kernel_rfl) (v_load lone3 rfl (hX (by repeat constructor)) rfl) (eX (by repeat constructor)) (dd rfl) ?_
    refine a_two 0 7 rfl rfl (by kernel_rfl) ?_ ?_
    · skip
      refine s_callf cl39 (kinds_con) rfl (dd rfl) (pXs (by repeat constructor)) (fun g _ => a_on (eX (by repeat constructor)) ?_)
      refine a_two 3 7 rfl rfl (by kernel_rfl) ?_ ?_
      · skip
        refine s_val (v_lookupS kInt Tryz.underlying79 Tryz.underlying3 ti77 rfl rfl (hX (by repeat constructor)) (hlk g.2.1 g.2.2)) (dd rfl) (a_on (eX (by repeat constructor)) ?_)
        refine a_take 4 rfl (by kernel_rfl) (by kernel_rfl) (by kernel_rfl) (v_move rfl) (eX (by repeat constructor)) (dd rfl) ?_
        refine a_take 5 rfl (by kernel_rfl) (by kernel_rfl) (by kernel_rfl) (v_extract rfl rfl) (eX (by repeat constructor)) (dd rfl) ?_
        refine a_take 6 rfl (by kernel_rfl) (by kernel_rfl) (by kernel_rfl) (v_extract rfl rfl) (eX (by repeat constructor)) (dd rfl) ?_
        refine a_one 7 rfl (by kernel_rfl) (s_alloc ti77 (dd rfl) (fun b3 => a_on (eX (by repeat constructor)) ?_))
        refine a_one 8 rfl (by kernel_rfl) (s_store_all ti77 rfl rfl (by first | exact CellsV.lit rfl | exact CellsV.one (by first | exact OneC.lit rfl | exact OneC.sl (hX (by repeat constructor)) )) (by repeat (first | exact OneAll.nil | (refine OneAll.cons ?_ ?_; · first | exact OneC.lit rfl | exact OneC.sl (hX (by repeat constructor)) ) | exact OneAll.rd (hX (by repeat constructor)))) rfl (pB (by repeat constructor)) rfl (a_on (eX (by repeat constructor)) ?_))
        refine a_take 9 rfl (by kernel_rfl) (by kernel_rfl) (by kernel_rfl) (v_assign rfl) (eX (by repeat constructor)) (dd rfl) ?_
        refine a_done (by kernel_rfl) ?_ _
        refine c_use (MEET ((b3, g)) (trivial)) (by repeat (first | exact trivial | refine ⟨rfl, ?_⟩)) (eX (by repeat constructor))
      · skip
        refine s_alloc ti77 (dd rfl) (fun b3 => a_on (eX (by repeat constructor)) ?_)
        refine a_one 3 rfl (by kernel_rfl) (s_val (v_lookupS kInt Tryz.underlying79 Tryz.underlying3 ti77 rfl rfl (hX (by repeat constructor)) (hlk g.2.1 g.2.2)) (dd rfl) (a_on (eX (by repeat constructor)) ?_))
        refine a_take 4 rfl (by kernel_rfl) (by kernel_rfl) (by kernel_rfl) (v_move rfl) (eX (by repeat constructor)) (dd rfl) ?_
        refine a_take 5 rfl (by kernel_rfl) (by kernel_rfl) (by kernel_rfl) (v_extract rfl rfl) (eX (by repeat constructor)) (dd rfl) ?_
        refine a_take 6 rfl (by kernel_rfl) (by kernel_rfl) (by kernel_rfl) (v_extract rfl rfl) (eX (by repeat constructor)) (dd rfl) ?_
        refine a_one 8 rfl (by kernel_rfl) (s_store_all ti77 rfl rfl (by first | exact CellsV.lit rfl | exact CellsV.one (by first | exact OneC.lit rfl | exact OneC.sl (hX (by repeat constructor)) )) (by repeat (first | exact OneAll.nil | (refine OneAll.cons ?_ ?_; · first | exact OneC.lit rfl | exact OneC.sl (hX (by repeat constructor)) ) | exact OneAll.rd (hX (by repeat constructor)))) rfl (pB (by repeat constructor)) rfl (a_on (eX (by repeat constructor)) ?_))
        refine a_take 9 rfl (by kernel_rfl) (by kernel_rfl) (by kernel_rfl) (v_assign rfl) (eX (by repeat constructor)) (dd rfl) ?_
        refine a_done (by kernel_rfl) ?_ _
        refine c_use (MEET ((b3, g)) (trivial)) (by repeat (first | exact trivial | refine ⟨rfl, ?_⟩)) (eX (by repeat constructor))
    · skip
      refine s_alloc ti77 (dd rfl) (fun b3 => a_on (eX (by repeat constructor)) ?_)
      refine a_one 0 rfl (by kernel_rfl) (s_callf cl39 (kinds_con) rfl (dd rfl) (pXs (by repeat constructor)) (fun g _ => a_on (eX (by repeat constructor)) ?_))
      refine a_one 3 rfl (by kernel_rfl) (s_val (v_lookupS kInt Tryz.underlying79 Tryz.underlying3 ti77 rfl rfl (hX (by repeat constructor)) (hlk g.2.1 g.2.2)) (dd rfl) (a_on (eX (by repeat constructor)) ?_))
      refine a_take 4 rfl (by kernel_rfl) (by kernel_rfl) (by kernel_rfl) (v_move rfl) (eX (by repeat constructor)) (dd rfl) ?_
      refine a_take 5 rfl (by kernel_rfl) (by kernel_rfl) (by kernel_rfl) (v_extract rfl rfl) (eX (by repeat constructor)) (dd rfl) ?_
      refine a_take 6 rfl (by kernel_rfl) (by kernel_rfl) (by kernel_rfl) (v_extract rfl rfl) (eX (by repeat constructor)) (dd rfl) ?_
      refine a_one 8 rfl (by kernel_rfl) (s_store_all ti77 rfl rfl (by first | exact CellsV.lit rfl | exact CellsV.one (by first | exact OneC.lit rfl | exact OneC.sl (hX (by repeat constructor)) )) (by repeat (first | exact OneAll.nil | (refine OneAll.cons ?_ ?_; · first | exact OneC.lit rfl | exact OneC.sl (hX (by repeat constructor)) ) | exact OneAll.rd (hX (by repeat constructor)))) rfl (pB (by repeat constructor)) rfl (a_on (eX (by repeat constructor)) ?_))
      refine a_take 9 rfl (by kernel_rfl) (by kernel_rfl) (by kernel_rfl) (v_assign rfl) (eX (by repeat constructor)) (dd rfl) ?_
      refine a_done (by kernel_rfl) ?_ _
      refine c_use (MEET ((b3, g)) (trivial)) (by repeat (first | exact trivial | refine ⟨rfl, ?_⟩)) (eX (by repeat constructor))
  rintro ⟨b3, bm, bn, bg⟩ -
  dsimp only [List.cons_append, List.nil_append]
  refine c_seq ?_
  refine c_held [BlkR b3 77 [fnV 101, fnV 81], BlkR b1 32 [.int .i64 q.1, .int .i64 q.2.1, .int .i64 q.2.2.1, .string q.2.2.2.1, .string q.2.2.2.2.1, d, f, l], Sl (eInt .i64) d q.2.2.2.2.2.1, Sl eStr f q.2.2.2.2.2.2.1, Sl ePr l q.2.2.2.2.2.2.2] rfl ?_
  refine a_take 0 rfl (by kernel_rfl) (by kernel_rfl) (by kernel_rfl) (v_move rfl) (eX (by repeat constructor)) (dd rfl) ?_
  refine a_take 1 rfl (by kernel_rfl) (by kernel_rfl) (by kernel_rfl) (v_move rfl) (eX (by repeat constructor)) (dd rfl) ?_
  refine a_take_on 2 rfl rfl rfl (by kernel_rfl) (by kernel_rfl) (by kernel_rfl) (v_fieldAddrC 0 Tryz.underlying77 rfl ti29 (by decide) rfl) (eX (by repeat constructor)) (dd rfl) ?_
  refine a_take_on 3 rfl rfl rfl (by kernel_rfl) (by kernel_rfl) (by kernel_rfl) (v_load lone29 rfl (hX (by repeat constructor)) rfl) (eX (by repeat constructor)) (dd rfl) ?_
  refine a_take_on 4 rfl rfl rfl (by kernel_rfl) (by kernel_rfl) (by kernel_rfl) (v_load_all ⟨_, Tryz.underlying32⟩ ti32 rfl (hX (by repeat constructor)) rfl) (eX (by repeat constructor)) (dd rfl) ?_
  by_cases g1 : (decide (q.2.2.2.1 = ⟨#[]⟩) || namedP q.2.2.2.1) = true
  · rw [g1] at hT
    refine a_one_on 5 rfl rfl rfl (by kernel_rfl) (s_call_keep cl101 (hT) (first := []) (cap := []) rfl rfl rfl (dd rfl) (rX (by repeat constructor)) (fun _ => sX) (fun _ _ => a_on (eX (by repeat constructor)) ?_))
    refine a_take 6 rfl (by kernel_rfl) (by kernel_rfl) (by kernel_rfl) (v_pick_t rfl rfl) (eX (by repeat constructor)) (dd rfl) ?_
    refine a_take 7 rfl (by kernel_rfl) (by kernel_rfl) (by kernel_rfl) (v_move rfl) (eX (by repeat constructor)) (dd rfl) ?_
    refine a_know (s := 19) rfl (show _ = Value.bool true from rfl) ?_
    refine a_take_on 8 rfl rfl rfl (by kernel_rfl) (by kernel_rfl) (by kernel_rfl) (v_fieldAddrC 1 Tryz.underlying77 rfl ti75 (by decide) rfl) (eX (by repeat constructor)) (dd rfl) ?_
    refine a_take_on 9 rfl rfl rfl (by kernel_rfl) (by kernel_rfl) (by kernel_rfl) (v_load lone75 rfl (hX (by repeat constructor)) rfl) (eX (by repeat constructor)) (dd rfl) ?_
    refine a_take_on 10 rfl rfl rfl (by kernel_rfl) (by kernel_rfl) (by kernel_rfl) (v_load_all ⟨_, Tryz.underlying32⟩ ti32 rfl (hX (by repeat constructor)) rfl) (eX (by repeat constructor)) (dd rfl) ?_
    refine a_take_on 12 rfl rfl rfl (by kernel_rfl) (by kernel_rfl) (by kernel_rfl) (v_fieldAddrC 0 Tryz.underlying32 rfl ti3 (by decide) rfl) (eX (by repeat constructor)) (dd rfl) ?_
    refine a_take_on 13 rfl rfl rfl (by kernel_rfl) (by kernel_rfl) (by kernel_rfl) (v_load lone3 rfl (hX (by repeat constructor)) rfl) (eX (by repeat constructor)) (dd rfl) ?_
    refine a_take_on 14 rfl rfl rfl (by kernel_rfl) (by kernel_rfl) (by kernel_rfl) (v_buildS (places := [(0, 1), (1, 1), (2, 1), (3, 1), (4, 1), (5, 1), (6, 1), (7, 1)]) (cells := [_, .int .i64 0, .int .i64 0, .string ⟨#[]⟩, .string ⟨#[]⟩, .slice none 0 0, .slice none 0 0, .slice none 0 0]) Tryz.underlying32 ti32 (by kernel_rfl) rfl (by repeat (first | exact PartsC.nil | (apply PartsC.one (by first | exact OneC.lit rfl | exact OneC.sl (hX (by repeat constructor)) )) | (apply PartsC.lit rfl))) rfl) (eX (by repeat constructor)) (dd rfl) ?_
    refine a_one_on 11 rfl rfl rfl (by kernel_rfl) (s_call_keep cl81 (hR) (first := []) (cap := []) rfl rfl rfl (dd rfl) (rX (by repeat constructor)) (fun _ => sX) (fun _ _ => a_on (eX (by repeat constructor)) ?_))
    refine a_one_on 15 rfl rfl rfl (by kernel_rfl) (s_callf cl15 (hS) rfl (dd rfl) (pXs (by repeat constructor)) (fun _ _ => a_on (eX (by repeat constructor)) ?_))
    refine a_take 16 rfl (by kernel_rfl) (by kernel_rfl) (by kernel_rfl) (v_pick_t rfl rfl) (eX (by repeat constructor)) (dd rfl) ?_
    refine a_take 17 rfl (by kernel_rfl) (by kernel_rfl) (by kernel_rfl) (v_assign rfl) (eX (by repeat constructor)) (dd rfl) ?_
    refine a_done (by kernel_rfl) ?_ _
    refine c_ret1 Tryz.func12 rfl rfl fun w O hS => ?_
    exact ⟨(), congrArg Value.bool (decide_eq_decide.2 (by rw [hi, g1]; simp)), trivial, trivial⟩
  · have g2 : (decide (q.2.2.2.1 = ⟨#[]⟩) || namedP q.2.2.2.1) = false := Bool.eq_false_iff.2 g1
    rw [g2] at hT
    refine a_one_on 5 rfl rfl rfl (by kernel_rfl) (s_call_keep cl101 (hT) (first := []) (cap := []) rfl rfl rfl (dd rfl) (rX (by repeat constructor)) (fun _ => sX) (fun _ _ => a_on (eX (by repeat constructor)) ?_))
    refine a_take 6 rfl (by kernel_rfl) (by kernel_rfl) (by kernel_rfl) (v_pick_t rfl rfl) (eX (by repeat constructor)) (dd rfl) ?_
    refine a_take 7 rfl (by kernel_rfl) (by kernel_rfl) (by kernel_rfl) (v_move rfl) (eX (by repeat constructor)) (dd rfl) ?_
    refine a_know (s := 19) rfl (show _ = Value.bool false from rfl) ?_
    refine a_take_off 8 rfl rfl rfl rfl (by kernel_rfl) (by kernel_rfl) (by kernel_rfl) (eX (by repeat constructor)) (dd rfl) ?_
    refine a_take_off 9 rfl rfl rfl rfl (by kernel_rfl) (by kernel_rfl) (by kernel_rfl) (eX (by repeat constructor)) (dd rfl) ?_
    refine a_take_off 10 rfl rfl rfl rfl (by kernel_rfl) (by kernel_rfl) (by kernel_rfl) (eX (by repeat constructor)) (dd rfl) ?_
    refine a_take_off 11 rfl rfl rfl rfl (by kernel_rfl) (by kernel_rfl) (by kernel_rfl) (eX (by repeat constructor)) (dd rfl) ?_
    refine a_take_off 12 rfl rfl rfl rfl (by kernel_rfl) (by kernel_rfl) (by kernel_rfl) (eX (by repeat constructor)) (dd rfl) ?_
    refine a_take_off 13 rfl rfl rfl rfl (by kernel_rfl) (by kernel_rfl) (by kernel_rfl) (eX (by repeat constructor)) (dd rfl) ?_
    refine a_take_off 14 rfl rfl rfl rfl (by kernel_rfl) (by kernel_rfl) (by kernel_rfl) (eX (by repeat constructor)) (dd rfl) ?_
    refine a_take_off 15 rfl rfl rfl rfl (by kernel_rfl) (by kernel_rfl) (by kernel_rfl) (eX (by repeat constructor)) (dd rfl) ?_
    refine a_take 16 rfl (by kernel_rfl) (by kernel_rfl) (by kernel_rfl) (v_pick_f rfl rfl) (eX (by repeat constructor)) (dd rfl) ?_
    refine a_take 17 rfl (by kernel_rfl) (by kernel_rfl) (by kernel_rfl) (v_assign rfl) (eX (by repeat constructor)) (dd rfl) ?_
    refine a_done (by kernel_rfl) ?_ _
    refine c_ret1 Tryz.func12 rfl rfl fun w O hS => ?_
    exact ⟨(), congrArg Value.bool (decide_eq_false (by rw [hi, g2]; simp)).symm, trivial, trivial⟩
set_option maxRecDepth 100000 in
theorem right11_con (q : Rq9) (d f l : Value) (hk : q.1 = 11) (hq : FineQ q) : Con Tryz.prog 12 [.agg #[.int .i64 q.1, .int .i64 q.2.1, .int .i64 q.2.2.1, .string q.2.2.2.1, .string q.2.2.2.2.1, d, f, l]] [Sl (eInt .i64) d q.2.2.2.2.2.1, Sl eStr f q.2.2.2.2.2.2.1, Sl ePr l q.2.2.2.2.2.2.2] (γ := Unit) (fun _ => .bool (decide (RightQ q))) (fun _ => True) (fun _ => []) := by
  have hlk : ∀ b1 b2, Go.SL.look (kindsM b1 b2) q.1 = some (.agg #[fnV 83, fnV 84]) := fun b1 b2 => by rw [hk]; exact look11 b1 b2
  have hT := tNone_con q d f l
  have hR := rNone_con q d f l
  have hi := right_iff11 hk
  have hS := sameReq_con (q.1, q.2.1, q.2.2.1, q.2.2.2.1, q.2.2.2.2.1, q.2.2.2.2.2.1, q.2.2.2.2.2.2.1, q.2.2.2.2.2.2.2) (zeroQ q.1) (d) (f) (l) (.slice none 0 0) (.slice none 0 0) (.slice none 0 0) ⟨hq.size.1, hq.size.2.1, hq.size.2.2⟩ (zeroQ_size _)
  dsimp only at hS
  refine con_of Tryz.func12 rfl (dd rfl) fun w0 O0 => ?_
  refine c_seq ?_
  refine c_region ?_
  refine o_step (s_box rfl (dd rfl) (fun b1 => ?_))
  refine o_val (v_assign rfl) (dd rfl) ?_
  refine o_nil ?_
  refine c_seq ?_
  refine c_joinR (γ := Nat × Nat × Nat × Nat) [(1, _), (2, _)] (fun _ => True) (fun g => [(3, ptr g.1), (4, .bool true)]) (fun g => [Blk g.1 77 [fnV 83, fnV 84], Blk b1 32 [.int .i64 q.1, .int .i64 q.2.1, .int .i64 q.2.2.1, .string q.2.2.2.1, .string q.2.2.2.2.1, d, f, l], Sl (eInt .i64) d q.2.2.2.2.2.1, Sl eStr f q.2.2.2.2.2.2.1, Sl ePr l q.2.2.2.2.2.2.2, Blk g.2.2.1 75 [fnV 81], Blk g.2.2.2 75 [fnV 82]]) (by repeat (first | exact trivial | refine ⟨rfl, ?_⟩)) ?_ ?_
  rotate_left
  · intro MEET
    skip
    refine c_held [BlkR b1 32 [.int .i64 q.1, .int .i64 q.2.1, .int .i64 q.2.2.1, .string q.2.2.2.1, .string q.2.2.2.2.1, d, f, l], Sl (eInt .i64) d q.2.2.2.2.2.1, Sl eStr f q.2.2.2.2.2.2.1, Sl ePr l q.2.2.2.2.2.2.2] rfl ?_
    refine a_take 1 rfl (by kernel_rfl) (by kernel_rfl) (by kernel_rfl) (v_fieldAddrC 0 Tryz.underlying32 rfl ti3 (by decide) rfl) (eX (by repeat constructor)) (dd rfl) ?_
    refine a_take 2 rfl (by kernel_rfl) (by kernel_rfl) (by kernel_rfl) (v_load lone3 rfl (hX (by repeat constructor)) rfl) (eX (by repeat constructor)) (dd rfl) ?_
    refine a_two 0 7 rfl rfl (by kernel_rfl) ?_ ?_
    · skip
      refine s_callf cl39 (kinds_con) rfl (dd rfl) (pXs (by repeat constructor)) (fun g _ => a_on (eX (by repeat constructor)) ?_)
      refine a_two 3 7 rfl rfl (by kernel_rfl) ?_ ?_
      · skip
        refine s_val (v_lookupS kInt Tryz.underlying79 Tryz.underlying3 ti77 rfl rfl (hX (by repeat constructor)) (hlk g.2.1 g.2.2)) (dd rfl) (a_on (eX (by repeat constructor)) ?_)
        refine a_take 4 rfl (by kernel_rfl) (by kernel_rfl) (by kernel_rfl) (v_move rfl) (eX (by repeat constructor)) (dd rfl) ?_
        refine a_take 5 rfl (by kernel_rfl) (by kernel_rfl) (by kernel_rfl) (v_extract rfl rfl) (eX (by repeat constructor)) (dd rfl) ?_
        refine a_take 6 rfl (by kernel_rfl) (by kernel_rfl) (by kernel_rfl) (v_extract rfl rfl) (eX (by repeat constructor)) (dd rfl) ?_
        refine a_one 7 rfl (by kernel_rfl) (s_alloc ti77 (dd rfl) (fun b3 => a_on (eX (by repeat constructor)) ?_))
        refine a_one 8 rfl (by kernel_rfl) (s_store_all ti77 rfl rfl (by first | exact CellsV.lit rfl | exact CellsV.one (by first | exact OneC.lit rfl | exact OneC.sl (hX (by repeat constructor)) )) (by repeat (first | exact OneAll.nil | (refine OneAll.cons ?_ ?_; · first | exact OneC.lit rfl | exact OneC.sl (hX (by repeat constructor)) ) | exact OneAll.rd (hX (by repeat constructor)))) rfl (pB (by repeat constructor)) rfl (a_on (eX (by repeat constructor)) ?_))
        refine a_take 9 rfl (by kernel_rfl) (by kernel_rfl) (by kernel_rfl) (v_assign rfl) (eX (by repeat constructor)) (dd rfl) ?_
        refine a_done (by kernel_rfl) ?_ _
        refine c_use (MEET ((b3, g)) (trivial)) (by repeat (first | exact trivial | refine ⟨rfl, ?_⟩)) (eX (by repeat constructor))
      · skip
        refine s_alloc ti77 (dd rfl) (fun b3 => a_on (eX (by repeat constructor)) ?_)
        refine a_one 3 rfl (by kernel_rfl) (s_val (v_lookupS kInt Tryz.underlying79 Tryz.underlying3 ti77 rfl rfl (hX (by repeat constructor)) (hlk g.2.1 g.2.2)) (dd rfl) (a_on (eX (by repeat constructor)) ?_))
        refine a_take 4 rfl (by kernel_rfl) (by kernel_rfl) (by kernel_rfl) (v_move rfl) (eX (by repeat constructor)) (dd rfl) ?_
        refine a_take 5 rfl (by kernel_rfl) (by kernel_rfl) (by kernel_rfl) (v_extract rfl rfl) (eX (by repeat constructor)) (dd rfl) ?_
        refine a_take 6 rfl (by kernel_rfl) (by kernel_rfl) (by kernel_rfl) (v_extract rfl rfl) (eX (by repeat constructor)) (dd rfl) ?_
        refine a_one 8 rfl (by kernel_rfl) (s_store_all ti77 rfl rfl (by first | exact CellsV.lit rfl | exact CellsV.one (by first | exact OneC.lit rfl | exact OneC.sl (hX (by repeat constructor)) )) (by repeat (first | exact OneAll.nil | (refine OneAll.cons ?_ ?_; · first | exact OneC.lit rfl | exact OneC.sl (hX (by repeat constructor)) ) | exact OneAll.rd (hX (by repeat constructor)))) rfl (pB (by repeat constructor)) rfl (a_on (eX (by repeat constructor)) ?_))
        refine a_take 9 rfl (by kernel_rfl) (by kernel_rfl) (by kernel_rfl) (v_assign rfl) (eX (by repeat constructor)) (dd rfl) ?_
        refine a_done (by kernel_rfl) ?_ _
        refine c_use (MEET ((b3, g)) (trivial)) (by repeat (first | exact trivial | refine ⟨rfl, ?_⟩)) (eX (by repeat constructor))
    · skip
      refine s_alloc ti77 (dd rfl) (fun b3 => a_on (eX (by repeat constructor)) ?_)
      refine a_one 0 rfl (by kernel_rfl) (s_callf cl39 (kinds_con) rfl (dd rfl) (pXs (by repeat constructor)) (fun g _ => a_on (eX (by repeat constructor)) ?_))
      refine a_one 3 rfl (by kernel_rfl) (s_val (v_lookupS kInt Tryz.underlying79 Tryz.underlying3 ti77 rfl rfl (hX (by repeat constructor)) (hlk g.2.1 g.2.2)) (dd rfl) (a_on (eX (by repeat constructor)) ?_))
      refine a_take 4 rfl (by kernel_rfl) (by kernel_rfl) (by kernel_rfl) (v_move rfl) (eX (by repeat constructor)) (dd rfl) ?_
      refine a_take 5 rfl (by kernel_rfl) (by kernel_rfl) (by kernel_rfl) (v_extract rfl rfl) (eX (by repeat constructor)) (dd rfl) ?_
      refine a_take 6 rfl (by kernel_rfl) (by kernel_rfl) (by kernel_rfl) (v_extract rfl rfl) (eX (by repeat constructor)) (dd rfl) ?_
      refine a_one 8 rfl (by kernel_rfl) (s_store_all ti77 rfl rfl (by first | exact CellsV.lit rfl | exact CellsV.one (by first | exact OneC.lit rfl | exact OneC.sl (hX (by repeat constructor)) )) (by repeat (first | exact OneAll.nil | (refine OneAll.cons ?_ ?_; · first | exact OneC.lit rfl | exact OneC.sl (hX (by repeat constructor)) ) | exact OneAll.rd (hX (by repeat constructor)))) rfl (pB (by repeat constructor)) rfl (a_on (eX (by repeat constructor)) ?_))
      refine a_take 9 rfl (by kernel_rfl) (by kernel_rfl) (by kernel_rfl) (v_assign rfl) (eX (by repeat constructor)) (dd rfl) ?_
      refine a_done (by kernel_rfl) ?_ _
      refine c_use (MEET ((b3, g)) (trivial)) (by repeat (first | exact trivial | refine ⟨rfl, ?_⟩)) (eX (by repeat constructor))
  rintro ⟨b3, bm, bn, bg⟩ -
  dsimp only [List.cons_append, List.nil_append]
  refine c_seq ?_
  refine c_held [BlkR b3 77 [fnV 83, fnV 84], BlkR b1 32 [.int .i64 q.1, .int .i64 q.2.1, .int .i64 q.2.2.1, .string q.2.2.2.1, .string q.2.2.2.2.1, d, f, l], Sl (eInt .i64) d q.2.2.2.2.2.1, Sl eStr f q.2.2.2.2.2.2.1, Sl ePr l q.2.2.2.2.2.2.2] rfl ?_
  refine a_take 0 rfl (by kernel_rfl) (by kernel_rfl) (by kernel_rfl) (v_move rfl) (eX (by repeat constructor)) (dd rfl) ?_
  refine a_take 1 rfl (by kernel_rfl) (by kernel_rfl) (by kernel_rfl) (v_move rfl) (eX (by repeat constructor)) (dd rfl) ?_
  refine a_take_on 2 rfl rfl rfl (by kernel_rfl) (by kernel_rfl) (by kernel_rfl) (v_fieldAddrC 0 Tryz.underlying77 rfl ti29 (by decide) rfl) (eX (by repeat constructor)) (dd rfl) ?_
  refine a_take_on 3 rfl rfl rfl (by kernel_rfl) (by kernel_rfl) (by kernel_rfl) (v_load lone29 rfl (hX (by repeat constructor)) rfl) (eX (by repeat constructor)) (dd rfl) ?_
  refine a_take_on 4 rfl rfl rfl (by kernel_rfl) (by kernel_rfl) (by kernel_rfl) (v_load_all ⟨_, Tryz.underlying32⟩ ti32 rfl (hX (by repeat constructor)) rfl) (eX (by repeat constructor)) (dd rfl) ?_
  refine a_one_on 5 rfl rfl rfl (by kernel_rfl) (s_call_keep cl83 (hT) (first := []) (cap := []) rfl rfl rfl (dd rfl) (rX (by repeat constructor)) (fun _ => sX) (fun _ _ => a_on (eX (by repeat constructor)) ?_))
  refine a_take 6 rfl (by kernel_rfl) (by kernel_rfl) (by kernel_rfl) (v_pick_t rfl rfl) (eX (by repeat constructor)) (dd rfl) ?_
  refine a_take 7 rfl (by kernel_rfl) (by kernel_rfl) (by kernel_rfl) (v_move rfl) (eX (by repeat constructor)) (dd rfl) ?_
  refine a_know (s := 19) rfl (show _ = Value.bool true from rfl) ?_
  refine a_take_on 8 rfl rfl rfl (by kernel_rfl) (by kernel_rfl) (by kernel_rfl) (v_fieldAddrC 1 Tryz.underlying77 rfl ti75 (by decide) rfl) (eX (by repeat constructor)) (dd rfl) ?_
  refine a_take_on 9 rfl rfl rfl (by kernel_rfl) (by kernel_rfl) (by kernel_rfl) (v_load lone75 rfl (hX (by repeat constructor)) rfl) (eX (by repeat constructor)) (dd rfl) ?_
  refine a_take_on 10 rfl rfl rfl (by kernel_rfl) (by kernel_rfl) (by kernel_rfl) (v_load_all ⟨_, Tryz.underlying32⟩ ti32 rfl (hX (by repeat constructor)) rfl) (eX (by repeat constructor)) (dd rfl) ?_
  refine a_take_on 12 rfl rfl rfl (by kernel_rfl) (by kernel_rfl) (by kernel_rfl) (v_fieldAddrC 0 Tryz.underlying32 rfl ti3 (by decide) rfl) (eX (by repeat constructor)) (dd rfl) ?_
  refine a_take_on 13 rfl rfl rfl (by kernel_rfl) (by kernel_rfl) (by kernel_rfl) (v_load lone3 rfl (hX (by repeat constructor)) rfl) (eX (by repeat constructor)) (dd rfl) ?_
  refine a_take_on 14 rfl rfl rfl (by kernel_rfl) (by kernel_rfl) (by kernel_rfl) (v_buildS (places := [(0, 1), (1, 1), (2, 1), (3, 1), (4, 1), (5, 1), (6, 1), (7, 1)]) (cells := [_, .int .i64 0, .int .i64 0, .string ⟨#[]⟩, .string ⟨#[]⟩, .slice none 0 0, .slice none 0 0, .slice none 0 0]) Tryz.underlying32 ti32 (by kernel_rfl) rfl (by repeat (first | exact PartsC.nil | (apply PartsC.one (by first | exact OneC.lit rfl | exact OneC.sl (hX (by repeat constructor)) )) | (apply PartsC.lit rfl))) rfl) (eX (by repeat constructor)) (dd rfl) ?_
  refine a_one_on 11 rfl rfl rfl (by kernel_rfl) (s_call_keep cl84 (hR) (first := []) (cap := []) rfl rfl rfl (dd rfl) (rX (by repeat constructor)) (fun _ => sX) (fun _ _ => a_on (eX (by repeat constructor)) ?_))
  refine a_one_on 15 rfl rfl rfl (by kernel_rfl) (s_callf cl15 (hS) rfl (dd rfl) (pXs (by repeat constructor)) (fun _ _ => a_on (eX (by repeat constructor)) ?_))
  refine a_take 16 rfl (by kernel_rfl) (by kernel_rfl) (by kernel_rfl) (v_pick_t rfl rfl) (eX (by repeat constructor)) (dd rfl) ?_
  refine a_take 17 rfl (by kernel_rfl) (by kernel_rfl) (by kernel_rfl) (v_assign rfl) (eX (by repeat constructor)) (dd rfl) ?_
  refine a_done (by kernel_rfl) ?_ _
  refine c_ret1 Tryz.func12 rfl rfl fun w O hS => ?_
  exact ⟨(), congrArg Value.bool (decide_eq_decide.2 (by rw [hi]; simp)), trivial, trivial⟩
set_option maxRecDepth 100000 in
theorem right12_con (q : Rq9) (d f l : Value) (hk : q.1 = 12) (hq : FineQ q) : Con Tryz.prog 12 [.agg #[.int .i64 q.1, .int .i64 q.2.1, .int .i64 q.2.2.1, .string q.2.2.2.1, .string q.2.2.2.2.1, d, f, l]] [Sl (eInt .i64) d q.2.2.2.2.2.1, Sl eStr f q.2.2.2.2.2.2.1, Sl ePr l q.2.2.2.2.2.2.2] (γ := Unit) (fun _ => .bool (decide (RightQ q))) (fun _ => True) (fun _ => []) := by
  have hlk : ∀ b1 b2, Go.SL.look (kindsM b1 b2) q.1 = some (.agg #[fnV 102, fnV 103]) := fun b1 b2 => by rw [hk]; exact look12 b1 b2
  have hT := tTake_con q d f l
  have hR := rTake_con q d f l
  have hi := right_iff12 hk
  have hS := sameReq_con (q.1, q.2.1, 0, q.2.2.2.1, q.2.2.2.2.1, q.2.2.2.2.2.1, q.2.2.2.2.2.2.1, q.2.2.2.2.2.2.2) (zeroQ q.1) (d) (f) (l) (.slice none 0 0) (.slice none 0 0) (.slice none 0 0) ⟨hq.size.1, hq.size.2.1, hq.size.2.2⟩ (zeroQ_size _)
  dsimp only at hS
  refine con_of Tryz.func12 rfl (dd rfl) fun w0 O0 => ?_
  refine c_seq ?_
  refine c_region ?_
  refine o_step (s_box rfl (dd rfl) (fun b1 => ?_))
  refine o_val (v_assign rfl) (dd rfl) ?_
  refine o_nil ?_
  refine c_seq ?_
  refine c_joinR (γ := Nat × Nat × Nat × Nat) [(1, _), (2, _)] (fun _ => True) (fun g => [(3, ptr g.1), (4, .bool true)]) (fun g => [Blk g.1 77 [fnV 102, fnV 103], Blk b1 32 [.int .i64 q.1, .int .i64 q.2.1, .int .i64 q.2.2.1, .string q.2.2.2.1, .string q.2.2.2.2.1, d, f, l], Sl (eInt .i64) d q.2.2.2.2.2.1, Sl eStr f q.2.2.2.2.2.2.1, Sl ePr l q.2.2.2.2.2.2.2, Blk g.2.2.1 75 [fnV 81], Blk g.2.2.2 75 [fnV 82]]) (by repeat (first | exact trivial | refine ⟨rfl, ?_⟩)) ?_ ?_
  rotate_left
  · intro MEET
    skip
    refine c_held [BlkR b1 32 [.int .i64 q.1, .int .i64 q.2.1, .int .i64 q.2.2.1, .string q.2.2.2.1, .string q.2.2.2.2.1, d, f, l], Sl (eInt .i64) d q.2.2.2.2.2.1, Sl eStr f q.2.2.2.2.2.2.1, Sl ePr l q.2.2.2.2.2.2.2] rfl ?_
    refine a_take 1 rfl (by kernel_rfl) (by kernel_rfl) (by kernel_rfl) (v_fieldAddrC 0 Tryz.underlying32 rfl ti3 (by decide) rfl) (eX (by repeat constructor)) (dd rfl) ?_
    refine a_take 2 rfl (by kernel_rfl) (by kernel_rfl) (by kernel_rfl) (v_load lone3 rfl (hX (by repeat constructor)) rfl) (eX (by repeat constructor)) (dd rfl) ?_
    refine a_two 0 7 rfl rfl (by kernel_rfl) ?_ ?_
    · skip
      refine s_callf cl39 (kinds_con) rfl (dd rfl) (pXs (by repeat constructor)) (fun g _ => a_on (eX (by repeat constructor)) ?_)
      refine a_two 3 7 rfl rfl (by kernel_rfl) ?_ ?_
      · skip
        refine s_val (v_lookupS kInt Tryz.underlying79 Tryz.underlying3 ti77 rfl rfl (hX (by repeat constructor)) (hlk g.2.1 g.2.2)) (dd rfl) (a_on (eX (by repeat constructor)) ?_)
        refine a_take 4 rfl (by kernel_rfl) (by kernel_rfl) (by kernel_rfl) (v_move rfl) (eX (by repeat constructor)) (dd rfl) ?_
        refine a_take 5 rfl (by kernel_rfl) (by kernel_rfl) (by kernel_rfl) (v_extract rfl rfl) (eX (by repeat constructor)) (dd rfl) ?_
        refine a_take 6 rfl (by kernel_rfl) (by kernel_rfl) (by kernel_rfl) (v_extract rfl rfl) (eX (by repeat constructor)) (dd rfl) ?_
        refine a_one 7 rfl (by kernel_rfl) (s_alloc ti77 (dd rfl) (fun b3 => a_on (eX (by repeat constructor)) ?_))
        refine a_one 8 rfl (by kernel_rfl) (s_store_all ti77 rfl rfl (by first | exact CellsV.lit rfl | exact CellsV.one (by first | exact OneC.lit rfl | exact OneC.sl (hX (by repeat constructor)) )) (by repeat (first | exact OneAll.nil | (refine OneAll.cons ?_ ?_; · first | exact OneC.lit rfl | exact OneC.sl (hX (by repeat constructor)) ) | exact OneAll.rd (hX (by repeat constructor)))) rfl (pB (by repeat constructor)) rfl (a_on (eX (by repeat constructor)) ?_))
        refine a_take 9 rfl (by kernel_rfl) (by kernel_rfl) (by kernel_rfl) (v_assign rfl) (eX (by repeat constructor)) (dd rfl) ?_
        refine a_done (by kernel_rfl) ?_ _
        refine c_use (MEET ((b3, g)) (trivial)) (by repeat (first | exact trivial | refine ⟨rfl, ?_⟩)) (eX (by repeat constructor))
      · skip
        refine s_alloc ti77 (dd rfl) (fun b3 => a_on (eX (by repeat constructor)) ?_)
        refine a_one 3 rfl (by kernel_rfl) (s_val (v_lookupS kInt Tryz.underlying79 Tryz.underlying3 ti77 rfl rfl (hX (by repeat constructor)) (hlk g.2.1 g.2.2)) (dd rfl) (a_on (eX (by repeat constructor)) ?_))
        refine a_take 4 rfl (by kernel_rfl) (by kernel_rfl) (by kernel_rfl) (v_move rfl) (eX (by repeat constructor)) (dd rfl) ?_
        refine a_take 5 rfl (by kernel_rfl) (by kernel_rfl) (by kernel_rfl) (v_extract rfl rfl) (eX (by repeat constructor)) (dd rfl) ?_
        refine a_take 6 rfl (by kernel_rfl) (by kernel_rfl) (by kernel_rfl) (v_extract rfl rfl) (eX (by repeat constructor)) (dd rfl) ?_
        refine a_one 8 rfl (by kernel_rfl) (s_store_all ti77 rfl rfl (by first | exact CellsV.lit rfl | exact CellsV.one (by first | exact OneC.lit rfl | exact OneC.sl (hX (by repeat constructor)) )) (by repeat (first | exact OneAll.nil | (refine OneAll.cons ?_ ?_; · first | exact OneC.lit rfl | exact OneC.sl (hX (by repeat constructor)) ) | exact OneAll.rd (hX (by repeat constructor)))) rfl (pB (by repeat constructor)) rfl (a_on (eX (by repeat constructor)) ?_))
        refine a_take 9 rfl (by kernel_rfl) (by kernel_rfl) (by kernel_rfl) (v_assign rfl) (eX (by repeat constructor)) (dd rfl) ?_
        refine a_done (by kernel_rfl) ?_ _
        refine c_use (MEET ((b3, g)) (trivial)) (by repeat (first | exact trivial | refine ⟨rfl, ?_⟩)) (eX (by repeat constructor))
    · skip
      refine s_alloc ti77 (dd rfl) (fun b3 => a_on (eX (by repeat constructor)) ?_)
      refine a_one 0 rfl (by kernel_rfl) (s_callf cl39 (kinds_con) rfl (dd rfl) (pXs (by repeat constructor)) (fun g _ => a_on (eX (by repeat constructor)) ?_))
      refine a_one 3 rfl (by kernel_rfl) (s_val (v_lookupS kInt Tryz.underlying79 Tryz.underlying3 ti77 rfl rfl (hX (by repeat constructor)) (hlk g.2.1 g.2.2)) (dd rfl) (a_on (eX (by repeat constructor)) ?_))
      refine a_take 4 rfl (by kernel_rfl) (by kernel_rfl) (by kernel_rfl) (v_move rfl) (eX (by repeat constructor)) (dd rfl) ?_
      refine a_take 5 rfl (by kernel_rfl) (by kernel_rfl) (by kernel_rfl) (v_extract rfl rfl) (eX (by repeat constructor)) (dd rfl) ?_
      refine a_take 6 rfl (by kernel_rfl) (by kernel_rfl) (by kernel_rfl) (v_extract rfl rfl) (eX (by repeat constructor)) (dd rfl) ?_
      refine a_one 8 rfl (by kernel_rfl) (s_store_all ti77 rfl rfl (by first | exact CellsV.lit rfl | exact CellsV.one (by first | exact OneC.lit rfl | exact OneC.sl (hX (by repeat constructor)) )) (by repeat (first | exact OneAll.nil | (refine OneAll.cons ?_ ?_; · first | exact OneC.lit rfl | exact OneC.sl (hX (by repeat constructor)) ) | exact OneAll.rd (hX (by repeat constructor)))) rfl (pB (by repeat constructor)) rfl (a_on (eX (by repeat constructor)) ?_))
      refine a_take 9 rfl (by kernel_rfl) (by kernel_rfl) (by kernel_rfl) (v_assign rfl) (eX (by repeat constructor)) (dd rfl) ?_
      refine a_done (by kernel_rfl) ?_ _
      refine c_use (MEET ((b3, g)) (trivial)) (by repeat (first | exact trivial | refine ⟨rfl, ?_⟩)) (eX (by repeat constructor))
  rintro ⟨b3, bm, bn, bg⟩ -
  dsimp only [List.cons_append, List.nil_append]
  refine c_seq ?_
  refine c_held [BlkR b3 77 [fnV 102, fnV 103], BlkR b1 32 [.int .i64 q.1, .int .i64 q.2.1, .int .i64 q.2.2.1, .string q.2.2.2.1, .string q.2.2.2.2.1, d, f, l], Sl (eInt .i64) d q.2.2.2.2.2.1, Sl eStr f q.2.2.2.2.2.2.1, Sl ePr l q.2.2.2.2.2.2.2] rfl ?_
  refine a_take 0 rfl (by kernel_rfl) (by kernel_rfl) (by kernel_rfl) (v_move rfl) (eX (by repeat constructor)) (dd rfl) ?_
  refine a_take 1 rfl (by kernel_rfl) (by kernel_rfl) (by kernel_rfl) (v_move rfl) (eX (by repeat constructor)) (dd rfl) ?_
  refine a_take_on 2 rfl rfl rfl (by kernel_rfl) (by kernel_rfl) (by kernel_rfl) (v_fieldAddrC 0 Tryz.underlying77 rfl ti29 (by decide) rfl) (eX (by repeat constructor)) (dd rfl) ?_
  refine a_take_on 3 rfl rfl rfl (by kernel_rfl) (by kernel_rfl) (by kernel_rfl) (v_load lone29 rfl (hX (by repeat constructor)) rfl) (eX (by repeat constructor)) (dd rfl) ?_
  refine a_take_on 4 rfl rfl rfl (by kernel_rfl) (by kernel_rfl) (by kernel_rfl) (v_load_all ⟨_, Tryz.underlying32⟩ ti32 rfl (hX (by repeat constructor)) rfl) (eX (by repeat constructor)) (dd rfl) ?_
  by_cases g1 : (decide (0 ≤ q.2.2.1 ∧ q.2.2.1 ≤ 100)) = true
  · rw [g1] at hT
    refine a_one_on 5 rfl rfl rfl (by kernel_rfl) (s_call_keep cl102 (hT) (first := []) (cap := []) rfl rfl rfl (dd rfl) (rX (by repeat constructor)) (fun _ => sX) (fun _ _ => a_on (eX (by repeat constructor)) ?_))
    refine a_take 6 rfl (by kernel_rfl) (by kernel_rfl) (by kernel_rfl) (v_pick_t rfl rfl) (eX (by repeat constructor)) (dd rfl) ?_
    refine a_take 7 rfl (by kernel_rfl) (by kernel_rfl) (by kernel_rfl) (v_move rfl) (eX (by repeat constructor)) (dd rfl) ?_
    refine a_know (s := 19) rfl (show _ = Value.bool true from rfl) ?_
    refine a_take_on 8 rfl rfl rfl (by kernel_rfl) (by kernel_rfl) (by kernel_rfl) (v_fieldAddrC 1 Tryz.underlying77 rfl ti75 (by decide) rfl) (eX (by repeat constructor)) (dd rfl) ?_
    refine a_take_on 9 rfl rfl rfl (by kernel_rfl) (by kernel_rfl) (by kernel_rfl) (v_load lone75 rfl (hX (by repeat constructor)) rfl) (eX (by repeat constructor)) (dd rfl) ?_
    refine a_take_on 10 rfl rfl rfl (by kernel_rfl) (by kernel_rfl) (by kernel_rfl) (v_load_all ⟨_, Tryz.underlying32⟩ ti32 rfl (hX (by repeat constructor)) rfl) (eX (by repeat constructor)) (dd rfl) ?_
    refine a_take_on 12 rfl rfl rfl (by kernel_rfl) (by kernel_rfl) (by kernel_rfl) (v_fieldAddrC 0 Tryz.underlying32 rfl ti3 (by decide) rfl) (eX (by repeat constructor)) (dd rfl) ?_
    refine a_take_on 13 rfl rfl rfl (by kernel_rfl) (by kernel_rfl) (by kernel_rfl) (v_load lone3 rfl (hX (by repeat constructor)) rfl) (eX (by repeat constructor)) (dd rfl) ?_
    refine a_take_on 14 rfl rfl rfl (by kernel_rfl) (by kernel_rfl) (by kernel_rfl) (v_buildS (places := [(0, 1), (1, 1), (2, 1), (3, 1), (4, 1), (5, 1), (6, 1), (7, 1)]) (cells := [_, .int .i64 0, .int .i64 0, .string ⟨#[]⟩, .string ⟨#[]⟩, .slice none 0 0, .slice none 0 0, .slice none 0 0]) Tryz.underlying32 ti32 (by kernel_rfl) rfl (by repeat (first | exact PartsC.nil | (apply PartsC.one (by first | exact OneC.lit rfl | exact OneC.sl (hX (by repeat constructor)) )) | (apply PartsC.lit rfl))) rfl) (eX (by repeat constructor)) (dd rfl) ?_
    refine a_one_on 11 rfl rfl rfl (by kernel_rfl) (s_call_keep cl103 (hR) (first := []) (cap := []) rfl rfl rfl (dd rfl) (rX (by repeat constructor)) (fun _ => sX) (fun _ _ => a_on (eX (by repeat constructor)) ?_))
    refine a_one_on 15 rfl rfl rfl (by kernel_rfl) (s_callf cl15 (hS) rfl (dd rfl) (pXs (by repeat constructor)) (fun _ _ => a_on (eX (by repeat constructor)) ?_))
    refine a_take 16 rfl (by kernel_rfl) (by kernel_rfl) (by kernel_rfl) (v_pick_t rfl rfl) (eX (by repeat constructor)) (dd rfl) ?_
    refine a_take 17 rfl (by kernel_rfl) (by kernel_rfl) (by kernel_rfl) (v_assign rfl) (eX (by repeat constructor)) (dd rfl) ?_
    refine a_done (by kernel_rfl) ?_ _
    refine c_ret1 Tryz.func12 rfl rfl fun w O hS => ?_
    exact ⟨(), congrArg Value.bool (decide_eq_decide.2 (by rw [hi, g1]; simp)), trivial, trivial⟩
  · have g2 : (decide (0 ≤ q.2.2.1 ∧ q.2.2.1 ≤ 100)) = false := Bool.eq_false_iff.2 g1
    rw [g2] at hT
    refine a_one_on 5 rfl rfl rfl (by kernel_rfl) (s_call_keep cl102 (hT) (first := []) (cap := []) rfl rfl rfl (dd rfl) (rX (by repeat constructor)) (fun _ => sX) (fun _ _ => a_on (eX (by repeat constructor)) ?_))
    refine a_take 6 rfl (by kernel_rfl) (by kernel_rfl) (by kernel_rfl) (v_pick_t rfl rfl) (eX (by repeat constructor)) (dd rfl) ?_
    refine a_take 7 rfl (by kernel_rfl) (by kernel_rfl) (by kernel_rfl) (v_move rfl) (eX (by repeat constructor)) (dd rfl) ?_
    refine a_know (s := 19) rfl (show _ = Value.bool false from rfl) ?_
    refine a_take_off 8 rfl rfl rfl rfl (by kernel_rfl) (by kernel_rfl) (by kernel_rfl) (eX (by repeat constructor)) (dd rfl) ?_
    refine a_take_off 9 rfl rfl rfl rfl (by kernel_rfl) (by kernel_rfl) (by kernel_rfl) (eX (by repeat constructor)) (dd rfl) ?_
    refine a_take_off 10 rfl rfl rfl rfl (by kernel_rfl) (by kernel_rfl) (by kernel_rfl) (eX (by repeat constructor)) (dd rfl) ?_
    refine a_take_off 11 rfl rfl rfl rfl (by kernel_rfl) (by kernel_rfl) (by kernel_rfl) (eX (by repeat constructor)) (dd rfl) ?_
    refine a_take_off 12 rfl rfl rfl rfl (by kernel_rfl) (by kernel_rfl) (by kernel_rfl) (eX (by repeat constructor)) (dd rfl) ?_
    refine a_take_off 13 rfl rfl rfl rfl (by kernel_rfl) (by kernel_rfl) (by kernel_rfl) (eX (by repeat constructor)) (dd rfl) ?_
    refine a_take_off 14 rfl rfl rfl rfl (by kernel_rfl) (by kernel_rfl) (by kernel_rfl) (eX (by repeat constructor)) (dd rfl) ?_
    refine a_take_off 15 rfl rfl rfl rfl (by kernel_rfl) (by kernel_rfl) (by kernel_rfl) (eX (by repeat constructor)) (dd rfl) ?_
    refine a_take 16 rfl (by kernel_rfl) (by kernel_rfl) (by kernel_rfl) (v_pick_f rfl rfl) (eX (by repeat constructor)) (dd rfl) ?_
    refine a_take 17 rfl (by kernel_rfl) (by kernel_rfl) (by kernel_rfl) (v_assign rfl) (eX (by repeat constructor)) (dd rfl) ?_
    refine a_done (by kernel_rfl) ?_ _
    refine c_ret1 Tryz.func12 rfl rfl fun w O hS => ?_
    exact ⟨(), congrArg Value.bool (decide_eq_false (by rw [hi, g2]; simp)).symm, trivial, trivial⟩
set_option maxRecDepth 100000 in
theorem rightN_con (q : Rq9) (d f l : Value) (hk : q.1 < 0 ∨ 12 < q.1) : Con Tryz.prog 12 [.agg #[.int .i64 q.1, .int .i64 q.2.1, .int .i64 q.2.2.1, .string q.2.2.2.1, .string q.2.2.2.2.1, d, f, l]] [Sl (eInt .i64) d q.2.2.2.2.2.1, Sl eStr f q.2.2.2.2.2.2.1, Sl ePr l q.2.2.2.2.2.2.2] (γ := Unit) (fun _ => .bool (decide (RightQ q))) (fun _ => True) (fun _ => []) := by
  have hlk : ∀ b1 b2, Go.SL.look (kindsM b1 b2) q.1 = none := fun b1 b2 => lookN b1 b2 hk
  refine con_of Tryz.func12 rfl (dd rfl) fun w0 O0 => ?_
  refine c_seq ?_
  refine c_region ?_
  refine o_step (s_box rfl (dd rfl) (fun b1 => ?_))
  refine o_val (v_assign rfl) (dd rfl) ?_
  refine o_nil ?_
  refine c_seq ?_
  refine c_joinR (γ := Unit) [(1, _), (2, _)] (fun _ => True) (fun g => [(4, .bool false)]) (fun g => [Blk b1 32 [.int .i64 q.1, .int .i64 q.2.1, .int .i64 q.2.2.1, .string q.2.2.2.1, .string q.2.2.2.2.1, d, f, l]]) (by repeat (first | exact trivial | refine ⟨rfl, ?_⟩)) ?_ ?_
  rotate_left
  · intro MEET
    skip
    refine c_held [BlkR b1 32 [.int .i64 q.1, .int .i64 q.2.1, .int .i64 q.2.2.1, .string q.2.2.2.1, .string q.2.2.2.2.1, d, f, l], Sl (eInt .i64) d q.2.2.2.2.2.1, Sl eStr f q.2.2.2.2.2.2.1, Sl ePr l q.2.2.2.2.2.2.2] rfl ?_
    refine a_take 1 rfl (by kernel_rfl) (by kernel_rfl) (by kernel_rfl) (v_fieldAddrC 0 Tryz.underlying32 rfl ti3 (by decide) rfl) (eX (by repeat constructor)) (dd rfl) ?_
    refine a_take 2 rfl (by kernel_rfl) (by kernel_rfl) (by kernel_rfl) (v_load lone3 rfl (hX (by repeat constructor)) rfl) (eX (by repeat constructor)) (dd rfl) ?_
    refine a_two 0 7 rfl rfl (by kernel_rfl) ?_ ?_
    · skip
      refine s_callf cl39 (kinds_con) rfl (dd rfl) (pXs (by repeat constructor)) (fun g _ => a_on (eX (by repeat constructor)) ?_)
      refine a_two 3 7 rfl rfl (by kernel_rfl) ?_ ?_
      · skip
        refine s_val (v_lookupN kInt Tryz.underlying79 Tryz.underlying3 ti77 rfl rfl (hX (by repeat constructor)) (hlk g.2.1 g.2.2)) (dd rfl) (a_on (eX (by repeat constructor)) ?_)
        refine a_take 4 rfl (by kernel_rfl) (by kernel_rfl) (by kernel_rfl) (v_move rfl) (eX (by repeat constructor)) (dd rfl) ?_
        refine a_take 5 rfl (by kernel_rfl) (by kernel_rfl) (by kernel_rfl) (v_extract rfl rfl) (eX (by repeat constructor)) (dd rfl) ?_
        refine a_take 6 rfl (by kernel_rfl) (by kernel_rfl) (by kernel_rfl) (v_extract rfl rfl) (eX (by repeat constructor)) (dd rfl) ?_
        refine a_one 7 rfl (by kernel_rfl) (s_alloc ti77 (dd rfl) (fun b3 => a_on (eX (by repeat constructor)) ?_))
        refine a_one 8 rfl (by kernel_rfl) (s_store_all ti77 rfl rfl (by first | exact CellsV.lit rfl | exact CellsV.one (by first | exact OneC.lit rfl | exact OneC.sl (hX (by repeat constructor)) )) (by repeat (first | exact OneAll.nil | (refine OneAll.cons ?_ ?_; · first | exact OneC.lit rfl | exact OneC.sl (hX (by repeat constructor)) ) | exact OneAll.rd (hX (by repeat constructor)))) rfl (pB (by repeat constructor)) rfl (a_on (eX (by repeat constructor)) ?_))
        refine a_take 9 rfl (by kernel_rfl) (by kernel_rfl) (by kernel_rfl) (v_assign rfl) (eX (by repeat constructor)) (dd rfl) ?_
        refine a_done (by kernel_rfl) ?_ _
        refine c_use (MEET (()) (trivial)) (by repeat (first | exact trivial | refine ⟨rfl, ?_⟩)) (eX (by repeat constructor))
      · skip
        refine s_alloc ti77 (dd rfl) (fun b3 => a_on (eX (by repeat constructor)) ?_)
        refine a_one 3 rfl (by kernel_rfl) (s_val (v_lookupN kInt Tryz.underlying79 Tryz.underlying3 ti77 rfl rfl (hX (by repeat constructor)) (hlk g.2.1 g.2.2)) (dd rfl) (a_on (eX (by repeat constructor)) ?_))
        refine a_take 4 rfl (by kernel_rfl) (by kernel_rfl) (by kernel_rfl) (v_move rfl) (eX (by repeat constructor)) (dd rfl) ?_
        refine a_take 5 rfl (by kernel_rfl) (by kernel_rfl) (by kernel_rfl) (v_extract rfl rfl) (eX (by repeat constructor)) (dd rfl) ?_
        refine a_take 6 rfl (by kernel_rfl) (by kernel_rfl) (by kernel_rfl) (v_extract rfl rfl) (eX (by repeat constructor)) (dd rfl) ?_
        refine a_one 8 rfl (by kernel_rfl) (s_store_all ti77 rfl rfl (by first | exact CellsV.lit rfl | exact CellsV.one (by first | exact OneC.lit rfl | exact OneC.sl (hX (by repeat constructor)) )) (by repeat (first | exact OneAll.nil | (refine OneAll.cons ?_ ?_; · first | exact OneC.lit rfl | exact OneC.sl (hX (by repeat constructor)) ) | exact OneAll.rd (hX (by repeat constructor)))) rfl (pB (by repeat constructor)) rfl (a_on (eX (by repeat constructor)) ?_))
        refine a_take 9 rfl (by kernel_rfl) (by kernel_rfl) (by kernel_rfl) (v_assign rfl) (eX (by repeat constructor)) (dd rfl) ?_
        refine a_done (by kernel_rfl) ?_ _
        refine c_use (MEET (()) (trivial)) (by repeat (first | exact trivial | refine ⟨rfl, ?_⟩)) (eX (by repeat constructor))
    · skip
      refine s_alloc ti77 (dd rfl) (fun b3 => a_on (eX (by repeat constructor)) ?_)
      refine a_one 0 rfl (by kernel_rfl) (s_callf cl39 (kinds_con) rfl (dd rfl) (pXs (by repeat constructor)) (fun g _ => a_on (eX (by repeat constructor)) ?_))
      refine a_one 3 rfl (by kernel_rfl) (s_val (v_lookupN kInt Tryz.underlying79 Tryz.underlying3 ti77 rfl rfl (hX (by repeat constructor)) (hlk g.2.1 g.2.2)) (dd rfl) (a_on (eX (by repeat constructor)) ?_))
      refine a_take 4 rfl (by kernel_rfl) (by kernel_rfl) (by kernel_rfl) (v_move rfl) (eX (by repeat constructor)) (dd rfl) ?_
      refine a_take 5 rfl (by kernel_rfl) (by kernel_rfl) (by kernel_rfl) (v_extract rfl rfl) (eX (by repeat constructor)) (dd rfl) ?_
      refine a_take 6 rfl (by kernel_rfl) (by kernel_rfl) (by kernel_rfl) (v_extract rfl rfl) (eX (by repeat constructor)) (dd rfl) ?_
      refine a_one 8 rfl (by kernel_rfl) (s_store_all ti77 rfl rfl (by first | exact CellsV.lit rfl | exact CellsV.one (by first | exact OneC.lit rfl | exact OneC.sl (hX (by repeat constructor)) )) (by repeat (first | exact OneAll.nil | (refine OneAll.cons ?_ ?_; · first | exact OneC.lit rfl | exact OneC.sl (hX (by repeat constructor)) ) | exact OneAll.rd (hX (by repeat constructor)))) rfl (pB (by repeat constructor)) rfl (a_on (eX (by repeat constructor)) ?_))
      refine a_take 9 rfl (by kernel_rfl) (by kernel_rfl) (by kernel_rfl) (v_assign rfl) (eX (by repeat constructor)) (dd rfl) ?_
      refine a_done (by kernel_rfl) ?_ _
      refine c_use (MEET (()) (trivial)) (by repeat (first | exact trivial | refine ⟨rfl, ?_⟩)) (eX (by repeat constructor))
  rintro - -
  dsimp only [List.cons_append, List.nil_append]
  refine c_seq ?_
  refine c_held [BlkR b1 32 [.int .i64 q.1, .int .i64 q.2.1, .int .i64 q.2.2.1, .string q.2.2.2.1, .string q.2.2.2.2.1, d, f, l]] rfl ?_
  refine a_take 0 rfl (by kernel_rfl) (by kernel_rfl) (by kernel_rfl) (v_move rfl) (eX (by repeat constructor)) (dd rfl) ?_
  refine a_take 1 rfl (by kernel_rfl) (by kernel_rfl) (by kernel_rfl) (v_move rfl) (eX (by repeat constructor)) (dd rfl) ?_
  refine a_take_off 2 rfl rfl rfl rfl (by kernel_rfl) (by kernel_rfl) (by kernel_rfl) (eX (by repeat constructor)) (dd rfl) ?_
  refine a_take_off 3 rfl rfl rfl rfl (by kernel_rfl) (by kernel_rfl) (by kernel_rfl) (eX (by repeat constructor)) (dd rfl) ?_
  refine a_take_off 4 rfl rfl rfl rfl (by kernel_rfl) (by kernel_rfl) (by kernel_rfl) (eX (by repeat constructor)) (dd rfl) ?_
  refine a_take_off 5 rfl rfl rfl rfl (by kernel_rfl) (by kernel_rfl) (by kernel_rfl) (eX (by repeat constructor)) (dd rfl) ?_
  refine a_take 6 rfl (by kernel_rfl) (by kernel_rfl) (by kernel_rfl) (v_pick_f rfl rfl) (eX (by repeat constructor)) (dd rfl) ?_
  refine a_take 7 rfl (by kernel_rfl) (by kernel_rfl) (by kernel_rfl) (v_move rfl) (eX (by repeat constructor)) (dd rfl) ?_
  refine a_take_off 8 rfl rfl rfl rfl (by kernel_rfl) (by kernel_rfl) (by kernel_rfl) (eX (by repeat constructor)) (dd rfl) ?_
  refine a_take_off 9 rfl rfl rfl rfl (by kernel_rfl) (by kernel_rfl) (by kernel_rfl) (eX (by repeat constructor)) (dd rfl) ?_
  refine a_take_off 10 rfl rfl rfl rfl (by kernel_rfl) (by kernel_rfl) (by kernel_rfl) (eX (by repeat constructor)) (dd rfl) ?_
  refine a_take_off 11 rfl rfl rfl rfl (by kernel_rfl) (by kernel_rfl) (by kernel_rfl) (eX (by repeat constructor)) (dd rfl) ?_
  refine a_take_off 12 rfl rfl rfl rfl (by kernel_rfl) (by kernel_rfl) (by kernel_rfl) (eX (by repeat constructor)) (dd rfl) ?_
  refine a_take_off 13 rfl rfl rfl rfl (by kernel_rfl) (by kernel_rfl) (by kernel_rfl) (eX (by repeat constructor)) (dd rfl) ?_
  refine a_take_off 14 rfl rfl rfl rfl (by kernel_rfl) (by kernel_rfl) (by kernel_rfl) (eX (by repeat constructor)) (dd rfl) ?_
  refine a_take_off 15 rfl rfl rfl rfl (by kernel_rfl) (by kernel_rfl) (by kernel_rfl) (eX (by repeat constructor)) (dd rfl) ?_
  refine a_take 16 rfl (by kernel_rfl) (by kernel_rfl) (by kernel_rfl) (v_pick_f rfl rfl) (eX (by repeat constructor)) (dd rfl) ?_
  refine a_take 17 rfl (by kernel_rfl) (by kernel_rfl) (by kernel_rfl) (v_assign rfl) (eX (by repeat constructor)) (dd rfl) ?_
  refine a_done (by kernel_rfl) ?_ _
  refine c_ret1 Tryz.func12 rfl rfl fun w O hS => ?_
  exact ⟨(), congrArg Value.bool (decide_eq_false (right_none hk)).symm, trivial, trivial⟩
theorem reqRight_con (q : Rq9) (d f l : Value) (hq : FineQ q) : Con Tryz.prog 12 [.agg #[.int .i64 q.1, .int .i64 q.2.1, .int .i64 q.2.2.1, .string q.2.2.2.1, .string q.2.2.2.2.1, d, f, l]] [Sl (eInt .i64) d q.2.2.2.2.2.1, Sl eStr f q.2.2.2.2.2.2.1, Sl ePr l q.2.2.2.2.2.2.2] (γ := Unit) (fun _ => .bool (decide (RightQ q))) (fun _ => True) (fun _ => []) := by
  by_cases hn : q.1 < 0 ∨ 12 < q.1
  · exact rightN_con q d f l hn
  have h : q.1 = 0 ∨ q.1 = 1 ∨ q.1 = 2 ∨ q.1 = 3 ∨ q.1 = 4 ∨ q.1 = 5 ∨ q.1 = 6 ∨ q.1 = 7 ∨ q.1 = 8 ∨ q.1 = 9 ∨ q.1 = 10 ∨ q.1 = 11 ∨ q.1 = 12 := by omega
  rcases h with h | h | h | h | h | h | h | h | h | h | h | h | h
  · exact right0_con q d f l h hq
  · exact right1_con q d f l h hq
  · exact right2_con q d f l h hq
  · exact right3_con q d f l h hq
  · exact right4_con q d f l h hq
  · exact right5_con q d f l h hq
  · exact right6_con q d f l h hq
  · exact right7_con q d f l h hq
  · exact right8_con q d f l h hq
  · exact right9_con q d f l h hq
  · exact right10_con q d f l h hq
  · exact right11_con q d f l h hq
  · exact right12_con q d f l h hq
end Go.Proofs.YtlfehnnmpkohkaaGreatDoor
/- Chapter 16: which requests may be, as the document asks. -/
namespace Go.Proofs.YtlfehnnmpkohkaaGreatDoor
open Go Go.Lib
def needI (k : Int) : Bool := decide (k = 1 ∨ k = 2 ∨ k = 3 ∨ k = 12)
def needN (k : Int) : Bool := decide (k = 5 ∨ k = 6 ∨ k = 9 ∨ k = 10)
def needF (k : Int) : Bool := decide (k = 1 ∨ k = 2 ∨ k = 4 ∨ k = 5)
/-- What a kind needs, by the field's name. -/
def needsV (fd : ByteArray) (k : Int) : Bool :=
  if fd = ⟨#[98, 97, 115, 101]⟩ ∨ fd = ⟨#[108]⟩ then decide (k = 0) else if fd = ⟨#[110, 111, 116, 101]⟩ ∨ fd = ⟨#[100, 101, 112, 115]⟩ then decide (k = 1) else if fd = ⟨#[105, 100]⟩ then needI k else if fd = ⟨#[110, 97, 109, 101]⟩ then needN k else needF k
def bad1 (q : Rq9) : Prop := q.1 < 0 ∨ 12 < q.1 ∨ q.2.1 < 0 ∨ 1099511627776 < q.2.1 ∨ 24 < q.2.2.2.2.2.2.2.length ∨ ¬ q.2.2.2.2.2.2.2.all rightP = true ∨ ¬ lineP q.2.2.2.2.1 = true ∨ 8 < q.2.2.2.2.2.1.length ∨ 8 < q.2.2.2.2.2.2.1.length
def bad2 (q : Rq9) : Prop := q.2.2.2.1 ≠ ⟨#[]⟩ ∧ ¬ namedP q.2.2.2.1 = true
def bad3 (q : Rq9) : Prop := (q.2.1 ≠ 0 ∧ q.1 ≠ 0) ∨ (q.2.2.1 ≠ 0 ∧ ¬ needI q.1 = true) ∨ (q.2.2.2.1 ≠ ⟨#[]⟩ ∧ ¬ needN q.1 = true) ∨ (q.2.2.2.2.1 ≠ ⟨#[]⟩ ∧ q.1 ≠ 1)
def bad4 (q : Rq9) : Prop := (0 < q.2.2.2.2.2.1.length ∧ q.1 ≠ 1) ∨ (0 < q.2.2.2.2.2.2.1.length ∧ ¬ needF q.1 = true) ∨ ¬ (0 < q.2.2.2.2.2.2.2.length ↔ q.1 = 0)
instance (q : Rq9) : Decidable (bad1 q) := by unfold bad1; infer_instance
instance (q : Rq9) : Decidable (bad2 q) := by unfold bad2; infer_instance
instance (q : Rq9) : Decidable (bad3 q) := by unfold bad3; infer_instance
instance (q : Rq9) : Decidable (bad4 q) := by unfold bad4; infer_instance
end Go.Proofs.YtlfehnnmpkohkaaGreatDoor
/- Chapter 16: which requests may be: the document's way. -/
namespace Go.Proofs.YtlfehnnmpkohkaaGreatDoor
open Go Go.SL Go.Lib
attribute [local irreducible] Cfg Kont StepK Val Con Qops Any Sl Own Blk BlkR Rd Pu ExA AllA Has Pick Ent Elem Beside Callable TI Lone OwnO AndA
end Go.Proofs.YtlfehnnmpkohkaaGreatDoor
/- Chapter 16: which requests may be: the document's walk. -/
namespace Go.Proofs.YtlfehnnmpkohkaaGreatDoor
open Go Go.SL Go.Lib
attribute [local irreducible] Cfg Kont StepK Val Con Qops Any Sl Own Blk BlkR Rd Pu ExA AllA Has Pick Ent Elem Beside Callable TI Lone OwnO AndA
end Go.Proofs.YtlfehnnmpkohkaaGreatDoor

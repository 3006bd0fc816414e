import Derived.Test.YtnamhhmfnokfiaaH7
namespace Go.Proofs.Ytnamhhmfnokfiaa
open Go Go.SL

/-- A call of the script. -/
abbrev Op13 := Int × Int × Int × ByteArray × List ByteArray
abbrev eOp : Enc Op13 := ePair (eInt .i64) (ePair (eInt .i64) (ePair (eInt .i64) (ePair eStr (eSl eStr))))
theorem op_open {z : Op13} (w : World) (O : Perm) (c : List Value) (h : eOp.rd w O c z) : ∃ u : Value, c = [.int .i64 z.1, .int .i64 z.2.1, .int .i64 z.2.2.1, .string z.2.2.2.1, u] ∧ Stars [Sl eStr u z.2.2.2.2] w O := by
  obtain ⟨c1, c2, rfl, h1, c3, c4, rfl, h2, c5, c6, rfl, h3, c7, c8, rfl, h4, u, rfl, h5⟩ := h
  have e1 : c1 = [.int .i64 z.1] := h1
  have e2 : c3 = [.int .i64 z.2.1] := h2
  have e3 : c5 = [.int .i64 z.2.2.1] := h3
  have e4 : c7 = [.string z.2.2.2.1] := h4
  subst e1; subst e2; subst e3; subst e4
  exact ⟨u, rfl, O, fun _ => 0, ⟨fun _ => Nat.le_refl _, fun _ => Nat.zero_le _, fun _ _ => rfl, fun _ h => by omega⟩, h5, trivial⟩
theorem op_rd {k i n : Int} {s : ByteArray} {u : Value} {l : List ByteArray} (w : World) (O : Perm) (h : Stars [Sl eStr u l] w O) : eOp.rd w O [.int .i64 k, .int .i64 i, .int .i64 n, .string s, u] (k, i, n, s, l) := by
  obtain ⟨O1, O2, s, h1, _⟩ := h
  exact ⟨[.int .i64 k], [.int .i64 i, .int .i64 n, .string _, u], rfl, rfl, [.int .i64 i], [.int .i64 n, .string _, u], rfl, rfl, [.int .i64 n], [.string _, u], rfl, rfl, [.string _], [u], rfl, rfl, u, rfl, SlP.mono h1 s.l⟩
attribute [local irreducible] Cfg Kont StepK Val Con Qops Any Sl Own Blk BlkR Rd Pu ExA AllA Has Pick Ent Elem Beside Callable TI Lone

set_option maxRecDepth 100000 in
theorem old_con (v : Value) (l : List Nt) (hl : l.length ≤ 100000) :
    Con Try.prog 24 [v] [Sl eNt v l] (γ := Value) (fun r => r) (fun _ => True) (fun r => [Own eNt 56 r l]) := by
  refine con_of Try.func24 rfl (Nat.le_of_ble_eq_true rfl) fun w0 O0 => ?_
  refine c_seq ?_
  refine c_region ?_
  refine o_val (v_assign rfl) (Nat.le_of_ble_eq_true rfl) ?_
  refine o_nil ?_
  refine c_seq ?_
  refine c_region ?_
  refine o_val (v_assign rfl) (Nat.le_of_ble_eq_true rfl) ?_
  refine o_nil ?_
  refine c_seq ?_
  refine c_seq ?_
  refine c_region ?_
  refine o_val (v_move rfl) (Nat.le_of_ble_eq_true rfl) ?_
  refine o_val ((by first | exact v_len_form Try.underlying49 rfl | exact v_len_sl Try.underlying49 rfl (by repeat (first | exact Has.here | exact Has.sl_apd | exact Has.sl_own | exact Has.r_blk | apply Has.there)))) (Nat.le_of_ble_eq_true rfl) ?_
  refine o_val (v_move rfl) (Nat.le_of_ble_eq_true rfl) ?_
  refine o_nil ?_
  refine c_block ?_
  refine c_ent (Ent.beside (b := Own eNt 56 (.slice none 0 0) ([] : List Nt)) (fun w O _ => Own.nil eNt 56 w _)) ?_
  refine c_loopR (γ := Nat × Value) [(2, _), (6, _), (7, _)] (fun g => l.length - g.1) (fun g => g.1 ≤ l.length) (fun g => [(8, .int .i64 g.1), (3, g.2)]) (fun g => [Own eNt 56 g.2 (l.take g.1), Sl eNt v l]) ((0, .slice none 0 0)) (Nat.zero_le _) (by repeat (first | exact trivial | refine ⟨rfl, ?_⟩)) (Picks.ent (by repeat (first | exact Picks.nil | (apply Picks.cons; · repeat (first | exact Pick.keep (Sl.isDup _ _ _) | exact Pick.keep (BlkR.isDup _ _ _) | exact Pick.keep (FldCell.isDup _ _) | exact Pick.here | exact Pick.own_sl | exact Pick.apd_sl | exact Pick.r_blk | exact Pick.sl_nil | exact Pick.own_nil | exact Pick.map_itO _ | apply Pick.there))))) ?_
  rintro ⟨i, u⟩ hi IH
  dsimp only at hi ⊢
  try dsimp only [List.cons_append, List.nil_append]
  refine c_seq ?_
  refine c_region ?_
  refine o_val (v_lt rfl rfl) (Nat.le_of_ble_eq_true rfl) ?_
  refine o_nil ?_
  refine c_seq ?_
  refine c_cond_p rfl (fun hlt => ?_) (fun hlt => ?_)
  · have hi' : i < l.length := by omega
    have hil : (l.take i).length = i := by simp; omega
    refine c_skip ?_
    refine c_seq ?_
    refine c_block ?_
    refine c_seq ?_
    refine c_region ?_
    refine o_val ((by first | exact v_indexAddrN Try.underlying49 ti60 rfl rfl (by repeat (first | exact Has.here | exact Has.sl_apd | exact Has.sl_own | exact Has.r_blk | apply Has.there)) (by omega) | exact v_indexAddr Try.underlying49 ti60 rfl rfl (by repeat (first | exact Has.here | exact Has.sl_apd | exact Has.sl_own | exact Has.r_blk | apply Has.there)) (by omega))) (Nat.le_of_ble_eq_true rfl) ?_
    refine o_step (s_load_shape ⟨_, Try.underlying60⟩ ti60 rfl (Nat.le_of_ble_eq_true rfl) (by repeat (first | exact Elem.sl (List.getElem?_eq_getElem (by omega)) | exact Elem.own (List.getElem?_eq_getElem (by omega)) | apply Elem.there)) (nt_open) (fun c => ?_))
    refine o_step (s_alloc ti60 (Nat.le_of_ble_eq_true rfl) (fun b5 => ?_))
    refine o_step (s_store_all ti60 rfl rfl (by first | exact CellsV.lit rfl | exact CellsV.one (by first | exact OneC.lit rfl | exact OneC.sl (by repeat (first | exact Has.here | exact Has.sl_apd | exact Has.sl_own | exact Has.r_blk | apply Has.there)))) (by repeat (first | exact OneAll.nil | (refine OneAll.cons ?_ ?_; · first | exact OneC.lit rfl | exact OneC.sl (by repeat (first | exact Has.here | exact Has.sl_apd | exact Has.sl_own | exact Has.r_blk | apply Has.there))) | exact OneAll.rd (by repeat (first | exact Has.here | exact Has.sl_apd | exact Has.sl_own | exact Has.r_blk | apply Has.there)))) rfl (by repeat (first | exact Pick.here | exact Pick.own_nil | apply Pick.there)) rfl (?_))
    refine o_nil ?_
    refine c_region ?_
    refine o_val (v_move rfl) (Nat.le_of_ble_eq_true rfl) ?_
    refine o_val (v_load_all ⟨_, Try.underlying60⟩ ti60 rfl (by repeat (first | exact Has.here | exact Has.sl_apd | exact Has.sl_own | exact Has.r_blk | apply Has.there)) rfl) (Nat.le_of_ble_eq_true rfl) ?_
    refine o_step (s_buildSlice Try.underlying37 ti56 rfl rfl rfl (by decide) (by decide) (beside_agg1 (beside_of (z := l[i]'hi') (Lp := [Sl eStr c (l[i]'hi').2.1]) (by repeat (first | exact Picks.nil | (apply Picks.cons; · repeat (first | exact Pick.keep (Sl.isDup _ _ _) | exact Pick.keep (BlkR.isDup _ _ _) | exact Pick.keep (FldCell.isDup _ _) | exact Pick.here | exact Pick.own_sl | exact Pick.apd_sl | exact Pick.r_blk | exact Pick.sl_nil | exact Pick.own_nil | exact Pick.map_itO _ | apply Pick.there)))) (fun w O h => nt_rd w O h))) rfl rfl (Nat.le_of_ble_eq_true rfl) fun v1 => ?_)
    refine o_step (s_append Try.underlying37 ti56 rfl (by decide) rfl rfl (Nat.le_of_ble_eq_true rfl) (by repeat (first | exact Pick.here | exact Pick.own_nil | apply Pick.there)) (by repeat (first | exact Pick.keep (Sl.isDup _ _ _) | exact Pick.keep (BlkR.isDup _ _ _) | exact Pick.keep (FldCell.isDup _ _) | exact Pick.here | exact Pick.own_sl | exact Pick.apd_sl | exact Pick.r_blk | exact Pick.sl_nil | exact Pick.own_nil | exact Pick.map_itO _ | apply Pick.there)) rfl (by (first | omega | (simp only [maxLen, List.length_append, List.length_drop, List.length_take, List.length_nil, List.length_cons]; omega))) (by (first | omega | (simp only [maxLen, List.length_append, List.length_drop, List.length_take, List.length_nil, List.length_cons]; omega))) fun v2 => ?_)
    refine o_val (v_assign rfl) (Nat.le_of_ble_eq_true rfl) ?_
    refine o_nil ?_
    refine c_inBlock ?_
    refine c_region ?_
    refine o_val ((by first | exact v_add64 rfl rfl (by omega) | exact v_add rfl rfl)) (Nat.le_of_ble_eq_true rfl) ?_
    refine o_val (v_move rfl) (Nat.le_of_ble_eq_true rfl) ?_
    refine o_nil ?_
    refine c_use (IH (i + 1, v2) (by dsimp only; omega) (by dsimp only; omega)) (by repeat (first | exact trivial | refine ⟨rfl, ?_⟩)) ?_
    dsimp only
    rw [List.take_succ_eq_append_getElem hi']
    exact (Picks.ent (by repeat (first | exact Picks.nil | (apply Picks.cons; · repeat (first | exact Pick.keep (Sl.isDup _ _ _) | exact Pick.keep (BlkR.isDup _ _ _) | exact Pick.keep (FldCell.isDup _ _) | exact Pick.here | exact Pick.own_sl | exact Pick.apd_sl | exact Pick.r_blk | exact Pick.sl_nil | exact Pick.own_nil | exact Pick.map_itO _ | apply Pick.there)))))
  · have hie : i = l.length := by omega
    rw [hie, List.take_length]
    refine c_exit rfl ?_
    refine c_seq ?_
    refine c_region ?_
    refine o_val (v_move rfl) (Nat.le_of_ble_eq_true rfl) ?_
    refine o_val (v_assign rfl) (Nat.le_of_ble_eq_true rfl) ?_
    refine o_nil ?_
    refine c_ret1 Try.func24 rfl rfl fun w O hS => ?_
    exact ⟨u, rfl, trivial, Ent.get hS (Picks.ent (by repeat (first | exact Picks.nil | (apply Picks.cons; · repeat (first | exact Pick.keep (Sl.isDup _ _ _) | exact Pick.keep (BlkR.isDup _ _ _) | exact Pick.keep (FldCell.isDup _ _) | exact Pick.here | exact Pick.own_sl | exact Pick.apd_sl | exact Pick.r_blk | exact Pick.sl_nil | exact Pick.own_nil | exact Pick.map_itO _ | apply Pick.there)))))⟩
set_option maxRecDepth 100000 in
theorem few_con (v : Value) (l : List Op13) (hl : l.length ≤ 8796093022207) (hn : ∀ x ∈ l, x.2.2.2.2.length ≤ 8796093022207) :
    Con Try.prog 15 [v] [Sl eOp v l] (γ := Bool) (fun b => .bool b) (fun b => b = true → l.length ≤ 60) (fun _ => []) := by
  refine con_of Try.func15 rfl (Nat.le_of_ble_eq_true rfl) fun w0 O0 => ?_
  refine c_seq ?_
  refine c_region ?_
  refine o_val (v_assign rfl) (Nat.le_of_ble_eq_true rfl) ?_
  refine o_nil ?_
  refine c_seq ?_
  refine c_region ?_
  refine o_val (v_assign rfl) (Nat.le_of_ble_eq_true rfl) ?_
  refine o_nil ?_
  refine c_seq ?_
  refine c_seq ?_
  refine c_region ?_
  refine o_val (v_move rfl) (Nat.le_of_ble_eq_true rfl) ?_
  refine o_val ((by first | exact v_len_form Try.underlying22 rfl | exact v_len_sl Try.underlying22 rfl (by repeat (first | exact Has.here | exact Has.sl_apd | exact Has.sl_own | exact Has.r_blk | apply Has.there)))) (Nat.le_of_ble_eq_true rfl) ?_
  refine o_val (v_move rfl) (Nat.le_of_ble_eq_true rfl) ?_
  refine o_nil ?_
  refine c_block ?_
  refine c_loopR (γ := Nat × Int) [(0, _), (2, _), (8, _), (9, _)] (fun g => l.length - g.1) (fun g => g.1 ≤ l.length) (fun g => [(10, .int .i64 g.1), (3, .int .i64 g.2)]) (fun _ => [Sl eOp v l]) ((0, 0)) (Nat.zero_le _) (by repeat (first | exact trivial | refine ⟨rfl, ?_⟩)) (Picks.ent (by repeat (first | exact Picks.nil | (apply Picks.cons; · repeat (first | exact Pick.keep (Sl.isDup _ _ _) | exact Pick.keep (BlkR.isDup _ _ _) | exact Pick.keep (FldCell.isDup _ _) | exact Pick.here | exact Pick.own_sl | exact Pick.apd_sl | exact Pick.r_blk | exact Pick.sl_nil | exact Pick.own_nil | exact Pick.map_itO _ | apply Pick.there))))) ?_
  rintro ⟨i, n⟩ hi IH
  dsimp only at hi ⊢
  try dsimp only [List.cons_append, List.nil_append]
  refine c_seq ?_
  refine c_region ?_
  refine o_val (v_lt rfl rfl) (Nat.le_of_ble_eq_true rfl) ?_
  refine o_nil ?_
  refine c_seq ?_
  refine c_cond_p rfl (fun hlt => ?_) (fun hlt => ?_)
  · have hi' : i < l.length := by omega
    have hn' := hn _ (List.getElem_mem hi')
    refine c_skip ?_
    refine c_seq ?_
    refine c_block ?_
    refine c_seq ?_
    refine c_region ?_
    refine o_val ((by first | exact v_indexAddrN Try.underlying22 ti32 rfl rfl (by repeat (first | exact Has.here | exact Has.sl_apd | exact Has.sl_own | exact Has.r_blk | apply Has.there)) (by omega) | exact v_indexAddr Try.underlying22 ti32 rfl rfl (by repeat (first | exact Has.here | exact Has.sl_apd | exact Has.sl_own | exact Has.r_blk | apply Has.there)) (by omega))) (Nat.le_of_ble_eq_true rfl) ?_
    refine o_step (s_load_shape ⟨_, Try.underlying32⟩ ti32 rfl (Nat.le_of_ble_eq_true rfl) (by repeat (first | exact Elem.sl (List.getElem?_eq_getElem (by omega)) | exact Elem.own (List.getElem?_eq_getElem (by omega)) | apply Elem.there)) (op_open) (fun c => ?_))
    refine o_step (s_alloc ti32 (Nat.le_of_ble_eq_true rfl) (fun b5 => ?_))
    refine o_step (s_store_all ti32 rfl rfl (by first | exact CellsV.lit rfl | exact CellsV.one (by first | exact OneC.lit rfl | exact OneC.sl (by repeat (first | exact Has.here | exact Has.sl_apd | exact Has.sl_own | exact Has.r_blk | apply Has.there)))) (by repeat (first | exact OneAll.nil | (refine OneAll.cons ?_ ?_; · first | exact OneC.lit rfl | exact OneC.sl (by repeat (first | exact Has.here | exact Has.sl_apd | exact Has.sl_own | exact Has.r_blk | apply Has.there))) | exact OneAll.rd (by repeat (first | exact Has.here | exact Has.sl_apd | exact Has.sl_own | exact Has.r_blk | apply Has.there)))) rfl (by repeat (first | exact Pick.here | exact Pick.own_nil | apply Pick.there)) rfl (?_))
    refine o_nil ?_
    refine c_seq ?_
    refine c_region ?_
    refine o_val (v_move rfl) (Nat.le_of_ble_eq_true rfl) ?_
    refine o_val (v_fieldAddrC 3 Try.underlying32 rfl ti9 (by decide) rfl) (Nat.le_of_ble_eq_true rfl) ?_
    refine o_val (v_load lone9 rfl (by repeat (first | exact Has.here | exact Has.sl_apd | exact Has.sl_own | exact Has.r_blk | apply Has.there)) rfl) (Nat.le_of_ble_eq_true rfl) ?_
    refine o_val (v_len_str Try.underlying9 rfl) (Nat.le_of_ble_eq_true rfl) ?_
    refine o_val (v_fieldAddrC 4 Try.underlying32 rfl ti30 (by decide) rfl) (Nat.le_of_ble_eq_true rfl) ?_
    refine o_val (v_load lone30 rfl (by repeat (first | exact Has.here | exact Has.sl_apd | exact Has.sl_own | exact Has.r_blk | apply Has.there)) rfl) (Nat.le_of_ble_eq_true rfl) ?_
    refine o_val ((by first | exact v_len_form Try.underlying30 rfl | exact v_len_sl Try.underlying30 rfl (by repeat (first | exact Has.here | exact Has.sl_apd | exact Has.sl_own | exact Has.r_blk | apply Has.there)))) (Nat.le_of_ble_eq_true rfl) ?_
    refine o_val ((by first | exact v_add64 rfl rfl (by omega) | exact v_add rfl rfl)) (Nat.le_of_ble_eq_true rfl) ?_
    refine o_val ((by first | exact v_add64 rfl rfl (by omega) | exact v_add rfl rfl)) (Nat.le_of_ble_eq_true rfl) ?_
    refine o_val (v_assign rfl) (Nat.le_of_ble_eq_true rfl) ?_
    refine o_nil ?_
    refine c_seq ?_
    refine c_region ?_
    refine o_val (v_fieldAddrC 4 Try.underlying32 rfl ti30 (by decide) rfl) (Nat.le_of_ble_eq_true rfl) ?_
    refine o_val (v_load lone30 rfl (by repeat (first | exact Has.here | exact Has.sl_apd | exact Has.sl_own | exact Has.r_blk | apply Has.there)) rfl) (Nat.le_of_ble_eq_true rfl) ?_
    refine o_val ((by first | exact v_len_form Try.underlying30 rfl | exact v_len_sl Try.underlying30 rfl (by repeat (first | exact Has.here | exact Has.sl_apd | exact Has.sl_own | exact Has.r_blk | apply Has.there)))) (Nat.le_of_ble_eq_true rfl) ?_
    refine o_val (v_move rfl) (Nat.le_of_ble_eq_true rfl) ?_
    refine o_nil ?_
    refine c_block ?_
    refine c_loopR (γ := Nat × Int) [(0, _), (2, _), (5, _), (8, _), (9, _), (10, _), (11, _), (12, _), (13, _), (14, _), (15, _), (16, _), (17, _), (18, _), (19, _), (20, _), (21, _), (22, _), (23, _), (24, _), (25, _)] (fun g => l[i].2.2.2.2.length - g.1) (fun g => g.1 ≤ l[i].2.2.2.2.length) (fun g => [(26, .int .i64 g.1), (3, .int .i64 g.2)]) (fun _ => [Sl eStr c l[i].2.2.2.2, Sl eOp v l]) ((0, _)) (Nat.zero_le _) (by repeat (first | exact trivial | refine ⟨rfl, ?_⟩)) (Picks.ent (by repeat (first | exact Picks.nil | (apply Picks.cons; · repeat (first | exact Pick.keep (Sl.isDup _ _ _) | exact Pick.keep (BlkR.isDup _ _ _) | exact Pick.keep (FldCell.isDup _ _) | exact Pick.here | exact Pick.own_sl | exact Pick.apd_sl | exact Pick.r_blk | exact Pick.sl_nil | exact Pick.own_nil | exact Pick.map_itO _ | apply Pick.there))))) ?_
    rintro ⟨j, n2⟩ hj IH2
    dsimp only at hj ⊢
    try dsimp only [List.cons_append, List.nil_append]
    refine c_seq ?_
    refine c_region ?_
    refine o_val (v_lt rfl rfl) (Nat.le_of_ble_eq_true rfl) ?_
    refine o_nil ?_
    refine c_seq ?_
    refine c_cond_p rfl (fun hlt2 => ?_) (fun hlt2 => ?_)
    · have hj' : j < l[i].2.2.2.2.length := by omega
      refine c_skip ?_
      refine c_seq ?_
      refine c_block ?_
      refine c_seq ?_
      refine c_region ?_
      refine o_val ((by first | exact v_indexAddrN Try.underlying30 ti9 rfl rfl (by repeat (first | exact Has.here | exact Has.sl_apd | exact Has.sl_own | exact Has.r_blk | apply Has.there)) (by omega) | exact v_indexAddr Try.underlying30 ti9 rfl rfl (by repeat (first | exact Has.here | exact Has.sl_apd | exact Has.sl_own | exact Has.r_blk | apply Has.there)) (by omega))) (Nat.le_of_ble_eq_true rfl) ?_
      refine o_val (v_load_str lone9 rfl (by repeat (first | exact Elem.sl (List.getElem?_eq_getElem (by omega)) | exact Elem.own (List.getElem?_eq_getElem (by omega)) | apply Elem.there))) (Nat.le_of_ble_eq_true rfl) ?_
      refine o_val (v_assign rfl) (Nat.le_of_ble_eq_true rfl) ?_
      refine o_nil ?_
      refine c_region ?_
      refine o_val (v_move rfl) (Nat.le_of_ble_eq_true rfl) ?_
      refine o_val (v_move rfl) (Nat.le_of_ble_eq_true rfl) ?_
      refine o_val (v_len_str Try.underlying9 rfl) (Nat.le_of_ble_eq_true rfl) ?_
      refine o_val ((by first | exact v_add64 rfl rfl (by omega) | exact v_add rfl rfl)) (Nat.le_of_ble_eq_true rfl) ?_
      refine o_val (v_assign rfl) (Nat.le_of_ble_eq_true rfl) ?_
      refine o_nil ?_
      refine c_inBlock ?_
      refine c_region ?_
      refine o_val ((by first | exact v_add64 rfl rfl (by omega) | exact v_add rfl rfl)) (Nat.le_of_ble_eq_true rfl) ?_
      refine o_val (v_move rfl) (Nat.le_of_ble_eq_true rfl) ?_
      refine o_nil ?_
      refine c_use (IH2 ((j + 1, _)) (by first | omega | (dsimp only; omega)) (by dsimp only; omega)) (by repeat (first | exact trivial | refine ⟨rfl, ?_⟩)) (Picks.ent (by repeat (first | exact Picks.nil | (apply Picks.cons; · repeat (first | exact Pick.keep (Sl.isDup _ _ _) | exact Pick.keep (BlkR.isDup _ _ _) | exact Pick.keep (FldCell.isDup _ _) | exact Pick.here | exact Pick.own_sl | exact Pick.apd_sl | exact Pick.r_blk | exact Pick.sl_nil | exact Pick.own_nil | exact Pick.map_itO _ | apply Pick.there)))))
    · refine c_exit rfl ?_
      refine c_inBlock ?_
      refine c_region ?_
      refine o_val ((by first | exact v_add64 rfl rfl (by omega) | exact v_add rfl rfl)) (Nat.le_of_ble_eq_true rfl) ?_
      refine o_val (v_move rfl) (Nat.le_of_ble_eq_true rfl) ?_
      refine o_nil ?_
      refine c_use (IH ((i + 1, n2)) (by first | omega | (dsimp only; omega)) (by dsimp only; omega)) (by repeat (first | exact trivial | refine ⟨rfl, ?_⟩)) (Picks.ent (by repeat (first | exact Picks.nil | (apply Picks.cons; · repeat (first | exact Pick.keep (Sl.isDup _ _ _) | exact Pick.keep (BlkR.isDup _ _ _) | exact Pick.keep (FldCell.isDup _ _) | exact Pick.here | exact Pick.own_sl | exact Pick.apd_sl | exact Pick.r_blk | exact Pick.sl_nil | exact Pick.own_nil | exact Pick.map_itO _ | apply Pick.there)))))
  · refine c_exit rfl ?_
    refine c_seq ?_
    refine c_region ?_
    refine o_val (v_move rfl) (Nat.le_of_ble_eq_true rfl) ?_
    refine o_val ((by first | exact v_len_form Try.underlying22 rfl | exact v_len_sl Try.underlying22 rfl (by repeat (first | exact Has.here | exact Has.sl_apd | exact Has.sl_own | exact Has.r_blk | apply Has.there)))) (Nat.le_of_ble_eq_true rfl) ?_
    refine o_val (v_le rfl rfl) (Nat.le_of_ble_eq_true rfl) ?_
    refine o_val (v_move rfl) (Nat.le_of_ble_eq_true rfl) ?_
    refine o_guard_t rfl rfl (fun hle => ?_) (fun hle => ?_)
    · refine o_val (v_move rfl) (Nat.le_of_ble_eq_true rfl) ?_
      refine o_on rfl rfl ?_
      refine o_val (v_le rfl rfl) (Nat.le_of_ble_eq_true rfl) ?_
      refine o_val (v_pick_t rfl rfl) (Nat.le_of_ble_eq_true rfl) ?_
      refine o_val (v_assign rfl) (Nat.le_of_ble_eq_true rfl) ?_
      refine o_nil ?_
      refine c_ret1 Try.func15 rfl rfl fun w O hS => ?_
      exact ⟨_, rfl, fun _ => by omega, trivial⟩
    · refine o_off rfl rfl rfl (Nat.le_of_ble_eq_true rfl) ?_
      refine o_off rfl rfl rfl (Nat.le_of_ble_eq_true rfl) ?_
      refine o_val (v_pick_f rfl rfl) (Nat.le_of_ble_eq_true rfl) ?_
      refine o_val (v_assign rfl) (Nat.le_of_ble_eq_true rfl) ?_
      refine o_nil ?_
      refine c_ret1 Try.func15 rfl rfl fun w O hS => ?_
      exact ⟨false, rfl, (fun h => by cases h), trivial⟩
end Go.Proofs.Ytnamhhmfnokfiaa

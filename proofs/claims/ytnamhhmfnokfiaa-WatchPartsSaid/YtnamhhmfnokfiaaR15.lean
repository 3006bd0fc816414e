import Derived.Test.YtnamhhmfnokfiaaR14
namespace Go.Proofs.Ytnamhhmfnokfiaa
open Go Go.SL
attribute [local irreducible] Cfg Kont StepK Val Con Qops Any Sl Own Blk BlkR Rd Pu ExA AllA Has Pick Ent Elem Beside Callable TI Lone

theorem nt_ext {x y : Nt} : x = y ↔ x.1 = y.1 ∧ x.2.2 = y.2.2 ∧ x.2.1 = y.2.1 := by
  obtain ⟨a, b, c⟩ := x; obtain ⟨a', b', c'⟩ := y
  simp only [Prod.mk.injEq]
  exact ⟨fun ⟨h1, h2, h3⟩ => ⟨h1, h3, h2⟩, fun ⟨h1, h2, h3⟩ => ⟨h1, h3, h2⟩⟩
set_option maxRecDepth 100000 in
theorem same_con (a b : Value) (xs ys : List Nt) (hx : xs.length ≤ 4611686018427387904) (hy : ys.length ≤ 4611686018427387904) (hxn : ∀ x ∈ xs, x.2.1.length ≤ 4611686018427387904) :
    Con Try.prog 28 [a, b] [Sl eNt a xs, Sl eNt b ys] (γ := Unit) (fun _ => .bool (decide (xs = ys))) (fun _ => True) (fun _ => []) := by
  refine con_of Try.func28 rfl (Nat.le_of_ble_eq_true rfl) fun w0 O0 => ?_
  refine c_seq ?_
  refine c_region ?_
  refine o_val (v_assign rfl) (Nat.le_of_ble_eq_true rfl) ?_
  refine o_nil ?_
  refine c_seq ?_
  refine c_seq ?_
  refine c_region ?_
  refine o_val (v_move rfl) (Nat.le_of_ble_eq_true rfl) ?_
  refine o_val ((by first | exact v_len_form Try.underlying37 rfl | exact v_len_sl Try.underlying37 rfl (by repeat (first | exact Has.here | exact Has.sl_apd | exact Has.sl_own | exact Has.r_blk | apply Has.there)))) (Nat.le_of_ble_eq_true rfl) ?_
  refine o_val (v_move rfl) (Nat.le_of_ble_eq_true rfl) ?_
  refine o_val ((by first | exact v_len_form Try.underlying37 rfl | exact v_len_sl Try.underlying37 rfl (by repeat (first | exact Has.here | exact Has.sl_apd | exact Has.sl_own | exact Has.r_blk | apply Has.there)))) (Nat.le_of_ble_eq_true rfl) ?_
  refine o_val (v_ne rfl rfl) (Nat.le_of_ble_eq_true rfl) ?_
  refine o_nil ?_
  refine c_cond_p rfl (fun hne => ?_) (fun hne => ?_)
  · refine c_seq ?_
    refine c_region ?_
    refine o_val (v_assign rfl) (Nat.le_of_ble_eq_true rfl) ?_
    refine o_nil ?_
    refine c_ret1 Try.func28 rfl rfl fun w O hS => ?_
    exact ⟨(), congrArg Value.bool (decide_eq_false fun h => hne (by rw [h])).symm, trivial, trivial⟩
  · have hlen : xs.length = ys.length := by omega
    refine c_skip ?_
    refine c_seq ?_
    refine c_seq ?_
    refine c_region ?_
    refine o_val (v_assign rfl) (Nat.le_of_ble_eq_true rfl) ?_
    refine o_nil ?_
    refine c_block ?_
    refine c_loopQ (γ := Nat) [(0, _), (1, _), (4, _)] (fun k => xs.length - k) (fun k => k ≤ xs.length ∧ ∀ (j : Nat) (hj : j < xs.length), j < k → xs[j] = ys[j]'(by omega)) (fun k => [(5, .int .i64 k)]) (0) (⟨Nat.zero_le _, fun _ _ h => by omega⟩) (by repeat (first | exact trivial | refine ⟨rfl, ?_⟩)) ?_
    rintro k ⟨hk, hall⟩ IH
    try dsimp only [List.cons_append, List.nil_append]
    refine c_seq ?_
    refine c_seq ?_
    refine c_region ?_
    refine o_val (v_move rfl) (Nat.le_of_ble_eq_true rfl) ?_
    refine o_val (v_move rfl) (Nat.le_of_ble_eq_true rfl) ?_
    refine o_val ((by first | exact v_len_form Try.underlying37 rfl | exact v_len_sl Try.underlying37 rfl (by repeat (first | exact Has.here | exact Has.sl_apd | exact Has.sl_own | exact Has.r_blk | apply Has.there)))) (Nat.le_of_ble_eq_true rfl) ?_
    refine o_val (v_lt rfl rfl) (Nat.le_of_ble_eq_true rfl) ?_
    refine o_nil ?_
    refine c_cond_p rfl (fun hlt => ?_) (fun hlt => ?_)
    · have hlt' : k < xs.length := by omega
      have hlt2 : k < ys.length := by omega
      have hna := hxn _ (List.getElem_mem hlt')
      refine c_open_fldl (v := a) (zs := xs) (i := k) (off := 1) (by repeat (first | exact Pick.keep (Sl.isDup _ _ _) | exact Pick.keep (BlkR.isDup _ _ _) | exact Pick.keep (FldCell.isDup _ _) | exact Pick.here | exact Pick.own_sl | exact Pick.apd_sl | exact Pick.r_blk | exact Pick.sl_nil | exact Pick.own_nil | exact Pick.map_itO _ | apply Pick.there)) (List.getElem?_eq_getElem (by omega)) (by (try apply FldL.map); apply FldL.snd (j := 0) rfl; apply FldL.fst; (try apply FldL.map); exact FldL.sl) fun u1 => ?_
      refine c_open_fldl (v := b) (zs := ys) (i := k) (off := 1) (by repeat (first | exact Pick.keep (Sl.isDup _ _ _) | exact Pick.keep (BlkR.isDup _ _ _) | exact Pick.keep (FldCell.isDup _ _) | exact Pick.here | exact Pick.own_sl | exact Pick.apd_sl | exact Pick.r_blk | exact Pick.sl_nil | exact Pick.own_nil | exact Pick.map_itO _ | apply Pick.there)) (List.getElem?_eq_getElem (by omega)) (by (try apply FldL.map); apply FldL.snd (j := 0) rfl; apply FldL.fst; (try apply FldL.map); exact FldL.sl) fun u2 => ?_
      refine c_skip ?_
      refine c_seq ?_
      refine c_block ?_
      refine c_seq ?_
      refine c_seq ?_
      refine c_env (env' := [(0, _), (1, _), (4, _), (5, _), (12, _), (13, _), (14, _), (15, _)]) (by repeat (first | exact trivial | refine ⟨rfl, ?_⟩)) ?_
      refine c_joinb (d := 56) (decide (¬ (xs[k].1 = ys[k].1 ∧ xs[k].2.2 = ys[k].2.2 ∧ xs[k].2.1.length = ys[k].2.1.length))) ?_ ?_
      rotate_left
      · intro J
        refine c_quiet rfl (by kernel_rfl) ?_
        refine q_val (v_move rfl) (Nat.le_of_ble_eq_true rfl) ?_
        refine q_val (v_move rfl) (Nat.le_of_ble_eq_true rfl) ?_
        refine q_val ((by first | exact v_indexAddrN Try.underlying37 ti56 rfl rfl (by repeat (first | exact Has.here | exact Has.sl_apd | exact Has.sl_own | exact Has.r_blk | apply Has.there)) (by omega) | exact v_indexAddr Try.underlying37 ti56 rfl rfl (by repeat (first | exact Has.here | exact Has.sl_apd | exact Has.sl_own | exact Has.r_blk | apply Has.there)) (by omega))) (Nat.le_of_ble_eq_true rfl) ?_
        refine q_val (v_fieldAddrC 0 Try.underlying56 rfl ti3 (by decide) rfl) (Nat.le_of_ble_eq_true rfl) ?_
        refine q_val ((by first | exact v_load_cell lone3 rfl (by repeat (first | exact Has.here | exact Has.sl_apd | exact Has.sl_own | exact Has.r_blk | apply Has.there)) | exact v_load_fld lone3 rfl (by repeat (first | exact Elem.sl (List.getElem?_eq_getElem (by omega)) | exact Elem.own (List.getElem?_eq_getElem (by omega)) | apply Elem.there)) (by (try apply FldS.map); apply FldS.fst; (try apply FldS.map); first | exact FldS.int _ | exact FldS.str | exact FldS.bool | exact FldS.raw))) (Nat.le_of_ble_eq_true rfl) ?_
        refine q_val (v_move rfl) (Nat.le_of_ble_eq_true rfl) ?_
        refine q_val (v_move rfl) (Nat.le_of_ble_eq_true rfl) ?_
        refine q_val ((by first | exact v_indexAddrN Try.underlying37 ti56 rfl rfl (by repeat (first | exact Has.here | exact Has.sl_apd | exact Has.sl_own | exact Has.r_blk | apply Has.there)) (by omega) | exact v_indexAddr Try.underlying37 ti56 rfl rfl (by repeat (first | exact Has.here | exact Has.sl_apd | exact Has.sl_own | exact Has.r_blk | apply Has.there)) (by omega))) (Nat.le_of_ble_eq_true rfl) ?_
        refine q_val (v_fieldAddrC 0 Try.underlying56 rfl ti3 (by decide) rfl) (Nat.le_of_ble_eq_true rfl) ?_
        refine q_val ((by first | exact v_load_cell lone3 rfl (by repeat (first | exact Has.here | exact Has.sl_apd | exact Has.sl_own | exact Has.r_blk | apply Has.there)) | exact v_load_fld lone3 rfl (by repeat (first | exact Elem.sl (List.getElem?_eq_getElem (by omega)) | exact Elem.own (List.getElem?_eq_getElem (by omega)) | apply Elem.there)) (by (try apply FldS.map); apply FldS.fst; (try apply FldS.map); first | exact FldS.int _ | exact FldS.str | exact FldS.bool | exact FldS.raw))) (Nat.le_of_ble_eq_true rfl) ?_
        refine q_val (v_ne rfl rfl) (Nat.le_of_ble_eq_true rfl) ?_
        refine q_val (v_move rfl) (Nat.le_of_ble_eq_true rfl) ?_
        first | refine q_guard_f rfl rfl (fun g29 => ?_) (fun g29 => ?_) | refine q_guard rfl rfl (fun g29 => ?_) (fun g29 => ?_)
        · refine q_val (v_move rfl) (Nat.le_of_ble_eq_true rfl) ?_
          refine q_on rfl rfl ?_
          refine q_val (v_move rfl) (Nat.le_of_ble_eq_true rfl) ?_
          refine q_on rfl rfl ?_
          refine q_val ((by first | exact v_indexAddrN Try.underlying37 ti56 rfl rfl (by repeat (first | exact Has.here | exact Has.sl_apd | exact Has.sl_own | exact Has.r_blk | apply Has.there)) (by omega) | exact v_indexAddr Try.underlying37 ti56 rfl rfl (by repeat (first | exact Has.here | exact Has.sl_apd | exact Has.sl_own | exact Has.r_blk | apply Has.there)) (by omega))) (Nat.le_of_ble_eq_true rfl) ?_
          refine q_on rfl rfl ?_
          refine q_val (v_fieldAddrC 2 Try.underlying56 rfl ti4 (by decide) rfl) (Nat.le_of_ble_eq_true rfl) ?_
          refine q_on rfl rfl ?_
          refine q_val ((by first | exact v_load_cell lone4 rfl (by repeat (first | exact Has.here | exact Has.sl_apd | exact Has.sl_own | exact Has.r_blk | apply Has.there)) | exact v_load_fld lone4 rfl (by repeat (first | exact Elem.sl (List.getElem?_eq_getElem (by omega)) | exact Elem.own (List.getElem?_eq_getElem (by omega)) | apply Elem.there)) (by (try apply FldS.map); apply FldS.snd (j := 1) rfl; apply FldS.snd (j := 0) rfl; (try apply FldS.map); first | exact FldS.int _ | exact FldS.str | exact FldS.bool | exact FldS.raw))) (Nat.le_of_ble_eq_true rfl) ?_
          refine q_on rfl rfl ?_
          refine q_val (v_move rfl) (Nat.le_of_ble_eq_true rfl) ?_
          refine q_on rfl rfl ?_
          refine q_val (v_move rfl) (Nat.le_of_ble_eq_true rfl) ?_
          refine q_on rfl rfl ?_
          refine q_val ((by first | exact v_indexAddrN Try.underlying37 ti56 rfl rfl (by repeat (first | exact Has.here | exact Has.sl_apd | exact Has.sl_own | exact Has.r_blk | apply Has.there)) (by omega) | exact v_indexAddr Try.underlying37 ti56 rfl rfl (by repeat (first | exact Has.here | exact Has.sl_apd | exact Has.sl_own | exact Has.r_blk | apply Has.there)) (by omega))) (Nat.le_of_ble_eq_true rfl) ?_
          refine q_on rfl rfl ?_
          refine q_val (v_fieldAddrC 2 Try.underlying56 rfl ti4 (by decide) rfl) (Nat.le_of_ble_eq_true rfl) ?_
          refine q_on rfl rfl ?_
          refine q_val ((by first | exact v_load_cell lone4 rfl (by repeat (first | exact Has.here | exact Has.sl_apd | exact Has.sl_own | exact Has.r_blk | apply Has.there)) | exact v_load_fld lone4 rfl (by repeat (first | exact Elem.sl (List.getElem?_eq_getElem (by omega)) | exact Elem.own (List.getElem?_eq_getElem (by omega)) | apply Elem.there)) (by (try apply FldS.map); apply FldS.snd (j := 1) rfl; apply FldS.snd (j := 0) rfl; (try apply FldS.map); first | exact FldS.int _ | exact FldS.str | exact FldS.bool | exact FldS.raw))) (Nat.le_of_ble_eq_true rfl) ?_
          refine q_on rfl rfl ?_
          refine q_val (v_bne Try.underlying4 rfl rfl) (Nat.le_of_ble_eq_true rfl) ?_
          refine q_val (v_pick_f rfl rfl) (Nat.le_of_ble_eq_true rfl) ?_
          refine q_val (v_move rfl) (Nat.le_of_ble_eq_true rfl) ?_
          first | refine q_guard_f rfl rfl (fun g42 => ?_) (fun g42 => ?_) | refine q_guard rfl rfl (fun g42 => ?_) (fun g42 => ?_)
          · refine q_val (v_move rfl) (Nat.le_of_ble_eq_true rfl) ?_
            refine q_on rfl rfl ?_
            refine q_val (v_move rfl) (Nat.le_of_ble_eq_true rfl) ?_
            refine q_on rfl rfl ?_
            refine q_val ((by first | exact v_indexAddrN Try.underlying37 ti56 rfl rfl (by repeat (first | exact Has.here | exact Has.sl_apd | exact Has.sl_own | exact Has.r_blk | apply Has.there)) (by omega) | exact v_indexAddr Try.underlying37 ti56 rfl rfl (by repeat (first | exact Has.here | exact Has.sl_apd | exact Has.sl_own | exact Has.r_blk | apply Has.there)) (by omega))) (Nat.le_of_ble_eq_true rfl) ?_
            refine q_on rfl rfl ?_
            refine q_val (v_fieldAddrC 1 Try.underlying56 rfl ti30 (by decide) rfl) (Nat.le_of_ble_eq_true rfl) ?_
            refine q_on rfl rfl ?_
            refine q_val (v_load_cell lone30 rfl (by repeat (first | exact Has.here | exact Has.sl_apd | exact Has.sl_own | exact Has.r_blk | apply Has.there))) (Nat.le_of_ble_eq_true rfl) ?_
            refine q_on rfl rfl ?_
            refine q_val ((by first | exact v_len_form Try.underlying30 rfl | exact v_len_sl Try.underlying30 rfl (by repeat (first | exact Has.here | exact Has.sl_apd | exact Has.sl_own | exact Has.r_blk | apply Has.there)))) (Nat.le_of_ble_eq_true rfl) ?_
            refine q_on rfl rfl ?_
            refine q_val (v_move rfl) (Nat.le_of_ble_eq_true rfl) ?_
            refine q_on rfl rfl ?_
            refine q_val (v_move rfl) (Nat.le_of_ble_eq_true rfl) ?_
            refine q_on rfl rfl ?_
            refine q_val ((by first | exact v_indexAddrN Try.underlying37 ti56 rfl rfl (by repeat (first | exact Has.here | exact Has.sl_apd | exact Has.sl_own | exact Has.r_blk | apply Has.there)) (by omega) | exact v_indexAddr Try.underlying37 ti56 rfl rfl (by repeat (first | exact Has.here | exact Has.sl_apd | exact Has.sl_own | exact Has.r_blk | apply Has.there)) (by omega))) (Nat.le_of_ble_eq_true rfl) ?_
            refine q_on rfl rfl ?_
            refine q_val (v_fieldAddrC 1 Try.underlying56 rfl ti30 (by decide) rfl) (Nat.le_of_ble_eq_true rfl) ?_
            refine q_on rfl rfl ?_
            refine q_val (v_load_cell lone30 rfl (by repeat (first | exact Has.here | exact Has.sl_apd | exact Has.sl_own | exact Has.r_blk | apply Has.there))) (Nat.le_of_ble_eq_true rfl) ?_
            refine q_on rfl rfl ?_
            refine q_val ((by first | exact v_len_form Try.underlying30 rfl | exact v_len_sl Try.underlying30 rfl (by repeat (first | exact Has.here | exact Has.sl_apd | exact Has.sl_own | exact Has.r_blk | apply Has.there)))) (Nat.le_of_ble_eq_true rfl) ?_
            refine q_on rfl rfl ?_
            refine q_val (v_ne rfl rfl) (Nat.le_of_ble_eq_true rfl) ?_
            refine q_val (v_pick_f rfl rfl) (Nat.le_of_ble_eq_true rfl) ?_
            refine q_nil ?_
            exact c_use J ⟨Env.as rfl (congrArg Value.bool (by first | rfl | (simp_all; done) | (simp_all; omega) | (simp; omega))), (by repeat (first | exact trivial | refine ⟨rfl, ?_⟩))⟩ (Ent.refl _)
          · refine q_off rfl rfl rfl (Nat.le_of_ble_eq_true rfl) ?_
            refine q_off rfl rfl rfl (Nat.le_of_ble_eq_true rfl) ?_
            refine q_off rfl rfl rfl (Nat.le_of_ble_eq_true rfl) ?_
            refine q_off rfl rfl rfl (Nat.le_of_ble_eq_true rfl) ?_
            refine q_off rfl rfl rfl (Nat.le_of_ble_eq_true rfl) ?_
            refine q_off rfl rfl rfl (Nat.le_of_ble_eq_true rfl) ?_
            refine q_off rfl rfl rfl (Nat.le_of_ble_eq_true rfl) ?_
            refine q_off rfl rfl rfl (Nat.le_of_ble_eq_true rfl) ?_
            refine q_off rfl rfl rfl (Nat.le_of_ble_eq_true rfl) ?_
            refine q_off rfl rfl rfl (Nat.le_of_ble_eq_true rfl) ?_
            refine q_off rfl rfl rfl (Nat.le_of_ble_eq_true rfl) ?_
            refine q_off rfl rfl rfl (Nat.le_of_ble_eq_true rfl) ?_
            refine q_off rfl rfl rfl (Nat.le_of_ble_eq_true rfl) ?_
            refine q_val (v_pick_t rfl rfl) (Nat.le_of_ble_eq_true rfl) ?_
            refine q_nil ?_
            exact c_use J ⟨Env.as rfl (congrArg Value.bool (by first | rfl | (simp_all; done) | (simp_all; omega) | (simp; omega))), (by repeat (first | exact trivial | refine ⟨rfl, ?_⟩))⟩ (Ent.refl _)
        · refine q_off rfl rfl rfl (Nat.le_of_ble_eq_true rfl) ?_
          refine q_off rfl rfl rfl (Nat.le_of_ble_eq_true rfl) ?_
          refine q_off rfl rfl rfl (Nat.le_of_ble_eq_true rfl) ?_
          refine q_off rfl rfl rfl (Nat.le_of_ble_eq_true rfl) ?_
          refine q_off rfl rfl rfl (Nat.le_of_ble_eq_true rfl) ?_
          refine q_off rfl rfl rfl (Nat.le_of_ble_eq_true rfl) ?_
          refine q_off rfl rfl rfl (Nat.le_of_ble_eq_true rfl) ?_
          refine q_off rfl rfl rfl (Nat.le_of_ble_eq_true rfl) ?_
          refine q_off rfl rfl rfl (Nat.le_of_ble_eq_true rfl) ?_
          refine q_off rfl rfl rfl (Nat.le_of_ble_eq_true rfl) ?_
          refine q_off rfl rfl rfl (Nat.le_of_ble_eq_true rfl) ?_
          refine q_val (v_pick_t rfl rfl) (Nat.le_of_ble_eq_true rfl) ?_
          refine q_val (v_move rfl) (Nat.le_of_ble_eq_true rfl) ?_
          refine q_off rfl rfl rfl (Nat.le_of_ble_eq_true rfl) ?_
          refine q_off rfl rfl rfl (Nat.le_of_ble_eq_true rfl) ?_
          refine q_off rfl rfl rfl (Nat.le_of_ble_eq_true rfl) ?_
          refine q_off rfl rfl rfl (Nat.le_of_ble_eq_true rfl) ?_
          refine q_off rfl rfl rfl (Nat.le_of_ble_eq_true rfl) ?_
          refine q_off rfl rfl rfl (Nat.le_of_ble_eq_true rfl) ?_
          refine q_off rfl rfl rfl (Nat.le_of_ble_eq_true rfl) ?_
          refine q_off rfl rfl rfl (Nat.le_of_ble_eq_true rfl) ?_
          refine q_off rfl rfl rfl (Nat.le_of_ble_eq_true rfl) ?_
          refine q_off rfl rfl rfl (Nat.le_of_ble_eq_true rfl) ?_
          refine q_off rfl rfl rfl (Nat.le_of_ble_eq_true rfl) ?_
          refine q_off rfl rfl rfl (Nat.le_of_ble_eq_true rfl) ?_
          refine q_off rfl rfl rfl (Nat.le_of_ble_eq_true rfl) ?_
          refine q_val (v_pick_t rfl rfl) (Nat.le_of_ble_eq_true rfl) ?_
          refine q_nil ?_
          exact c_use J ⟨Env.as rfl (congrArg Value.bool (by first | rfl | (simp_all; done) | (simp_all; omega) | (simp; omega))), (by repeat (first | exact trivial | refine ⟨rfl, ?_⟩))⟩ (Ent.refl _)
      refine c_cond_p rfl (fun hd => ?_) (fun hd => ?_)
      · refine c_seq ?_
        refine c_region ?_
        refine o_val (v_assign rfl) (Nat.le_of_ble_eq_true rfl) ?_
        refine o_nil ?_
        refine c_ret1 Try.func28 rfl rfl fun w O hS => ?_
        exact ⟨(), congrArg Value.bool (decide_eq_false fun h => hd (by subst h; simp)).symm, trivial, trivial⟩
      · obtain ⟨h1, h2, h3⟩ : xs[k].1 = ys[k].1 ∧ xs[k].2.2 = ys[k].2.2 ∧ xs[k].2.1.length = ys[k].2.1.length := Classical.not_not.1 hd
        refine c_skip ?_
        refine c_seq ?_
        refine c_region ?_
        refine o_val (v_assign rfl) (Nat.le_of_ble_eq_true rfl) ?_
        refine o_nil ?_
        refine c_block ?_
        refine c_loopQ (γ := Nat) [(0, _), (1, _), (4, _), (5, _), (12, _), (13, _), (14, _), (15, _), (56, _)] (fun j => xs[k].2.1.length - j) (fun j => j ≤ xs[k].2.1.length ∧ ∀ (i : Nat) (hi : i < xs[k].2.1.length), i < j → xs[k].2.1[i] = ys[k].2.1[i]'(by omega)) (fun j => [(6, .int .i64 j)]) (0) (⟨Nat.zero_le _, fun _ _ h => by omega⟩) (by repeat (first | exact trivial | refine ⟨rfl, ?_⟩)) ?_
        rintro j ⟨hj, hall2⟩ IH2
        try dsimp only [List.cons_append, List.nil_append]
        refine c_seq ?_
        refine c_seq ?_
        refine c_region ?_
        refine o_val (v_move rfl) (Nat.le_of_ble_eq_true rfl) ?_
        refine o_val (v_move rfl) (Nat.le_of_ble_eq_true rfl) ?_
        refine o_val (v_move rfl) (Nat.le_of_ble_eq_true rfl) ?_
        refine o_val ((by first | exact v_indexAddrN Try.underlying37 ti56 rfl rfl (by repeat (first | exact Has.here | exact Has.sl_apd | exact Has.sl_own | exact Has.r_blk | apply Has.there)) (by omega) | exact v_indexAddr Try.underlying37 ti56 rfl rfl (by repeat (first | exact Has.here | exact Has.sl_apd | exact Has.sl_own | exact Has.r_blk | apply Has.there)) (by omega))) (Nat.le_of_ble_eq_true rfl) ?_
        refine o_val (v_fieldAddrC 1 Try.underlying56 rfl ti30 (by decide) rfl) (Nat.le_of_ble_eq_true rfl) ?_
        refine o_step (s_load_fldl lone30 rfl (Nat.le_of_ble_eq_true rfl) (by repeat (first | exact Elem.sl (List.getElem?_eq_getElem (by omega)) | exact Elem.own (List.getElem?_eq_getElem (by omega)) | apply Elem.there)) (by (try apply FldL.map); apply FldL.snd (j := 0) rfl; apply FldL.fst; (try apply FldL.map); exact FldL.sl) (fun v62 => ?_))
        refine o_val ((by first | exact v_len_form Try.underlying30 rfl | exact v_len_sl Try.underlying30 rfl (by repeat (first | exact Has.here | exact Has.sl_apd | exact Has.sl_own | exact Has.r_blk | apply Has.there)))) (Nat.le_of_ble_eq_true rfl) ?_
        refine o_val (v_lt rfl rfl) (Nat.le_of_ble_eq_true rfl) ?_
        refine o_nil ?_
        refine c_cond_p rfl (fun hlt3 => ?_) (fun hlt3 => ?_)
        · have hlt4 : j < xs[k].2.1.length := by omega
          have hlt5 : j < ys[k].2.1.length := by omega
          refine c_skip ?_
          refine c_seq ?_
          refine c_block ?_
          refine c_seq ?_
          refine c_quiet rfl (by kernel_rfl) ?_
          refine q_val (v_move rfl) (Nat.le_of_ble_eq_true rfl) ?_
          refine q_val (v_move rfl) (Nat.le_of_ble_eq_true rfl) ?_
          refine q_val ((by first | exact v_indexAddrN Try.underlying37 ti56 rfl rfl (by repeat (first | exact Has.here | exact Has.sl_apd | exact Has.sl_own | exact Has.r_blk | apply Has.there)) (by omega) | exact v_indexAddr Try.underlying37 ti56 rfl rfl (by repeat (first | exact Has.here | exact Has.sl_apd | exact Has.sl_own | exact Has.r_blk | apply Has.there)) (by omega))) (Nat.le_of_ble_eq_true rfl) ?_
          refine q_val (v_fieldAddrC 1 Try.underlying56 rfl ti30 (by decide) rfl) (Nat.le_of_ble_eq_true rfl) ?_
          refine q_val (v_load_cell lone30 rfl (by repeat (first | exact Has.here | exact Has.sl_apd | exact Has.sl_own | exact Has.r_blk | apply Has.there))) (Nat.le_of_ble_eq_true rfl) ?_
          refine q_val (v_move rfl) (Nat.le_of_ble_eq_true rfl) ?_
          refine q_val ((by first | exact v_indexAddrN Try.underlying30 ti9 rfl rfl (by repeat (first | exact Has.here | exact Has.sl_apd | exact Has.sl_own | exact Has.r_blk | apply Has.there)) (by omega) | exact v_indexAddr Try.underlying30 ti9 rfl rfl (by repeat (first | exact Has.here | exact Has.sl_apd | exact Has.sl_own | exact Has.r_blk | apply Has.there)) (by omega))) (Nat.le_of_ble_eq_true rfl) ?_
          refine q_val (v_load_str lone9 rfl (by repeat (first | exact Elem.sl (List.getElem?_eq_getElem (by omega)) | exact Elem.own (List.getElem?_eq_getElem (by omega)) | apply Elem.there))) (Nat.le_of_ble_eq_true rfl) ?_
          refine q_val (v_move rfl) (Nat.le_of_ble_eq_true rfl) ?_
          refine q_val (v_move rfl) (Nat.le_of_ble_eq_true rfl) ?_
          refine q_val ((by first | exact v_indexAddrN Try.underlying37 ti56 rfl rfl (by repeat (first | exact Has.here | exact Has.sl_apd | exact Has.sl_own | exact Has.r_blk | apply Has.there)) (by omega) | exact v_indexAddr Try.underlying37 ti56 rfl rfl (by repeat (first | exact Has.here | exact Has.sl_apd | exact Has.sl_own | exact Has.r_blk | apply Has.there)) (by omega))) (Nat.le_of_ble_eq_true rfl) ?_
          refine q_val (v_fieldAddrC 1 Try.underlying56 rfl ti30 (by decide) rfl) (Nat.le_of_ble_eq_true rfl) ?_
          refine q_val (v_load_cell lone30 rfl (by repeat (first | exact Has.here | exact Has.sl_apd | exact Has.sl_own | exact Has.r_blk | apply Has.there))) (Nat.le_of_ble_eq_true rfl) ?_
          refine q_val (v_move rfl) (Nat.le_of_ble_eq_true rfl) ?_
          refine q_val ((by first | exact v_indexAddrN Try.underlying30 ti9 rfl rfl (by repeat (first | exact Has.here | exact Has.sl_apd | exact Has.sl_own | exact Has.r_blk | apply Has.there)) (by omega) | exact v_indexAddr Try.underlying30 ti9 rfl rfl (by repeat (first | exact Has.here | exact Has.sl_apd | exact Has.sl_own | exact Has.r_blk | apply Has.there)) (by omega))) (Nat.le_of_ble_eq_true rfl) ?_
          refine q_val (v_load_str lone9 rfl (by repeat (first | exact Elem.sl (List.getElem?_eq_getElem (by omega)) | exact Elem.own (List.getElem?_eq_getElem (by omega)) | apply Elem.there))) (Nat.le_of_ble_eq_true rfl) ?_
          refine q_val (v_sne rfl rfl) (Nat.le_of_ble_eq_true rfl) ?_
          refine q_nil ?_
          refine c_cond_p rfl (fun hs => ?_) (fun hs => ?_)
          · refine c_seq ?_
            refine c_region ?_
            refine o_val (v_assign rfl) (Nat.le_of_ble_eq_true rfl) ?_
            refine o_nil ?_
            refine c_ret1 Try.func28 rfl rfl fun w O hS => ?_
            exact ⟨(), congrArg Value.bool (decide_eq_false fun h => hs (by subst h; rfl)).symm, trivial, trivial⟩
          · have hs' : xs[k].2.1[j] = ys[k].2.1[j] := Classical.not_not.1 hs
            refine c_skip ?_
            refine c_inBlock ?_
            refine c_region ?_
            refine o_val (v_move rfl) (Nat.le_of_ble_eq_true rfl) ?_
            refine o_val ((by first | exact v_add64 rfl rfl (by omega) | exact v_add rfl rfl)) (Nat.le_of_ble_eq_true rfl) ?_
            refine o_val (v_assign rfl) (Nat.le_of_ble_eq_true rfl) ?_
            refine o_nil ?_
            refine c_use (IH2 (j + 1) (by first | omega | (dsimp only; omega)) (⟨by omega, fun i hi hij => (Nat.lt_succ_iff_lt_or_eq.1 hij).elim (hall2 i hi) fun h => by subst h; exact hs'⟩)) (by repeat (first | exact trivial | refine ⟨rfl, ?_⟩)) (Picks.ent (by repeat (first | exact Picks.nil | (apply Picks.cons; · repeat (first | exact Pick.keep (Sl.isDup _ _ _) | exact Pick.keep (BlkR.isDup _ _ _) | exact Pick.keep (FldCell.isDup _ _) | exact Pick.here | exact Pick.own_sl | exact Pick.apd_sl | exact Pick.r_blk | exact Pick.sl_nil | exact Pick.own_nil | exact Pick.map_itO _ | apply Pick.there)))))
        · refine c_exit rfl ?_
          refine c_inBlock ?_
          refine c_region ?_
          refine o_val (v_move rfl) (Nat.le_of_ble_eq_true rfl) ?_
          refine o_val ((by first | exact v_add64 rfl rfl (by omega) | exact v_add rfl rfl)) (Nat.le_of_ble_eq_true rfl) ?_
          refine o_val (v_assign rfl) (Nat.le_of_ble_eq_true rfl) ?_
          refine o_nil ?_
          have he : xs[k] = ys[k] := nt_ext.2 ⟨h1, h2, List.ext_getElem h3 fun i hi hi' => hall2 i hi (by omega)⟩
          refine c_use (IH (k + 1) (by first | omega | (dsimp only; omega)) (⟨by omega, fun i hi hij => (Nat.lt_succ_iff_lt_or_eq.1 hij).elim (hall i hi) fun h => by subst h; exact he⟩)) (by repeat (first | exact trivial | refine ⟨rfl, ?_⟩)) (Picks.ent (by repeat (first | exact Picks.nil | (apply Picks.cons; · repeat (first | exact Pick.keep (Sl.isDup _ _ _) | exact Pick.keep (BlkR.isDup _ _ _) | exact Pick.keep (FldCell.isDup _ _) | exact Pick.here | exact Pick.own_sl | exact Pick.apd_sl | exact Pick.r_blk | exact Pick.sl_nil | exact Pick.own_nil | exact Pick.map_itO _ | apply Pick.there)))))
    · refine c_exit rfl ?_
      refine c_seq ?_
      refine c_region ?_
      refine o_val (v_assign rfl) (Nat.le_of_ble_eq_true rfl) ?_
      refine o_nil ?_
      refine c_ret1 Try.func28 rfl rfl fun w O hS => ?_
      exact ⟨(), congrArg Value.bool (decide_eq_true (List.ext_getElem hlen fun i hi hi' => hall i hi (by omega))).symm, trivial, trivial⟩
end Go.Proofs.Ytnamhhmfnokfiaa

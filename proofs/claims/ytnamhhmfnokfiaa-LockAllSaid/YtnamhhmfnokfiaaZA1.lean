/- LockAll: for every input it returns true, and its arguments read behind the call as before. -/
import Derived.Test.YtnamhhmfnokfiaaZZ7
import Derived.Test.YtnamhhmfnokfiaaRows
/- LockAll: what the table and the rows say, of all owners and names of a script. -/
namespace Go.Proofs.Ytnamhhmfnokfiaa
open Go Go.SL
theorem waitD1 (W : List Hs) (o : Int) : ((waitR W o).map (·.2.1)).getD ⟨#[]⟩ = ((waitR W o).getD hs0).2.1 := by cases waitR W o <;> rfl
theorem waitD2 (W : List Hs) (o : Int) : ((waitR W o).map (·.2.2)).getD 0 = ((waitR W o).getD hs0).2.2 := by cases waitR W o <;> rfl
attribute [local irreducible] Cfg Kont StepK Val Con Qops Any Sl Own Blk BlkR Rd Pu ExA AllA Has Pick Ent Elem Beside Callable TI Lone OwnO AndA
set_option maxRecDepth 100000 in
theorem stands12_con (N t : Nat) (L W : List Hs) (lv wv sv : Value) (ss : List Op12) (hN : N ≤ 1000) (hl : L.length + W.length ≤ 400) (hs : ss.length ≤ 40) :
    Con Try.prog 38 [.pointer (some ⟨t, 0, none⟩), .agg #[lv, wv], sv] [TabR N t L W, Sl eHs lv L, Sl eHs wv W, Sl eOp12 sv ss] (γ := Unit) (fun _ => .bool true) (fun _ => True)
      (fun _ => [TabR N t L W, Sl eHs lv L, Sl eHs wv W, Sl eOp12 sv ss]) := by
  refine con_of Try.func38 rfl (dd rfl) fun w0 O0 => ?_
  refine c_seq ?_
  refine c_region ?_
  refine o_step (s_box rfl (dd rfl) (fun b4 => ?_))
  refine o_val (v_assign rfl) (dd rfl) ?_
  refine o_nil ?_
  refine c_seq ?_
  refine c_seq ?_
  refine c_region ?_
  refine o_val (v_move rfl) (dd rfl) ?_
  refine o_val ((by first | exact v_len_form Try.underlying69 rfl | exact v_len_sl Try.underlying69 rfl (hX (by repeat constructor)))) (dd rfl) ?_
  refine o_val (v_move rfl) (dd rfl) ?_
  refine o_nil ?_
  refine c_block ?_
  refine c_loopR (γ := Nat) [(0, _), (4, _), (6, _), (21, _), (22, _)] (fun i => ss.length - i) (fun i => i ≤ ss.length) (fun i => [(23, .int .i64 i)]) (fun _ => [Blk b4 78 [lv, wv], TabR N t L W, Sl eHs lv L, Sl eHs wv W, Sl eOp12 sv ss]) (0) (Nat.zero_le _) (by repeat (first | exact trivial | refine ⟨rfl, ?_⟩)) (eX (by repeat constructor)) ?_
  rintro i hi IH
  try dsimp only [List.cons_append, List.nil_append]
  refine c_seq ?_
  refine c_region ?_
  refine o_val (v_lt rfl rfl) (dd rfl) ?_
  refine o_nil ?_
  refine c_seq ?_
  refine c_cond_p rfl (fun hlt => ?_) (fun hlt => ?_)
  · have hi' : i < ss.length := by omega
    refine c_skip ?_
    refine c_seq ?_
    refine c_block ?_
    refine c_seq ?_
    refine c_region ?_
    refine o_val ((by first | exact v_indexAddrN Try.underlying69 ti80 rfl rfl (hX (by repeat constructor)) (by omega) | exact v_indexAddr Try.underlying69 ti80 rfl rfl (hX (by repeat constructor)) (by omega))) (dd rfl) ?_
    refine o_val (v_load_p (by repeat (first | exact PEnc.int _ | exact PEnc.str | exact PEnc.bool | exact PEnc.byte | exact PEnc.raw | apply PEnc.pair | apply PEnc.map)) ⟨_, Try.underlying80⟩ ti80 rfl (by repeat (first|exact el1 (by omega)|exact el2 (by omega)|exact el3 (by omega)|apply Elem.there))) (dd rfl) ?_
    refine o_step (s_alloc ti80 (dd rfl) (fun b8 => ?_))
    refine o_step (s_store_all ti80 rfl rfl (by first | exact CellsV.lit rfl | exact CellsV.one (by first | exact OneC.lit rfl | exact OneC.sl (hX (by repeat constructor)) )) (by repeat (first | exact OneAll.nil | (refine OneAll.cons ?_ ?_; · first | exact OneC.lit rfl | exact OneC.sl (hX (by repeat constructor)) ) | exact OneAll.rd (hX (by repeat constructor)))) rfl (pB (by repeat constructor)) rfl (?_))
    refine o_nil ?_
    refine c_seq ?_
    refine c_region ?_
    refine o_val (v_move rfl) (dd rfl) ?_
    refine o_val (v_fieldAddrC 1 Try.underlying80 rfl ti3 (by decide) rfl) (dd rfl) ?_
    refine o_val (v_load lone3 rfl (hX (by repeat constructor)) rfl) (dd rfl) ?_
    refine o_val (v_fieldAddrC 2 Try.underlying80 rfl ti9 (by decide) rfl) (dd rfl) ?_
    refine o_val (v_load lone9 rfl (hX (by repeat constructor)) rfl) (dd rfl) ?_
    refine o_step (s_callf cl40 (hasR_con N t L W (ss[i]'hi').2.1 (ss[i]'hi').2.2.1) rfl (dd rfl) (pXs (by repeat constructor)) fun _ _ => ?_)
    refine o_val (v_move rfl) (dd rfl) ?_
    refine o_val (v_extract rfl rfl) (dd rfl) ?_
    refine o_val (v_extract rfl rfl) (dd rfl) ?_
    refine o_val (v_assign rfl) (dd rfl) ?_
    refine o_val (v_assign rfl) (dd rfl) ?_
    refine o_nil ?_
    refine c_seq ?_
    refine c_region ?_
    refine o_val (v_load_all ⟨_, Try.underlying78⟩ ti78 rfl (hX (by repeat constructor)) rfl) (dd rfl) ?_
    refine o_val (v_fieldAddrC 1 Try.underlying80 rfl ti3 (by decide) rfl) (dd rfl) ?_
    refine o_val (v_load lone3 rfl (hX (by repeat constructor)) rfl) (dd rfl) ?_
    refine o_val (v_fieldAddrC 2 Try.underlying80 rfl ti9 (by decide) rfl) (dd rfl) ?_
    refine o_val (v_load lone9 rfl (hX (by repeat constructor)) rfl) (dd rfl) ?_
    refine o_step (s_callf_keep cl64 (get_con lv wv L W (ss[i]'hi').2.1 (ss[i]'hi').2.2.1 (by omega)) rfl (dd rfl) (rX (by repeat constructor)) (fun _ => sX) (fun _ _ => ?_))
    refine o_val (v_move rfl) (dd rfl) ?_
    refine o_val (v_extract rfl rfl) (dd rfl) ?_
    refine o_val (v_extract rfl rfl) (dd rfl) ?_
    refine o_val (v_assign rfl) (dd rfl) ?_
    refine o_val (v_assign rfl) (dd rfl) ?_
    refine o_nil ?_
    refine c_seq ?_
    refine c_region ?_
    refine o_val (v_move rfl) (dd rfl) ?_
    refine o_val (v_fieldAddrC 1 Try.underlying80 rfl ti3 (by decide) rfl) (dd rfl) ?_
    refine o_val (v_load lone3 rfl (hX (by repeat constructor)) rfl) (dd rfl) ?_
    refine o_step (s_callf cl47 (waitsR_con N t L W (ss[i]'hi').2.1 hN) rfl (dd rfl) (pXs (by repeat constructor)) fun _ _ => ?_)
    refine o_val (v_move rfl) (dd rfl) ?_
    refine o_val (v_extract rfl rfl) (dd rfl) ?_
    refine o_val (v_extract rfl rfl) (dd rfl) ?_
    refine o_val (v_extract rfl rfl) (dd rfl) ?_
    refine o_val (v_assign rfl) (dd rfl) ?_
    refine o_val (v_assign rfl) (dd rfl) ?_
    refine o_val (v_assign rfl) (dd rfl) ?_
    refine o_nil ?_
    refine c_seq ?_
    refine c_region ?_
    refine o_val (v_load_all ⟨_, Try.underlying78⟩ ti78 rfl (hX (by repeat constructor)) rfl) (dd rfl) ?_
    refine o_val (v_fieldAddrC 1 Try.underlying80 rfl ti3 (by decide) rfl) (dd rfl) ?_
    refine o_val (v_load lone3 rfl (hX (by repeat constructor)) rfl) (dd rfl) ?_
    refine o_step (s_callf_keep cl65 (waitR_con lv wv L W (ss[i]'hi').2.1 (by omega)) rfl (dd rfl) (rX (by repeat constructor)) (fun _ => sX) (fun _ _ => ?_))
    refine o_val (v_move rfl) (dd rfl) ?_
    refine o_val (v_extract rfl rfl) (dd rfl) ?_
    refine o_val (v_extract rfl rfl) (dd rfl) ?_
    refine o_step (s_alloc ti90 (dd rfl) (fun b16 => ?_))
    refine o_step (s_store_all ti90 rfl rfl (by first | exact CellsV.lit rfl | exact CellsV.one (by first | exact OneC.lit rfl | exact OneC.sl (hX (by repeat constructor)) )) (by repeat (first | exact OneAll.nil | (refine OneAll.cons ?_ ?_; · first | exact OneC.lit rfl | exact OneC.sl (hX (by repeat constructor)) ) | exact OneAll.rd (hX (by repeat constructor)))) rfl (pB (by repeat constructor)) rfl (?_))
    refine o_val (v_assign rfl) (dd rfl) ?_
    refine o_nil ?_
    refine c_seq ?_
    refine c_seq ?_
    have hd1 := waitD1 W (ss[i]'hi').2.1
    have hd2 := waitD2 W (ss[i]'hi').2.1
    refine c_env (env' := (0, _) :: (4, _) :: (6, _) :: (8, _) :: (9, _) :: (10, _) :: (11, _) :: (12, _) :: (13, _) :: (14, _) :: (15, _) :: (16, _) :: (17, _) :: (21, _) :: (22, _) :: (23, _) :: (24, _) :: (25, _) :: (26, _) :: (27, _) :: (28, _) :: (29, _) :: (30, _) :: (31, _) :: (32, _) :: (33, _) :: (34, _) :: (35, _) :: (36, _) :: (37, _) :: (38, _) :: (39, _) :: (40, _) :: (41, _) :: (42, _) :: (43, _) :: (44, _) :: (45, _) :: (46, _) :: (47, _) :: (48, _) :: (49, _) :: (50, _) :: (51, _) :: (52, _) :: (53, _) :: (54, _) :: (55, _) :: (56, _) :: (57, _) :: (58, _) :: (59, _) :: []) (by repeat (first | exact trivial | refine ⟨rfl, ?_⟩)) ?_
    refine c_joinb (d := 84) (decide (False)) ?_ ?_
    rotate_left
    · intro J
      refine c_region ?_
      refine o_val (v_move rfl) (dd rfl) ?_
      refine o_val (v_move rfl) (dd rfl) ?_
      refine o_val (v_ne rfl rfl) (dd rfl) ?_
      refine o_val (v_move rfl) (dd rfl) ?_
      first | refine o_guard_f rfl rfl (fun g63 => ?_) (fun g63 => ?_) | refine o_guard rfl rfl (fun g63 => ?_) (fun g63 => ?_)
      · refine o_val (v_move rfl) (dd rfl) ?_
        refine o_on rfl rfl ?_
        refine o_val (v_move rfl) (dd rfl) ?_
        refine o_on rfl rfl ?_
        refine o_val (v_bne Try.underlying4 rfl rfl) (dd rfl) ?_
        refine o_val (v_pick_f rfl rfl) (dd rfl) ?_
        refine o_val (v_move rfl) (dd rfl) ?_
        first | refine o_guard_f rfl rfl (fun g68 => ?_) (fun g68 => ?_) | refine o_guard rfl rfl (fun g68 => ?_) (fun g68 => ?_)
        · refine o_val (v_move rfl) (dd rfl) ?_
          refine o_on rfl rfl ?_
          refine o_val (v_move rfl) (dd rfl) ?_
          refine o_on rfl rfl ?_
          refine o_val (v_bne Try.underlying4 rfl rfl) (dd rfl) ?_
          refine o_val (v_pick_f rfl rfl) (dd rfl) ?_
          refine o_val (v_move rfl) (dd rfl) ?_
          first | refine o_guard_f rfl rfl (fun g73 => ?_) (fun g73 => ?_) | refine o_guard rfl rfl (fun g73 => ?_) (fun g73 => ?_)
          · refine o_val (v_move rfl) (dd rfl) ?_
            refine o_on rfl rfl ?_
            refine o_val (v_fieldAddrC 1 Try.underlying90 rfl ti9 (by decide) rfl) (dd rfl) ?_
            refine o_on rfl rfl ?_
            refine o_val (v_load lone9 rfl (hX (by repeat constructor)) rfl) (dd rfl) ?_
            refine o_on rfl rfl ?_
            refine o_val (v_sne rfl rfl) (dd rfl) ?_
            refine o_val (v_pick_f rfl rfl) (dd rfl) ?_
            refine o_val (v_move rfl) (dd rfl) ?_
            first | refine o_guard_f rfl rfl (fun g79 => ?_) (fun g79 => ?_) | refine o_guard rfl rfl (fun g79 => ?_) (fun g79 => ?_)
            · refine o_val (v_move rfl) (dd rfl) ?_
              refine o_on rfl rfl ?_
              refine o_val (v_fieldAddrC 2 Try.underlying90 rfl ti3 (by decide) rfl) (dd rfl) ?_
              refine o_on rfl rfl ?_
              refine o_val (v_load lone3 rfl (hX (by repeat constructor)) rfl) (dd rfl) ?_
              refine o_on rfl rfl ?_
              refine o_val (v_ne rfl rfl) (dd rfl) ?_
              refine o_val (v_pick_f rfl rfl) (dd rfl) ?_
              refine o_nil ?_
              exact c_use J ⟨Env.as rfl (congrArg Value.bool (by first | rfl | (simp_all; done) | (simp_all; omega) | (simp; omega))), (by repeat (first | exact trivial | refine ⟨rfl, ?_⟩))⟩ (by first | exact Ent.refl _ | exact eX (by repeat constructor))
            · refine o_off rfl rfl rfl (dd rfl) ?_
              refine o_off rfl rfl rfl (dd rfl) ?_
              refine o_off rfl rfl rfl (dd rfl) ?_
              refine o_off rfl rfl rfl (dd rfl) ?_
              refine o_val (v_pick_t rfl rfl) (dd rfl) ?_
              refine o_nil ?_
              exact c_use J ⟨Env.as rfl (congrArg Value.bool (by first | rfl | (simp_all; done) | (simp_all; omega) | (simp; omega))), (by repeat (first | exact trivial | refine ⟨rfl, ?_⟩))⟩ (by first | exact Ent.refl _ | exact eX (by repeat constructor))
          · refine o_off rfl rfl rfl (dd rfl) ?_
            refine o_off rfl rfl rfl (dd rfl) ?_
            refine o_off rfl rfl rfl (dd rfl) ?_
            refine o_off rfl rfl rfl (dd rfl) ?_
            refine o_val (v_pick_t rfl rfl) (dd rfl) ?_
            refine o_val (v_move rfl) (dd rfl) ?_
            refine o_off rfl rfl rfl (dd rfl) ?_
            refine o_off rfl rfl rfl (dd rfl) ?_
            refine o_off rfl rfl rfl (dd rfl) ?_
            refine o_off rfl rfl rfl (dd rfl) ?_
            refine o_val (v_pick_t rfl rfl) (dd rfl) ?_
            refine o_nil ?_
            exact c_use J ⟨Env.as rfl (congrArg Value.bool (by first | rfl | (simp_all; done) | (simp_all; omega) | (simp; omega))), (by repeat (first | exact trivial | refine ⟨rfl, ?_⟩))⟩ (by first | exact Ent.refl _ | exact eX (by repeat constructor))
        · refine o_off rfl rfl rfl (dd rfl) ?_
          refine o_off rfl rfl rfl (dd rfl) ?_
          refine o_off rfl rfl rfl (dd rfl) ?_
          refine o_val (v_pick_t rfl rfl) (dd rfl) ?_
          refine o_val (v_move rfl) (dd rfl) ?_
          refine o_off rfl rfl rfl (dd rfl) ?_
          refine o_off rfl rfl rfl (dd rfl) ?_
          refine o_off rfl rfl rfl (dd rfl) ?_
          refine o_off rfl rfl rfl (dd rfl) ?_
          refine o_val (v_pick_t rfl rfl) (dd rfl) ?_
          refine o_val (v_move rfl) (dd rfl) ?_
          refine o_off rfl rfl rfl (dd rfl) ?_
          refine o_off rfl rfl rfl (dd rfl) ?_
          refine o_off rfl rfl rfl (dd rfl) ?_
          refine o_off rfl rfl rfl (dd rfl) ?_
          refine o_val (v_pick_t rfl rfl) (dd rfl) ?_
          refine o_nil ?_
          exact c_use J ⟨Env.as rfl (congrArg Value.bool (by first | rfl | (simp_all; done) | (simp_all; omega) | (simp; omega))), (by repeat (first | exact trivial | refine ⟨rfl, ?_⟩))⟩ (by first | exact Ent.refl _ | exact eX (by repeat constructor))
      · refine o_off rfl rfl rfl (dd rfl) ?_
        refine o_off rfl rfl rfl (dd rfl) ?_
        refine o_off rfl rfl rfl (dd rfl) ?_
        refine o_val (v_pick_t rfl rfl) (dd rfl) ?_
        refine o_val (v_move rfl) (dd rfl) ?_
        refine o_off rfl rfl rfl (dd rfl) ?_
        refine o_off rfl rfl rfl (dd rfl) ?_
        refine o_off rfl rfl rfl (dd rfl) ?_
        refine o_val (v_pick_t rfl rfl) (dd rfl) ?_
        refine o_val (v_move rfl) (dd rfl) ?_
        refine o_off rfl rfl rfl (dd rfl) ?_
        refine o_off rfl rfl rfl (dd rfl) ?_
        refine o_off rfl rfl rfl (dd rfl) ?_
        refine o_off rfl rfl rfl (dd rfl) ?_
        refine o_val (v_pick_t rfl rfl) (dd rfl) ?_
        refine o_val (v_move rfl) (dd rfl) ?_
        refine o_off rfl rfl rfl (dd rfl) ?_
        refine o_off rfl rfl rfl (dd rfl) ?_
        refine o_off rfl rfl rfl (dd rfl) ?_
        refine o_off rfl rfl rfl (dd rfl) ?_
        refine o_val (v_pick_t rfl rfl) (dd rfl) ?_
        refine o_nil ?_
        exact c_use J ⟨Env.as rfl (congrArg Value.bool (by first | rfl | (simp_all; done) | (simp_all; omega) | (simp; omega))), (by repeat (first | exact trivial | refine ⟨rfl, ?_⟩))⟩ (by first | exact Ent.refl _ | exact eX (by repeat constructor))
    refine c_cond_p rfl (fun hno => ?_) (fun hno => ?_)
    · exact hno.elim
    · skip
      refine c_skip ?_
      refine c_seq ?_
      refine c_held [BlkR b8 80 [.int .i64 (ss[i]'hi').1, .int .i64 (ss[i]'hi').2.1, .string (ss[i]'hi').2.2.1, .int .i64 (ss[i]'hi').2.2.2], BlkR b4 78 [lv, wv]] rfl ?_
      refine a_take 0 rfl (by kernel_rfl) (by kernel_rfl) (by kernel_rfl) (v_move rfl) (eX (by repeat constructor)) (dd rfl) ?_
      refine a_take 1 rfl (by kernel_rfl) (by kernel_rfl) (by kernel_rfl) (v_fieldAddrC 2 Try.underlying80 rfl ti9 (by decide) rfl) (eX (by repeat constructor)) (dd rfl) ?_
      refine a_take 2 rfl (by kernel_rfl) (by kernel_rfl) (by kernel_rfl) (v_load lone9 rfl (hX (by repeat constructor)) rfl) (eX (by repeat constructor)) (dd rfl) ?_
      refine a_take 4 rfl (by kernel_rfl) (by kernel_rfl) (by kernel_rfl) (v_load_all ⟨_, Try.underlying78⟩ ti78 rfl (hX (by repeat constructor)) rfl) (eX (by repeat constructor)) (dd rfl) ?_
      refine a_take 5 rfl (by kernel_rfl) (by kernel_rfl) (by kernel_rfl) (v_fieldAddrC 2 Try.underlying80 rfl ti9 (by decide) rfl) (eX (by repeat constructor)) (dd rfl) ?_
      refine a_take 6 rfl (by kernel_rfl) (by kernel_rfl) (by kernel_rfl) (v_load lone9 rfl (hX (by repeat constructor)) rfl) (eX (by repeat constructor)) (dd rfl) ?_
      refine a_one 3 rfl (by kernel_rfl) (s_callf cl41 (queueRt_con N t L W (ss[i]'hi').2.2.1 hN) rfl (dd rfl) (pXs (by repeat constructor)) (fun q _ => a_on (eX (by repeat constructor)) ?_))
      refine a_one 7 rfl (by kernel_rfl) (s_callf_keep cl66 (queueR_con lv wv L W (ss[i]'hi').2.2.1 (by omega)) rfl (dd rfl) (rX (by repeat constructor)) (fun _ => sX) (fun q2 _ => a_on (eX (by repeat constructor)) ?_))
      refine a_take 8 rfl (by kernel_rfl) (by kernel_rfl) (by kernel_rfl) (v_assign rfl) (eX (by repeat constructor)) (dd rfl) ?_
      refine a_take 9 rfl (by kernel_rfl) (by kernel_rfl) (by kernel_rfl) (v_assign rfl) (eX (by repeat constructor)) (dd rfl) ?_
      refine a_done (by kernel_rfl) ?_ _
      refine c_seq ?_
      refine c_seq ?_
      refine c_region ?_
      refine o_val (v_move rfl) (dd rfl) ?_
      refine o_val ((by first | exact v_len_form Try.underlying35 rfl | exact v_len_sl Try.underlying35 rfl (hX (by repeat constructor)))) (dd rfl) ?_
      refine o_val (v_move rfl) (dd rfl) ?_
      refine o_val ((by first | exact v_len_form Try.underlying76 rfl | exact v_len_sl Try.underlying76 rfl (hX (by repeat constructor)))) (dd rfl) ?_
      refine o_val (v_ne rfl rfl) (dd rfl) ?_
      refine o_nil ?_
      have hql : (queueR W (ss[i]'hi').2.2.1).length ≤ 400 := Nat.le_trans (List.length_filter_le _ _) (by omega)
      have hqm : ((queueR W (ss[i]'hi').2.2.1).map (·.1)).length = (queueR W (ss[i]'hi').2.2.1).length := List.length_map _
      refine c_cond_p rfl (fun hne => ?_) (fun hne => ?_)
      · exact absurd (congrArg Int.ofNat hqm) hne
      · skip
        refine c_skip ?_
        refine c_seq ?_
        refine c_region ?_
        refine o_val (v_move rfl) (dd rfl) ?_
        refine o_val ((by first | exact v_len_form Try.underlying35 rfl | exact v_len_sl Try.underlying35 rfl (hX (by repeat constructor)))) (dd rfl) ?_
        refine o_val (v_move rfl) (dd rfl) ?_
        refine o_nil ?_
        refine c_block ?_
        refine c_loopR (γ := Nat) [(0, _), (4, _), (6, _), (8, _), (9, _), (10, _), (11, _), (12, _), (13, _), (14, _), (15, _), (16, _), (17, _), (18, _), (19, _), (21, _), (22, _), (23, _), (24, _), (25, _), (26, _), (27, _), (28, _), (29, _), (30, _), (31, _), (32, _), (33, _), (34, _), (35, _), (36, _), (37, _), (38, _), (39, _), (40, _), (41, _), (42, _), (43, _), (44, _), (45, _), (46, _), (47, _), (48, _), (49, _), (50, _), (51, _), (52, _), (53, _), (54, _), (55, _), (56, _), (57, _), (58, _), (59, _), (84, _), (85, _), (86, _), (87, _), (88, _), (89, _), (90, _), (91, _), (92, _), (93, _), (94, _), (95, _), (96, _), (97, _), (98, _), (99, _)] (fun k => (queueR W (ss[i]'hi').2.2.1).length - k) (fun k => k ≤ (queueR W (ss[i]'hi').2.2.1).length) (fun k => [(100, .int .i64 k)]) (fun _ => [Own (eInt .i64) 3 q ((queueR W (ss[i]'hi').2.2.1).map (·.1)), Own eHs 90 q2 (queueR W (ss[i]'hi').2.2.1), Blk b8 80 [.int .i64 (ss[i]'hi').1, .int .i64 (ss[i]'hi').2.1, .string (ss[i]'hi').2.2.1, .int .i64 (ss[i]'hi').2.2.2], Blk b4 78 [lv, wv], TabR N t L W, Sl eHs lv L, Sl eHs wv W, Sl eOp12 sv ss]) (0) (Nat.zero_le _) (by repeat (first | exact trivial | refine ⟨rfl, ?_⟩)) (eX (by repeat constructor)) ?_
        rintro k hk IH2
        try dsimp only [List.cons_append, List.nil_append]
        refine c_seq ?_
        refine c_region ?_
        refine o_val (v_lt rfl rfl) (dd rfl) ?_
        refine o_nil ?_
        refine c_seq ?_
        refine c_cond_p rfl (fun hlk => ?_) (fun hlk => ?_)
        · have hk' : k < (queueR W (ss[i]'hi').2.2.1).length := by omega
          have hkm : ((queueR W (ss[i]'hi').2.2.1).map (·.1))[k]'(by omega) = ((queueR W (ss[i]'hi').2.2.1)[k]'hk').1 := List.getElem_map _
          refine c_skip ?_
          refine c_seq ?_
          refine c_block ?_
          refine c_seq ?_
          refine c_region ?_
          refine o_val (v_move rfl) (dd rfl) ?_
          refine o_val (v_assign rfl) (dd rfl) ?_
          refine o_nil ?_
          refine c_seq ?_
          refine c_quiet rfl (by kernel_rfl) ?_
          refine q_val (v_move rfl) (dd rfl) ?_
          refine q_val (v_move rfl) (dd rfl) ?_
          refine q_val ((by first | exact v_indexAddrN Try.underlying35 ti3 rfl rfl (hX (by repeat constructor)) (by omega) | exact v_indexAddr Try.underlying35 ti3 rfl rfl (hX (by repeat constructor)) (by omega))) (dd rfl) ?_
          refine q_val (v_load_int lone3 rfl (by repeat (first | exact Elem.sl (List.getElem?_eq_getElem (by omega)) | exact Elem.own (List.getElem?_eq_getElem (by omega)) | exact Elem.ownO (List.getElem?_eq_getElem (by omega)) | apply Elem.there))) (dd rfl) ?_
          refine q_val (v_move rfl) (dd rfl) ?_
          refine q_val (v_move rfl) (dd rfl) ?_
          refine q_val ((by first | exact v_indexAddrN Try.underlying76 ti90 rfl rfl (hX (by repeat constructor)) (by omega) | exact v_indexAddr Try.underlying76 ti90 rfl rfl (hX (by repeat constructor)) (by omega))) (dd rfl) ?_
          refine q_val (v_fieldAddrC 0 Try.underlying90 rfl ti3 (by decide) rfl) (dd rfl) ?_
          refine q_val ((by first | exact v_load_cell lone3 rfl (hX (by repeat constructor)) | exact v_load_fld lone3 rfl (by repeat (first|exact el1 (by omega)|exact el2 (by omega)|exact el3 (by omega)|apply Elem.there)) (by (try apply FldS.map); apply FldS.fst; (try apply FldS.map); first | exact FldS.int _ | exact FldS.str | exact FldS.bool | exact FldS.raw))) (dd rfl) ?_
          refine q_val (v_ne rfl rfl) (dd rfl) ?_
          refine q_nil ?_
          refine c_cond_p rfl (fun hnk => ?_) (fun hnk => ?_)
          · exact absurd hkm hnk
          · skip
            refine c_skip ?_
            refine c_inBlock ?_
            refine c_region ?_
            refine o_val ((by first | exact v_add64 rfl rfl (by omega) | exact v_add rfl rfl)) (dd rfl) ?_
            refine o_val (v_move rfl) (dd rfl) ?_
            refine o_nil ?_
            refine c_use (IH2 (k + 1) (by omega) (by omega)) (by repeat (first | exact trivial | refine ⟨rfl, ?_⟩)) ?_
            exact (eX (by repeat constructor))
        · refine c_exit rfl ?_
          refine c_inBlock ?_
          refine c_region ?_
          refine o_val ((by first | exact v_add64 rfl rfl (by omega) | exact v_add rfl rfl)) (dd rfl) ?_
          refine o_val (v_move rfl) (dd rfl) ?_
          refine o_nil ?_
          refine c_use (IH (i + 1) (by first | omega | (dsimp only; omega)) (by omega)) (by repeat (first | exact trivial | refine ⟨rfl, ?_⟩)) (eX (by repeat constructor))
  · refine c_exit rfl ?_
    refine c_seq ?_
    refine c_region ?_
    refine o_val (v_assign rfl) (dd rfl) ?_
    refine o_nil ?_
    refine c_ret1 Try.func38 rfl rfl fun w O hS => ?_
    exact ⟨(), rfl, trivial, Ent.get hS (eX (by repeat constructor))⟩
set_option maxRecDepth 100000 in
theorem lockAll_con (v : Value) (ss : List Op12) (hss : ss.length ≤ 8796093022207) :
    Con Try.prog 9 [v] [Sl eOp12 v ss] (γ := Unit) (fun _ => .bool true) (fun _ => True) (fun _ => []) := by
  refine con_of Try.func9 rfl (dd rfl) fun w0 O0 => ?_
  refine c_seq ?_
  refine c_region ?_
  refine o_val (v_assign rfl) (dd rfl) ?_
  refine o_nil ?_
  refine c_seq ?_
  refine c_seq ?_
  refine c_region ?_
  refine o_val (v_move rfl) (dd rfl) ?_
  refine o_step (s_callf_keep cl36 (few12_con v ss hss) rfl (dd rfl) (rX (by repeat constructor)) (fun _ => sX) (fun fw hfw => ?_))
  refine o_val (v_not rfl) (dd rfl) ?_
  refine o_nil ?_
  refine c_cond rfl (fun hf => ?_) (fun hf => ?_)
  · refine c_seq ?_
    refine c_region ?_
    refine o_step (s_callf_keep cl35 (alive12_con) rfl (dd rfl) (rX (by repeat constructor)) (fun _ => sX) (fun _ _ => ?_))
    refine o_val (v_assign rfl) (dd rfl) ?_
    refine o_nil ?_
    refine c_ret1 Try.func9 rfl rfl fun w O hS => ?_
    exact ⟨(), rfl, trivial, trivial⟩
  · have hs : ss.length ≤ 40 := hfw (by simpa using hf)
    refine c_skip ?_
    refine c_seq ?_
    refine c_region ?_
    refine o_val (v_buildS (places := [(0, 1), (1, 1)]) (cells := [.map none, .map none]) Try.underlying75 ti75 (by kernel_rfl) rfl (by repeat (first | exact PartsC.nil | (apply PartsC.one (by first | exact OneC.lit rfl | exact OneC.sl (hX (by repeat constructor)) )) | (apply PartsC.lit rfl))) rfl) (dd rfl) ?_
    refine o_step (s_box rfl (dd rfl) (fun b15 => ?_))
    refine o_val (v_assign rfl) (dd rfl) ?_
    refine o_nil ?_
    refine c_seq ?_
    refine c_region ?_
    refine o_step (s_alloc ti78 (dd rfl) (fun b4 => ?_))
    refine o_nil ?_
    refine c_seq ?_
    refine c_seq ?_
    refine c_region ?_
    refine o_val (v_move rfl) (dd rfl) ?_
    refine o_val ((by first | exact v_len_form Try.underlying69 rfl | exact v_len_sl Try.underlying69 rfl (hX (by repeat constructor)))) (dd rfl) ?_
    refine o_val (v_move rfl) (dd rfl) ?_
    refine o_nil ?_
    refine c_block ?_
    refine c_ent (L' := [Blk b15 75 [.map none, .map none], Blk b4 78 [.slice none 0 0, .slice none 0 0], Sl eOp12 v ss]) (eX (by repeat constructor)) ?_
    refine c_ent tabR_new ?_
    refine c_ent (Ent.beside (b := Sl eHs (.slice none 0 0) ([] : List Hs)) (fun w O _ => Sl.nil eHs w _)) ?_
    refine c_ent (Ent.beside (b := Sl eHs (.slice none 0 0) ([] : List Hs)) (fun w O _ => Sl.nil eHs w _)) ?_
    refine c_loopR (γ := Nat × Nat × Value × Value × List Hs × List Hs) [(0, _), (2, _), (4, _), (16, _), (17, _)] (fun g => ss.length - g.1) (fun g => g.1 ≤ ss.length ∧ g.2.2.2.2.1.length + g.2.2.2.2.2.length ≤ g.1) (fun g => [(18, .int .i64 g.1), (3, .pointer (some ⟨g.2.1, 0, none⟩))]) (fun g => [TabR (2 * g.1) g.2.1 g.2.2.2.2.1 g.2.2.2.2.2, Blk b4 78 [g.2.2.1, g.2.2.2.1], Sl eHs g.2.2.1 g.2.2.2.2.1, Sl eHs g.2.2.2.1 g.2.2.2.2.2, Sl eOp12 v ss]) ((0, b15, .slice none 0 0, .slice none 0 0, [], [])) (⟨Nat.zero_le _, Nat.le_refl _⟩) (by repeat (first | exact trivial | refine ⟨rfl, ?_⟩)) (eX (by repeat constructor)) ?_
    rintro ⟨i, t, lv, wv, L, W⟩ ⟨hi, hLW⟩ IH
    dsimp only at hi hLW ⊢
    try dsimp only [List.cons_append, List.nil_append]
    refine c_seq ?_
    refine c_region ?_
    refine o_val (v_lt rfl rfl) (dd rfl) ?_
    refine o_nil ?_
    refine c_seq ?_
    refine c_cond_p rfl (fun hlt => ?_) (fun hlt => ?_)
    · have hi' : i < ss.length := by omega
      refine c_skip ?_
      refine c_seq ?_
      refine c_block ?_
      refine c_seq ?_
      refine c_region ?_
      refine o_val ((by first | exact v_indexAddrN Try.underlying69 ti80 rfl rfl (hX (by repeat constructor)) (by omega) | exact v_indexAddr Try.underlying69 ti80 rfl rfl (hX (by repeat constructor)) (by omega))) (dd rfl) ?_
      refine o_val (v_load_p (by repeat (first | exact PEnc.int _ | exact PEnc.str | exact PEnc.bool | exact PEnc.byte | exact PEnc.raw | apply PEnc.pair | apply PEnc.map)) ⟨_, Try.underlying80⟩ ti80 rfl (by repeat (first|exact el1 (by omega)|exact el2 (by omega)|exact el3 (by omega)|apply Elem.there))) (dd rfl) ?_
      refine o_step (s_alloc ti80 (dd rfl) (fun b6 => ?_))
      refine o_step (s_store_all ti80 rfl rfl (by first | exact CellsV.lit rfl | exact CellsV.one (by first | exact OneC.lit rfl | exact OneC.sl (hX (by repeat constructor)) )) (by repeat (first | exact OneAll.nil | (refine OneAll.cons ?_ ?_; · first | exact OneC.lit rfl | exact OneC.sl (hX (by repeat constructor)) ) | exact OneAll.rd (hX (by repeat constructor)))) rfl (pB (by repeat constructor)) rfl (?_))
      refine o_nil ?_
      refine c_seq ?_
      refine c_region ?_
      refine o_val (v_move rfl) (dd rfl) ?_
      refine o_val (v_load_all ⟨_, Try.underlying78⟩ ti78 rfl (hX (by repeat constructor)) rfl) (dd rfl) ?_
      refine o_val (v_load_all ⟨_, Try.underlying80⟩ ti80 rfl (hX (by repeat constructor)) rfl) (dd rfl) ?_
      refine o_step (s_callf cl37 (does12_con (2 * i) t L W L W lv wv (ss[i]'hi') (by omega) (by omega) (by omega)) rfl (dd rfl) (pXs (by repeat constructor)) fun r26 h26 => ?_)
      refine o_val (v_move rfl) (dd rfl) ?_
      refine o_val (v_extract rfl rfl) (dd rfl) ?_
      refine o_val (v_extract rfl rfl) (dd rfl) ?_
      refine o_val (v_extract rfl rfl) (dd rfl) ?_
      refine o_step (s_alloc ti78 (dd rfl) (fun b8 => ?_))
      refine o_val (v_assign rfl) (dd rfl) ?_
      refine o_step (s_store_all ti78 rfl rfl (by first | exact CellsV.lit rfl | exact CellsV.one (by first | exact OneC.lit rfl | exact OneC.sl (hX (by repeat constructor)) )) (by repeat (first | exact OneAll.nil | (refine OneAll.cons ?_ ?_; · first | exact OneC.lit rfl | exact OneC.sl (hX (by repeat constructor)) ) | exact OneAll.rd (hX (by repeat constructor)))) rfl (pB (by repeat constructor)) rfl (?_))
      refine o_val (v_assign rfl) (dd rfl) ?_
      refine o_nil ?_
      refine c_seq ?_
      have hb : r26.2.2.2 = true := h26 rfl rfl
      have hnl := next_len L W (ss[i]'hi')
      refine c_held [BlkR b8 78 [r26.2.1, r26.2.2.1]] rfl ?_
      refine a_take 0 rfl (by kernel_rfl) (by kernel_rfl) (by kernel_rfl) (v_move rfl) (eX (by repeat constructor)) (dd rfl) ?_
      refine a_take 1 rfl (by kernel_rfl) (by kernel_rfl) (by kernel_rfl) (v_load_all ⟨_, Try.underlying78⟩ ti78 rfl (hX (by repeat constructor)) rfl) (eX (by repeat constructor)) (dd rfl) ?_
      refine a_take 2 rfl (by kernel_rfl) (by kernel_rfl) (by kernel_rfl) (v_assign rfl) (eX (by repeat constructor)) (dd rfl) ?_
      refine a_one 3 rfl (by kernel_rfl) (s_store_all ti78 rfl rfl (by first | exact CellsV.lit rfl | exact CellsV.one (by first | exact OneC.lit rfl | exact OneC.sl (hX (by repeat constructor)) )) (by repeat (first | exact OneAll.nil | (refine OneAll.cons ?_ ?_; · first | exact OneC.lit rfl | exact OneC.sl (hX (by repeat constructor)) ) | exact OneAll.rd (hX (by repeat constructor)))) rfl (pB (by repeat constructor)) rfl (a_on (eX (by repeat constructor)) ?_))
      refine a_done (by kernel_rfl) ?_ _
      refine c_seq ?_
      refine c_region ?_
      refine o_val (v_move rfl) (dd rfl) ?_
      refine o_val (v_not rfl) (dd rfl) ?_
      refine o_val (v_move rfl) (dd rfl) ?_
      refine o_guard rfl rfl (fun _ => ?_) (fun h_ => absurd ((show _ = false from congrArg (!·) hb).symm.trans h_) (by decide))
      refine o_val (v_move rfl) (dd rfl) ?_
      refine o_on rfl rfl ?_
      refine o_val (v_load_all ⟨_, Try.underlying78⟩ ti78 rfl (hX (by repeat constructor)) rfl) (dd rfl) ?_
      refine o_on rfl rfl ?_
      refine o_val (v_move rfl) (dd rfl) ?_
      refine o_on rfl rfl ?_
      refine o_step (s_callf cl38 (stands12_con (2 * i + 2) r26.1 (nextR L W (ss[i]'hi')).1 (nextR L W (ss[i]'hi')).2 r26.2.1 r26.2.2.1 v ss (by omega) (by omega) hs) rfl (dd rfl) (pXs (by repeat constructor)) fun _ _ => ?_)
      refine o_on rfl rfl ?_
      refine o_val (v_not rfl) (dd rfl) ?_
      refine o_val (v_pick_f rfl rfl) (dd rfl) ?_
      refine o_nil ?_
      refine c_cond_f rfl ?_
      refine c_skip ?_
      refine c_inBlock ?_
      refine c_region ?_
      refine o_val ((by first | exact v_add64 rfl rfl (by omega) | exact v_add rfl rfl)) (dd rfl) ?_
      refine o_val (v_move rfl) (dd rfl) ?_
      refine o_nil ?_
      refine c_use (IH ((i + 1, r26.1, r26.2.1, r26.2.2.1, nextR L W (ss[i]'hi'))) (by first | omega | (dsimp only; omega)) (⟨by dsimp only; omega, by dsimp only; omega⟩)) (by repeat (first | exact trivial | refine ⟨rfl, ?_⟩)) (eX (by repeat constructor))
    · refine c_exit rfl ?_
      refine c_seq ?_
      refine c_region ?_
      refine o_step (s_callf_keep cl35 (alive12_con) rfl (dd rfl) (rX (by repeat constructor)) (fun _ => sX) (fun _ _ => ?_))
      refine o_val (v_assign rfl) (dd rfl) ?_
      refine o_nil ?_
      refine c_ret1 Try.func9 rfl rfl fun w O hS => ?_
      exact ⟨(), rfl, trivial, trivial⟩
end Go.Proofs.Ytnamhhmfnokfiaa
namespace Go.Proofs.Ytnamhhmfnokfiaa
open Go Go.SL Go.RowKit Go.ChangeShapes Go.WideShapes Go.ChangeAt 
set_option linter.unusedVariables false
set_option maxRecDepth 100000 in
theorem lockAll_lifted (os : Os) (started : os.Started) (H : Type) (enc : TypeId × Value → H) :
    ReturnsInHanded {} Try.checked os 9 .any (fun w args => (Rows.lockAllSpec.pre enc Try.prog Try.f9 [] false w args ∧ True) ∧ sizedMet enc Try.prog Try.f9 (OpenSpec.ofChange Rows.lockAllSpec) false w args)
      (Rows.lockAllSpec.post enc Try.prog Try.f9 false true false false) := by
  refine lift_true (C := Try.checked) (X := fun w _ => True) (t := 4) (fun _ _ _ _ h => h) own started (by kernel_rfl) Try.func9 rfl (fun ds h => ?_) rfl Try.underlying4 laidOut (by kernel_rfl)
    (ChangeSpec.witness_shaped (enc := enc) (C := Try.checked) (os := os) (X := fun w _ => True) false (World.laidAll Try.prog os laidL) #[.slice none 0 0] 8 (World.laidAll_os _ _ _) (start_shaped os _) (by kernel_rfl) (by kernel_rfl) (by kernel_rfl) (trivial)) ?_
  · match ds, h with
    | [d0], _ => rfl
  · intro W base args ds ps hsh _ hval0 hA0 hwt0
    have hval : ∀ (j : Nat) t v, Try.f9.params[j]? = some t → args[j]? = some v → Value.okWide Try.prog W .any base t v := hval0
    have hA : DataW.TrodAll enc Try.prog W 0 (fun _ => true) true Try.f9.params.toList args.toList ds ps := hA0
    have hwt : ∀ (j : Nat) t d, Try.f9.params.toList[j]? = some t → ds[j]? = some d → ∀ n ∈ d.weights Try.prog t, n ≤ reachBytes := hwt0
    clear hval0 hA0 hwt0
    rw [Try.params9] at hA hval hwt
    obtain ⟨v0, vs0, d0, ds0, p0, q0, hargs, rfl, rfl, h0, r0⟩ := trodAll_cons hA
    obtain ⟨rfl, rfl, rfl⟩ := trodAll_nil r0
    obtain rfl : args = #[v0] := by cases args; simp_all
    obtain ⟨x0, e0, g0⟩ := open_arg opOps12 h0 (hwt 0 69 d0 rfl rfl)
    have a0 := arg_slice Try.underlying69 (hval 0 69 v0 rfl rfl) e0
    exact calls_of_con (lockAll_con v0 x0 g0.1) (List.forall_mem_cons.2 ⟨a0, fun _ h => by cases h⟩)
theorem lockAll_row : Rows.LockAllSaid :=
  OpenClaim.holds_of_wide 9 Try.f9 rfl rfl rfl rfl rfl rfl rfl ⟨rfl, rfl, rfl, rfl, rfl⟩ rfl rfl rfl rfl rfl (by kernel_rfl) Try.func9 (by kernel_rfl)
    (of_decide_eq_true (by kernel_rfl)) (by unfold Func.isWrapper; first | (rw [if_pos (by decide +kernel)]; kernel_rfl) | (rw [if_neg (by decide +kernel)]; exact ⟨rfl, rfl⟩))
    (fun os started H enc _ => by have h_ := lockAll_lifted os started H enc; simp only [and_true] at h_; exact h_)
#print axioms lockAll_row
end Go.Proofs.Ytnamhhmfnokfiaa

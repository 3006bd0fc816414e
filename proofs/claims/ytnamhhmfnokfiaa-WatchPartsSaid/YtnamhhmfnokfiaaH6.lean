import Derived.Test.YtnamhhmfnokfiaaH5
namespace Go.Proofs.Ytnamhhmfnokfiaa
open Go Go.SL
attribute [local irreducible] Cfg Kont StepK Val Con Qops Any Sl Own Blk BlkR Rd Pu ExA AllA Has Pick Ent Elem Beside Callable TI Lone

abbrev Tx := Int × Value × List ByteArray
def projT (x : Tx) : Int × List ByteArray := (x.1, x.2.2)
def tlOf (names : List ByteArray) (H : List Wr) : List (Int × List ByteArray) := (H.filter fun w => decide (touched names w.2.1 ≠ [])).map fun w => (w.1, touched names w.2.1)
def nxT (tl : List (Int × List ByteArray)) (pre : List Tx) (x : Tx) : Prop := pre.map projT ++ [projT x] <+: tl
def finT (tl : List (Int × List ByteArray)) (pre : List Tx) : Prop := pre.map projT = tl
def encT (x : Tx) : List Value := [.int .i64 x.1, x.2.1]
def RT (x : Tx) : List A := [Own eStr 9 x.2.1 x.2.2]
theorem tl_yes {names : List ByteArray} {H : List Wr} {i : Nat} (hi : i < H.length) (h : touched names H[i].2.1 ≠ []) : tlOf names (H.take (i + 1)) = tlOf names (H.take i) ++ [(H[i].1, touched names H[i].2.1)] := by
  unfold tlOf; rw [filt_yes hi (by simpa using h)]; simp
theorem tl_no {names : List ByteArray} {H : List Wr} {i : Nat} (hi : i < H.length) (h : touched names H[i].2.1 = []) : tlOf names (H.take (i + 1)) = tlOf names (H.take i) := by
  unfold tlOf; rw [filt_no hi (by simpa using h)]
theorem tl_prefix (names : List ByteArray) (H : List Wr) (i : Nat) : tlOf names (H.take i) <+: tlOf names H := by
  conv => rhs; rw [← List.take_append_drop i H]
  unfold tlOf
  rw [List.filter_append, List.map_append]
  exact List.prefix_append _ _
def keyW (w : Wr) : Int × ByteArray := (w.1, w.2.1)
theorem touched_not (names : List ByteArray) (p : ByteArray) : (setS names).filter (fun s => !!hp p s) = touched names p := by
  unfold touched; congr 1; funext s; exact Bool.not_not _
theorem setS_len (names : List ByteArray) : (setS names).length ≤ names.length := by
  have := compS_len (sortS names); rw [sortS_len] at this; exact this

set_option maxRecDepth 100000 in
theorem touched_iter (c1 c2 h : Nat) (vs : Value) (names : List ByteArray) (H0 : List Wr) (hr0 : Rising H0) (hl : names.length ≤ 8796093022207) (hH : H0.length ≤ 1000000) (Hs : List Tx → List Wr) (hHs : ∀ pre, (Hs pre).map keyW = H0.map keyW) (hHr : ∀ pre, Rising (Hs pre)) (J : List Tx → A) :
    IterAt Try.prog 91 [.pointer (some ⟨c1, 0, none⟩), .pointer (some ⟨c2, 0, none⟩)] [BlkR c1 25 [.pointer (some ⟨h, 0, none⟩)], BlkR c2 30 [vs], Sl eStr vs (setS names)]
      (nxT (tlOf names H0)) (finT (tlOf names H0)) encT RT (fun pre => [HubA h (Hs pre), J pre]) := by
  intro l o Z hy
  have hlen : ∀ pre, (Hs pre).length = H0.length := fun pre => by have := congrArg List.length (hHs pre); simpa using this
  have hat : ∀ pre (i : Nat) (hi : i < H0.length), ((Hs pre)[i]'(by rw [hlen]; exact hi)).1 = H0[i].1 ∧ ((Hs pre)[i]'(by rw [hlen]; exact hi)).2.1 = H0[i].2.1 := fun pre i hi => by
    have := congrArg (fun m => m[i]?) (hHs pre)
    simp only [List.getElem?_map, List.getElem?_eq_getElem hi, List.getElem?_eq_getElem (show i < (Hs pre).length by rw [hlen]; exact hi), Option.map_some, Option.some.injEq, keyW, Prod.mk.injEq] at this
    exact this
  have hids : ∀ pre, (Hs pre).map (fun w : Wr => w.1) = H0.map fun w : Wr => w.1 := fun pre => by
    have := congrArg (List.map Prod.fst) (hHs pre)
    simpa [List.map_map, Function.comp_def, keyW] using this
  refine con_of Try.func91 rfl (Nat.le_of_ble_eq_true rfl) fun w0 O0 => ?_
  refine c_seq ?_
  refine c_region ?_
  refine o_val (v_load lone25 rfl (by repeat (first | exact Has.here | exact Has.sl_apd | exact Has.sl_own | exact Has.r_blk | apply Has.there)) rfl) (Nat.le_of_ble_eq_true rfl) ?_
  refine o_step (s_callf cl18 (ids_con h (Hs []) (by rw [hlen]; exact hH)) rfl (Nat.le_of_ble_eq_true rfl) (by repeat (first | exact Picks.nil | (apply Picks.cons; · repeat (first | exact Pick.keep (Sl.isDup _ _ _) | exact Pick.keep (BlkR.isDup _ _ _) | exact Pick.keep (FldCell.isDup _ _) | exact Pick.here | exact Pick.own_sl | exact Pick.apd_sl | exact Pick.r_blk | exact Pick.sl_nil | exact Pick.own_nil | exact Pick.map_itO _ | apply Pick.there)))) fun r8 _ => ?_)
  refine o_val ((by first | exact v_len_form Try.underlying35 rfl | exact v_len_sl Try.underlying35 rfl (by repeat (first | exact Has.here | exact Has.sl_apd | exact Has.sl_own | exact Has.r_blk | apply Has.there)))) (Nat.le_of_ble_eq_true rfl) ?_
  refine o_val (v_move rfl) (Nat.le_of_ble_eq_true rfl) ?_
  refine o_nil ?_
  refine c_block ?_
  rw [hids []]
  have hil : (H0.map fun w : Wr => w.1).length = H0.length := by simp
  refine c_loopR (γ := Nat × List Tx) [(0, _), (1, _), (2, _), (8, _), (9, _)] (fun g => H0.length - g.1) (fun g => g.1 ≤ H0.length ∧ g.2.map projT = tlOf names (H0.take g.1)) (fun g => [(10, .int .i64 g.1)]) (fun g => [Own (eInt .i64) 3 r8 (H0.map fun w : Wr => w.1), BlkR c1 25 [.pointer (some ⟨h, 0, none⟩)], BlkR c2 30 [vs], Sl eStr vs (setS names), o, HubA h (Hs g.2), J g.2]) ((0, [])) (⟨Nat.zero_le _, rfl⟩) (by repeat (first | exact trivial | refine ⟨rfl, ?_⟩)) (Picks.ent (by repeat (first | exact Picks.nil | (apply Picks.cons; · repeat (first | exact Pick.keep (Sl.isDup _ _ _) | exact Pick.keep (BlkR.isDup _ _ _) | exact Pick.keep (FldCell.isDup _ _) | exact Pick.here | exact Pick.own_sl | exact Pick.apd_sl | exact Pick.r_blk | exact Pick.sl_nil | exact Pick.own_nil | exact Pick.map_itO _ | apply Pick.there))))) ?_
  rintro ⟨i, pre⟩ ⟨hi, hpre⟩ IH
  dsimp only at hi hpre ⊢
  try dsimp only [List.cons_append, List.nil_append]
  refine c_seq ?_
  refine c_region ?_
  refine o_val (v_lt rfl rfl) (Nat.le_of_ble_eq_true rfl) ?_
  refine o_nil ?_
  refine c_seq ?_
  refine c_cond_p rfl (fun hlt => ?_) (fun hlt => ?_)
  · have hi' : i < H0.length := by omega
    obtain ⟨hx1, hx2⟩ := hat pre i hi'
    refine c_skip ?_
    refine c_seq ?_
    refine c_block ?_
    refine c_seq ?_
    refine c_region ?_
    refine o_val ((by first | exact v_indexAddrN Try.underlying35 ti3 rfl rfl (by repeat (first | exact Has.here | exact Has.sl_apd | exact Has.sl_own | exact Has.r_blk | apply Has.there)) (by omega) | exact v_indexAddr Try.underlying35 ti3 rfl rfl (by repeat (first | exact Has.here | exact Has.sl_apd | exact Has.sl_own | exact Has.r_blk | apply Has.there)) (by omega))) (Nat.le_of_ble_eq_true rfl) ?_
    refine o_val (v_load_int lone3 rfl (by repeat (first | exact Elem.sl (List.getElem?_eq_getElem (by omega)) | exact Elem.own (List.getElem?_eq_getElem (by omega)) | apply Elem.there))) (Nat.le_of_ble_eq_true rfl) ?_
    refine o_step (s_alloc ti3 (Nat.le_of_ble_eq_true rfl) (fun b5 => ?_))
    refine o_step (s_store1 ti3 rfl rfl (by first | exact OneC.lit rfl | exact OneC.sl (by repeat (first | exact Has.here | exact Has.sl_apd | exact Has.sl_own | exact Has.r_blk | apply Has.there))) (by repeat (first | exact Pick.here | exact Pick.own_nil | apply Pick.there)) (by first | decide | exact Nat.le_of_ble_eq_true rfl | simp) (by first | (dsimp only [List.set_cons_succ, List.set_cons_zero]; first | done | exact rfl) | rfl) (?_))
    refine o_nil ?_
    refine c_seq ?_
    rw [List.getElem_map]
    have hsl := setS_len names
    refine c_region ?_
    refine o_val (v_load lone30 rfl (by repeat (first | exact Has.here | exact Has.sl_apd | exact Has.sl_own | exact Has.r_blk | apply Has.there)) rfl) (Nat.le_of_ble_eq_true rfl) ?_
    refine o_step (s_callf_keep cl93 (clone_S eStr vs (setS names) rfl (by omega)) rfl (Nat.le_of_ble_eq_true rfl) (by repeat (first | exact Reads.nil | refine Reads.cons (by first | exact Sl.isDup _ _ _ | exact BlkR.isDup _ _ _ | exact Rd.isDup _ _ _ | exact Pu.isDup _ | exact FldCell.isDup _ _) (by repeat (first | exact Has.here | exact Has.sl_apd | exact Has.sl_own | exact Has.r_blk | apply Has.there)) ?_)) (fun _ => by repeat (first | exact Seps.nil | (apply Seps.cons; · first | exact Blk.sep | exact ObjA.sep | exact MapA.sep | exact Pu.sep _ | (refine Own.sep ?_; repeat (first | exact eInt_pure _ | exact eStr_pure | exact eBool_pure | exact eByte_pure | exact eRaw_pure | apply ePair_pure | apply eMap_pure))))) (fun r15 _ => ?_))
    refine o_val (v_makeFunc rfl rfl) (Nat.le_of_ble_eq_true rfl) ?_
    refine o_mk (all_mk (l := [BlkR c1 25 [.pointer (some ⟨h, 0, none⟩)], BlkR b5 3 [.int .i64 H0[i].1], HubA h (Hs pre)])) (by repeat (first | exact Picks.nil | (apply Picks.cons; · repeat (first | exact Pick.keep (Sl.isDup _ _ _) | exact Pick.keep (BlkR.isDup _ _ _) | exact Pick.keep (FldCell.isDup _ _) | exact Pick.here | exact Pick.own_sl | exact Pick.apd_sl | exact Pick.r_blk | exact Pick.sl_nil | exact Pick.own_nil | exact Pick.map_itO _ | apply Pick.there)))) ?_
    refine o_step (s_callf cl92 (deleteFunc_S (p := fun s => !hp H0[i].2.1 s) cl94 r15 (setS names) (fun s _ => by have := pred_con c1 b5 h (Hs pre) ((Hs pre)[i]'(by rw [hlen]; exact hi')) (List.getElem_mem _) (hHr pre) s; rw [hx1, hx2] at this; exact this) (by omega)) rfl (Nat.le_of_ble_eq_true rfl) (by repeat (first | exact Picks.nil | (apply Picks.cons; · repeat (first | exact Pick.keep (Sl.isDup _ _ _) | exact Pick.keep (BlkR.isDup _ _ _) | exact Pick.keep (FldCell.isDup _ _) | exact Pick.here | exact Pick.own_sl | exact Pick.apd_sl | exact Pick.r_blk | exact Pick.sl_nil | exact Pick.own_nil | exact Pick.map_itO _ | apply Pick.there)))) fun r17 _ => ?_)
    refine o_val (v_assign rfl) (Nat.le_of_ble_eq_true rfl) ?_
    refine o_nil ?_
    refine c_seq ?_
    rw [touched_not]
    refine c_swap (c_all ?_)
    refine c_region ?_
    refine o_val (v_move rfl) (Nat.le_of_ble_eq_true rfl) ?_
    refine o_val ((by first | exact v_len_form Try.underlying30 rfl | exact v_len_sl Try.underlying30 rfl (by repeat (first | exact Has.here | exact Has.sl_apd | exact Has.sl_own | exact Has.r_blk | apply Has.there)))) (Nat.le_of_ble_eq_true rfl) ?_
    refine o_val (v_gt rfl rfl) (Nat.le_of_ble_eq_true rfl) ?_
    refine o_val (v_move rfl) (Nat.le_of_ble_eq_true rfl) ?_
    refine o_guard_t rfl rfl (fun hpos => ?_) (fun hpos => ?_)
    · have hne : touched names H0[i].2.1 ≠ [] := fun h => by rw [h] at hpos; simp at hpos
      have htl := tl_yes hi' hne
      have hnx : nxT (tlOf names H0) pre (H0[i].1, r17, touched names H0[i].2.1) := by
        unfold nxT
        rw [hpre, show projT (H0[i].1, r17, touched names H0[i].2.1) = (H0[i].1, touched names H0[i].2.1) from rfl, ← htl]
        exact tl_prefix _ _ _
      refine o_val (v_move rfl) (Nat.le_of_ble_eq_true rfl) ?_
      refine o_on rfl rfl ?_
      refine o_val (v_load lone3 rfl (by repeat (first | exact Has.here | exact Has.sl_apd | exact Has.sl_own | exact Has.r_blk | apply Has.there)) rfl) (Nat.le_of_ble_eq_true rfl) ?_
      refine o_on rfl rfl ?_
      refine o_val (v_move rfl) (Nat.le_of_ble_eq_true rfl) ?_
      refine o_on rfl rfl ?_
      refine o_yield (hy pre (H0[i].1, r17, touched names H0[i].2.1) hnx) (Lr := [Own (eInt .i64) 3 r8 (H0.map fun w : Wr => w.1), BlkR c1 25 [.pointer (some ⟨h, 0, none⟩)], BlkR c2 30 [vs], Sl eStr vs (setS names)]) rfl rfl (Nat.le_of_ble_eq_true rfl) (by show Ent _ [o, Own eStr 9 r17 (touched names H0[i].2.1), HubA h (Hs pre), J pre, Own (eInt .i64) 3 r8 (H0.map fun w : Wr => w.1), BlkR c1 25 [.pointer (some ⟨h, 0, none⟩)], BlkR c2 30 [vs], Sl eStr vs (setS names)]; exact (Picks.ent (by repeat (first | exact Picks.nil | (apply Picks.cons; · repeat (first | exact Pick.keep (Sl.isDup _ _ _) | exact Pick.keep (BlkR.isDup _ _ _) | exact Pick.keep (FldCell.isDup _ _) | exact Pick.here | exact Pick.own_sl | exact Pick.apd_sl | exact Pick.r_blk | exact Pick.sl_nil | exact Pick.own_nil | exact Pick.map_itO _ | apply Pick.there)))))) ?_ ?_
      · refine o_on rfl rfl ?_
        refine o_val (v_not rfl) (Nat.le_of_ble_eq_true rfl) ?_
        refine o_val (v_pick_t rfl rfl) (Nat.le_of_ble_eq_true rfl) ?_
        refine o_nil ?_
        refine c_cond_f rfl ?_
        refine c_skip ?_
        refine c_inBlock ?_
        refine c_region ?_
        refine o_val ((by first | exact v_add64 rfl rfl (by omega) | exact v_add rfl rfl)) (Nat.le_of_ble_eq_true rfl) ?_
        refine o_val (v_move rfl) (Nat.le_of_ble_eq_true rfl) ?_
        refine o_nil ?_
        refine c_use (IH ((i + 1, pre ++ [(H0[i].1, r17, touched names H0[i].2.1)])) (by first | omega | (dsimp only; omega)) (⟨by dsimp only; omega, by dsimp only; rw [htl, List.map_append, hpre]; rfl⟩)) (by repeat (first | exact trivial | refine ⟨rfl, ?_⟩)) (Picks.ent (by repeat (first | exact Picks.nil | (apply Picks.cons; · repeat (first | exact Pick.keep (Sl.isDup _ _ _) | exact Pick.keep (BlkR.isDup _ _ _) | exact Pick.keep (FldCell.isDup _ _) | exact Pick.here | exact Pick.own_sl | exact Pick.apd_sl | exact Pick.r_blk | exact Pick.sl_nil | exact Pick.own_nil | exact Pick.map_itO _ | apply Pick.there)))))
      · refine o_on rfl rfl ?_
        refine o_val (v_not rfl) (Nat.le_of_ble_eq_true rfl) ?_
        refine o_val (v_pick_t rfl rfl) (Nat.le_of_ble_eq_true rfl) ?_
        refine o_nil ?_
        refine c_cond_t rfl ?_
        refine c_ret0 Try.func91 rfl fun w O hS => ?_
        refine ⟨none, rfl, (fun _ h => by cases h), ?_⟩
        have hS2 := Ent.get hS (Ent.perm (List.perm_append_comm (l₁ := Z) (l₂ := [Own (eInt .i64) 3 r8 (H0.map fun w : Wr => w.1), BlkR c1 25 [.pointer (some ⟨h, 0, none⟩)], BlkR c2 30 [vs], Sl eStr vs (setS names)])))
        exact Ent.get hS2 Ent.drop
    · have hemp : touched names H0[i].2.1 = [] := List.eq_nil_of_length_eq_zero (by omega)
      refine o_off rfl rfl rfl (Nat.le_of_ble_eq_true rfl) ?_
      refine o_off rfl rfl rfl (Nat.le_of_ble_eq_true rfl) ?_
      refine o_off rfl rfl rfl (Nat.le_of_ble_eq_true rfl) ?_
      refine o_off rfl rfl rfl (Nat.le_of_ble_eq_true rfl) ?_
      refine o_off rfl rfl rfl (Nat.le_of_ble_eq_true rfl) ?_
      refine o_val (v_pick_f rfl rfl) (Nat.le_of_ble_eq_true rfl) ?_
      refine o_nil ?_
      refine c_cond_f rfl ?_
      refine c_skip ?_
      refine c_inBlock ?_
      refine c_region ?_
      refine o_val ((by first | exact v_add64 rfl rfl (by omega) | exact v_add rfl rfl)) (Nat.le_of_ble_eq_true rfl) ?_
      refine o_val (v_move rfl) (Nat.le_of_ble_eq_true rfl) ?_
      refine o_nil ?_
      refine c_use (IH ((i + 1, pre)) (by first | omega | (dsimp only; omega)) (⟨by dsimp only; omega, by dsimp only; rw [tl_no hi' hemp]; exact hpre⟩)) (by repeat (first | exact trivial | refine ⟨rfl, ?_⟩)) (Picks.ent (by repeat (first | exact Picks.nil | (apply Picks.cons; · repeat (first | exact Pick.keep (Sl.isDup _ _ _) | exact Pick.keep (BlkR.isDup _ _ _) | exact Pick.keep (FldCell.isDup _ _) | exact Pick.here | exact Pick.own_sl | exact Pick.apd_sl | exact Pick.r_blk | exact Pick.sl_nil | exact Pick.own_nil | exact Pick.map_itO _ | apply Pick.there)))))
  · have hie : i = H0.length := by omega
    refine c_exit rfl ?_
    refine c_end0 Try.func91 rfl fun w O hS => ?_
    refine ⟨some pre, rfl, (fun q h => by cases h; unfold finT; rw [hpre, hie, List.take_length]), ?_⟩
    exact Ent.get hS (Picks.ent (by repeat (first | exact Picks.nil | (apply Picks.cons; · repeat (first | exact Pick.keep (Sl.isDup _ _ _) | exact Pick.keep (BlkR.isDup _ _ _) | exact Pick.keep (FldCell.isDup _ _) | exact Pick.here | exact Pick.own_sl | exact Pick.apd_sl | exact Pick.r_blk | exact Pick.sl_nil | exact Pick.own_nil | exact Pick.map_itO _ | apply Pick.there)))))
end Go.Proofs.Ytnamhhmfnokfiaa

import Derived.Test.YtnamhhmfnokfiaaH6
namespace Go.Proofs.Ytnamhhmfnokfiaa
open Go Go.SL

/-- The hub where those of pre have been told. -/
def HsP (H : List Wr) (ver : Int) (names : List ByteArray) (pre : List Tx) : List Wr := H.map fun w => if w.1 ∈ pre.map (fun x : Tx => x.1) then stepW ver names w else w
theorem step_key (ver : Int) (names : List ByteArray) (w : Wr) : (stepW ver names w).1 = w.1 ∧ (stepW ver names w).2.1 = w.2.1 := by unfold stepW; split <;> exact ⟨rfl, rfl⟩
theorem hs_key (H : List Wr) (ver : Int) (names : List ByteArray) (pre : List Tx) : (HsP H ver names pre).map keyW = H.map keyW := by
  unfold HsP
  rw [List.map_map]
  apply List.map_congr_left
  intro w _
  simp only [Function.comp, keyW]
  split
  · rw [(step_key ver names w).1, (step_key ver names w).2]
  · rfl
theorem hs_rising {H : List Wr} (hr : Rising H) (ver : Int) (names : List ByteArray) (pre : List Tx) : Rising (HsP H ver names pre) := by
  refine List.Pairwise.map _ (fun a b h => ?_) hr
  have e1 : ∀ w : Wr, (if w.1 ∈ pre.map (fun x : Tx => x.1) then stepW ver names w else w).1 = w.1 := fun w => by
    split
    · exact (step_key ver names w).1
    · rfl
  rw [e1, e1]; exact h
theorem hs_nil (H : List Wr) (ver : Int) (names : List ByteArray) : HsP H ver names [] = H := by
  unfold HsP; simp
theorem tl_ids {names : List ByteArray} {H : List Wr} (hr : Rising H) : (tlOf names H).map (fun q => q.1) = toldW H names ∧ ((tlOf names H).map fun q => q.1).Nodup := by
  have e : (tlOf names H).map (fun q => q.1) = toldW H names := by unfold tlOf toldW; rw [List.map_map]; rfl
  refine ⟨e, ?_⟩
  rw [e]
  exact List.Pairwise.map _ (fun a b h => by omega) (hr.filter _)
theorem nx_fact {names : List ByteArray} {H : List Wr} (hr : Rising H) {pre : List Tx} {x : Tx} (hx : nxT (tlOf names H) pre x) :
    ∃ w ∈ H, w.1 = x.1 ∧ touched names w.2.1 = x.2.2 ∧ x.2.2 ≠ [] ∧ x.1 ∉ pre.map (fun x : Tx => x.1) := by
  obtain ⟨r, hr2⟩ := hx
  have hm : projT x ∈ tlOf names H := by rw [← hr2]; simp
  have hn := (tl_ids (names := names) hr).2
  rw [← hr2] at hn
  simp only [List.map_append, List.map_map, List.map_cons, List.map_nil, List.append_assoc] at hn
  have h1 := List.nodup_append.1 hn
  unfold tlOf at hm
  obtain ⟨w, hw, he⟩ := List.mem_map.1 hm
  obtain ⟨hwH, hne⟩ := List.mem_filter.1 hw
  simp only [projT, Prod.mk.injEq] at he
  refine ⟨w, hwH, he.1, he.2, by rw [← he.2]; simpa using hne, fun hmem => ?_⟩
  exact h1.2.2 x.1 (by simpa [projT, Function.comp_def] using hmem) x.1 (by simp [projT]) rfl
theorem hs_step {H : List Wr} {ver : Int} {names : List ByteArray} {pre : List Tx} {x : Tx} (hx : x.1 ∉ pre.map (fun x : Tx => x.1)) : modW (HsP H ver names pre) x.1 (stepW ver names) = HsP H ver names (pre ++ [x]) := by
  unfold modW HsP
  rw [List.map_map]
  apply List.map_congr_left
  intro w _
  simp only [Function.comp, List.map_append, List.map_cons, List.map_nil, List.mem_append, List.mem_singleton]
  by_cases h1 : w.1 ∈ pre.map (fun x : Tx => x.1)
  · have hne : w.1 ≠ x.1 := fun e => hx (by rw [← e]; exact h1)
    simp only [h1, if_true, true_or, (step_key ver names w).1, hne, if_false]
  · by_cases h2 : w.1 = x.1
    · have h3 : x.1 ∉ pre.map (fun x : Tx => x.1) := hx
      simp only [h2, h3, if_false, or_true, if_true]
    · simp only [h1, h2, if_false, or_self]
theorem hs_done {H : List Wr} {ver : Int} {names : List ByteArray} {pre : List Tx} (h : pre.map projT = tlOf names H) : HsP H ver names pre = pushW H ver names := by
  unfold HsP pushW
  apply List.map_congr_left
  intro w hw
  split
  · rfl
  · rename_i hn
    by_cases ht : touched names w.2.1 = []
    · unfold stepW; rw [if_pos ht]
    · exfalso
      apply hn
      have : (w.1, touched names w.2.1) ∈ pre.map projT := by
        rw [h]; unfold tlOf
        exact List.mem_map.2 ⟨w, List.mem_filter.2 ⟨hw, by simpa using ht⟩, rfl⟩
      obtain ⟨x, hx, he⟩ := List.mem_map.1 this
      simp only [projT, Prod.mk.injEq] at he
      exact List.mem_map.2 ⟨x, hx, he.1⟩
theorem hs_mem {H : List Wr} {ver : Int} {names : List ByteArray} {pre : List Tx} {w : Wr} (hw : w ∈ H) (h : w.1 ∉ pre.map (fun x : Tx => x.1)) : w ∈ HsP H ver names pre := by
  unfold HsP
  exact List.mem_map.2 ⟨w, hw, by rw [if_neg h]⟩
/-- What the loop of Push has beside the hub. -/
def PuA (b3 b4 b7 h : Nat) (ver : Int) (pre : List Tx) : A := ExA fun u : Value => AllA [Blk b3 25 [.pointer (some ⟨h, 0, none⟩)], Blk b4 3 [.int .i64 ver], Blk b7 35 [u], Own (eInt .i64) 3 u (pre.map fun x : Tx => x.1)]
theorem note_nil (ver : Int) (w : World) (O : Perm) : (noteA (.slice none 0 0, (ver, [], true))).h w O := Own.nil eStr _ w O
theorem pu_mk {b3 b4 b7 h : Nat} {ver : Int} {pre : List Tx} {u : Value} : Ent [Blk b3 25 [.pointer (some ⟨h, 0, none⟩)], Blk b4 3 [.int .i64 ver], Blk b7 35 [u], Own (eInt .i64) 3 u (pre.map fun x : Tx => x.1)] [PuA b3 b4 b7 h ver pre] := fun w O hs =>
  Ent.head (b := PuA b3 b4 b7 h ver pre) (fun _ _ k => ⟨u, k⟩) w O (all_mk w O hs)
theorem nx_len {names : List ByteArray} {H : List Wr} {pre : List Tx} {x : Tx} (hx : nxT (tlOf names H) pre x) : pre.length + 1 ≤ H.length := by
  have h1 := hx.length_le
  have h2 : (tlOf names H).length ≤ H.length := by unfold tlOf; rw [List.length_map]; exact List.length_filter_le _ _
  simp only [List.length_append, List.length_map, List.length_singleton] at h1
  omega
theorem rising_eq_mem {H : List Wr} (h : Rising H) {a b : Wr} (ha : a ∈ H) (hb : b ∈ H) (e : a.1 = b.1) : a = b := by
  obtain ⟨i, hi, rfl⟩ := List.mem_iff_getElem.1 ha
  obtain ⟨j, hj, rfl⟩ := List.mem_iff_getElem.1 hb
  have := rising_inj h hi hj e
  subst this; rfl
attribute [local irreducible] Cfg Kont StepK Val Con Qops Any Sl Own Blk BlkR Rd Pu ExA AllA Has Pick Ent Elem Beside Callable TI Lone

set_option maxRecDepth 100000 in
theorem push_con (h : Nat) (H : List Wr) (ver : Int) (nv : Value) (names : List ByteArray) (hl : names.length ≤ 8796093022207) (hH : H.length ≤ 1000000) (h4 : ∀ w ∈ H, w.2.2.length ≤ 4) :
    Con Try.prog 25 [.pointer (some ⟨h, 0, none⟩), .int .i64 ver, nv] [HubA h H, Sl eStr nv names] (γ := Value) (fun r => r) (fun _ => True) (fun r => [Own (eInt .i64) 3 r (toldW H names), HubA h (pushW H ver names)]) := by
  refine con_of Try.func25 rfl (Nat.le_of_ble_eq_true rfl) fun w0 O0 => ?_
  refine c_fact (p := Rising H) (a := HubA h H) Has.here (fun _ _ k => hub_rising k) fun hri => ?_
  refine c_seq ?_
  refine c_region ?_
  refine o_step (s_box rfl (Nat.le_of_ble_eq_true rfl) (fun b3 => ?_))
  refine o_step (s_box rfl (Nat.le_of_ble_eq_true rfl) (fun b4 => ?_))
  refine o_val (v_assign rfl) (Nat.le_of_ble_eq_true rfl) ?_
  refine o_nil ?_
  refine c_seq ?_
  refine c_region ?_
  refine o_step (s_alloc ti35 (Nat.le_of_ble_eq_true rfl) (fun b7 => ?_))
  refine o_nil ?_
  refine c_seq ?_
  refine c_seq ?_
  refine c_region ?_
  refine o_val (v_load lone25 rfl (by repeat (first | exact Has.here | exact Has.sl_apd | exact Has.sl_own | exact Has.r_blk | apply Has.there)) rfl) (Nat.le_of_ble_eq_true rfl) ?_
  refine o_val (v_move rfl) (Nat.le_of_ble_eq_true rfl) ?_
  refine o_step (s_callf_keep cl56 (touchedOf_con h nv names hl) rfl (Nat.le_of_ble_eq_true rfl) (by repeat (first | exact Reads.nil | refine Reads.cons (by first | exact Sl.isDup _ _ _ | exact BlkR.isDup _ _ _ | exact Rd.isDup _ _ _ | exact Pu.isDup _ | exact FldCell.isDup _ _) (by repeat (first | exact Has.here | exact Has.sl_apd | exact Has.sl_own | exact Has.r_blk | apply Has.there)) ?_)) (fun _ => by repeat (first | exact Seps.nil | (apply Seps.cons; · first | exact Blk.sep | exact ObjA.sep | exact MapA.sep | exact Pu.sep _ | (refine Own.sep ?_; repeat (first | exact eInt_pure _ | exact eStr_pure | exact eBool_pure | exact eByte_pure | exact eRaw_pure | apply ePair_pure | apply eMap_pure))))) (fun g _ => ?_))
  refine o_nil ?_
  refine c_block ?_
  refine c_ent (Ent.beside (b := Own (eInt .i64) 3 (.slice none 0 0) ([] : List Int)) (fun w O _ => Own.nil (eInt .i64) 3 w _)) ?_
  refine c_mk (pu_mk (b3 := b3) (b4 := b4) (b7 := b7) (h := h) (ver := ver) (pre := []) (u := .slice none 0 0)) (by repeat (first | exact Picks.nil | (apply Picks.cons; · repeat (first | exact Pick.keep (Sl.isDup _ _ _) | exact Pick.keep (BlkR.isDup _ _ _) | exact Pick.keep (FldCell.isDup _ _) | exact Pick.here | exact Pick.own_sl | exact Pick.apd_sl | exact Pick.r_blk | exact Pick.sl_nil | exact Pick.own_nil | exact Pick.map_itO _ | apply Pick.there)))) ?_
  refine c_rangeFuncAt (fun pre => [HubA h (HsP H ver names pre), PuA b3 b4 b7 h ver pre]) (fun _ => [Pu False]) ([]) ((touched_iter g.1 g.2.1 h g.2.2 names H hri hl hH (HsP H ver names) (hs_key H ver names) (hs_rising hri ver names) (PuA b3 b4 b7 h ver))) cl91 rfl (by show Ent _ [BlkR g.1 25 [.pointer (some ⟨h, 0, none⟩)], BlkR g.2.1 30 [g.2.2], Sl eStr g.2.2 (setS names), HubA h (HsP H ver names []), PuA b3 b4 b7 h ver []]; rw [hs_nil]; exact (Picks.ent (by repeat (first | exact Picks.nil | (apply Picks.cons; · repeat (first | exact Pick.keep (Sl.isDup _ _ _) | exact Pick.keep (BlkR.isDup _ _ _) | exact Pick.keep (FldCell.isDup _ _) | exact Pick.here | exact Pick.own_sl | exact Pick.apd_sl | exact Pick.r_blk | exact Pick.sl_nil | exact Pick.own_nil | exact Pick.map_itO _ | apply Pick.there)))))) rfl (fun _ => rfl) (fun l r pre x w1 O1 hr hx => ?_) (fun D pre hfin => ?_) (fun D j => ?_)
  · obtain ⟨w, hw, hw1, hw2, hw3, hw4⟩ := nx_fact hri hx
    have hw' := hs_mem (ver := ver) (names := names) (pre := pre) hw (by rw [hw1]; exact hw4)
    have hst := hs_step (H := H) (ver := ver) (names := names) hw4
    have hrp := hs_rising hri ver names pre
    have hsw : stepW ver names w = (w.1, w.2.1, noteW ver x.2.2 w.2.2) := by unfold stepW; rw [hw2, if_neg hw3]
    have h4w := h4 w hw
    refine c_ent (L' := [PuA b3 b4 b7 h ver pre, HubA h (HsP H ver names pre), Own eStr 9 x.2.1 x.2.2, ObjA l (.loop r)]) (by show Ent [ObjA l (.loop r), Own eStr 9 x.2.1 x.2.2, HubA h (HsP H ver names pre), PuA b3 b4 b7 h ver pre] _; exact (Picks.ent (by repeat (first | exact Picks.nil | (apply Picks.cons; · repeat (first | exact Pick.keep (Sl.isDup _ _ _) | exact Pick.keep (BlkR.isDup _ _ _) | exact Pick.keep (FldCell.isDup _ _) | exact Pick.here | exact Pick.own_sl | exact Pick.apd_sl | exact Pick.r_blk | exact Pick.sl_nil | exact Pick.own_nil | exact Pick.map_itO _ | apply Pick.there)))))) ?_
    refine c_ex fun u => c_all ?_
    refine c_ent (L' := [HubA h (HsP H ver names pre), Blk b3 25 [.pointer (some ⟨h, 0, none⟩)], Blk b4 3 [.int .i64 ver], Blk b7 35 [u], Own (eInt .i64) 3 u (pre.map fun x : Tx => x.1), Own eStr 9 x.2.1 x.2.2, ObjA l (.loop r)]) (by show Ent [Blk b3 25 [.pointer (some ⟨h, 0, none⟩)], Blk b4 3 [.int .i64 ver], Blk b7 35 [u], Own (eInt .i64) 3 u (pre.map fun x : Tx => x.1), HubA h (HsP H ver names pre), Own eStr 9 x.2.1 x.2.2, ObjA l (.loop r)] _; exact (Picks.ent (by repeat (first | exact Picks.nil | (apply Picks.cons; · repeat (first | exact Pick.keep (Sl.isDup _ _ _) | exact Pick.keep (BlkR.isDup _ _ _) | exact Pick.keep (FldCell.isDup _ _) | exact Pick.here | exact Pick.own_sl | exact Pick.apd_sl | exact Pick.r_blk | exact Pick.sl_nil | exact Pick.own_nil | exact Pick.map_itO _ | apply Pick.there)))))) ?_
    refine c_hub_at (id := x.1) (fun hno => absurd hw1 (hno w hw')) (fun y hy hyx o ps1 ps2 b v hp hr1 hl1 => ?_)
    obtain rfl : w = y := rising_eq_mem hr1 hw' hy (by rw [hw1, hyx])
    refine c_swap (c_nts fun qs hqs => ?_)
    have hql : (qs.map rawN).length = w.2.2.length := by rw [← hqs]; simp
    have hpm := mod_perm hp hr1 (stepW ver names)
    rw [hyx, hst, hsw] at hpm
    have hem : (ps1 ++ (b, w) :: ps2).map entW = (ps1 ++ (b, ((w.1, w.2.1, noteW ver x.2.2 w.2.2) : Wr)) :: ps2).map entW := (ent_mod (w := w) (w' := (w.1, w.2.1, noteW ver x.2.2 w.2.2)) rfl).symm
    refine c_seq ?_
    refine c_region ?_
    refine o_val (v_assign rfl) (Nat.le_of_ble_eq_true rfl) ?_
    refine o_nil ?_
    refine c_region ?_
    refine o_val (v_assign rfl) (Nat.le_of_ble_eq_true rfl) ?_
    refine o_nil ?_
    refine c_beginRound (by repeat (first | exact Pick.keep (Sl.isDup _ _ _) | exact Pick.keep (BlkR.isDup _ _ _) | exact Pick.keep (FldCell.isDup _ _) | exact Pick.here | exact Pick.own_sl | exact Pick.apd_sl | exact Pick.r_blk | exact Pick.sl_nil | exact Pick.own_nil | exact Pick.map_itO _ | apply Pick.there)) ‹_› ?_
    refine c_block ?_
    refine c_seq ?_
    refine c_region ?_
    refine o_val (v_load lone25 rfl (by repeat (first | exact Has.here | exact Has.sl_apd | exact Has.sl_own | exact Has.r_blk | apply Has.there)) rfl) (Nat.le_of_ble_eq_true rfl) ?_
    refine o_val (v_nilCheck rfl) (Nat.le_of_ble_eq_true rfl) ?_
    refine o_val (v_fieldAddrC 0 Try.underlying28 rfl ti26 (by decide) rfl) (Nat.le_of_ble_eq_true rfl) ?_
    refine o_val (v_load lone26 rfl (by repeat (first | exact Has.here | exact Has.sl_apd | exact Has.sl_own | exact Has.r_blk | apply Has.there)) rfl) (Nat.le_of_ble_eq_true rfl) ?_
    refine o_val (v_move rfl) (Nat.le_of_ble_eq_true rfl) ?_
    refine o_val (v_lookupO kInt Try.underlying26 Try.underlying3 ti112 rfl rfl (by repeat (first | exact Has.here | exact Has.sl_apd | exact Has.sl_own | exact Has.r_blk | apply Has.there))) (Nat.le_of_ble_eq_true rfl) ?_
    simp only [hl1, Option.getD_none, Option.getD_some, Option.isSome_none, Option.isSome_some]
    refine o_val (v_assign rfl) (Nat.le_of_ble_eq_true rfl) ?_
    refine o_nil ?_
    refine c_seq ?_
    refine c_seq ?_
    refine c_region ?_
    refine o_val (v_move rfl) (Nat.le_of_ble_eq_true rfl) ?_
    refine o_val (v_nilCheck rfl) (Nat.le_of_ble_eq_true rfl) ?_
    refine o_val (v_fieldAddrC 1 Try.underlying114 rfl ti49 (by decide) rfl) (Nat.le_of_ble_eq_true rfl) ?_
    refine o_val (v_load lone49 rfl (by repeat (first | exact Has.here | exact Has.sl_apd | exact Has.sl_own | exact Has.r_blk | apply Has.there)) rfl) (Nat.le_of_ble_eq_true rfl) ?_
    refine o_val ((by first | exact v_len_form Try.underlying49 rfl | exact v_len_sl Try.underlying49 rfl (by repeat (first | exact Has.here | exact Has.sl_apd | exact Has.sl_own | exact Has.r_blk | apply Has.there)))) (Nat.le_of_ble_eq_true rfl) ?_
    refine o_val (v_lt rfl rfl) (Nat.le_of_ble_eq_true rfl) ?_
    refine o_nil ?_
    rw [hql]
    refine c_joinR (γ := Unit) [(6, _), (7, _), (8, _)] (fun _ => True) (fun _ => []) (fun _ => [ObjA l (.loop {r with state := .busy}), HubA h (HsP H ver names (pre ++ [x])), Blk b3 25 [.pointer (some ⟨h, 0, none⟩)], Blk b4 3 [.int .i64 ver], Blk b7 35 [u], Own (eInt .i64) 3 u (pre.map fun x : Tx => x.1)]) (by repeat (first | exact trivial | refine ⟨rfl, ?_⟩)) ?_ ?_
    · rintro ⟨⟩ -
      dsimp only [List.cons_append, List.nil_append]
      refine c_region ?_
      refine o_val (v_load lone35 rfl (by repeat (first | exact Has.here | exact Has.sl_apd | exact Has.sl_own | exact Has.r_blk | apply Has.there)) rfl) (Nat.le_of_ble_eq_true rfl) ?_
      refine o_val (v_move rfl) (Nat.le_of_ble_eq_true rfl) ?_
      have hpl := nx_len hx
      have hpl2 : (pre.map fun x : Tx => x.1).length ≤ 1000000 := by rw [List.length_map]; omega
      refine o_step (s_buildSlice Try.underlying35 ti3 rfl rfl rfl (by decide) (by decide) (beside_int .i64 [x.1]) rfl rfl (Nat.le_of_ble_eq_true rfl) fun v1 => ?_)
      refine o_step (s_append Try.underlying35 ti3 rfl (by decide) rfl rfl (Nat.le_of_ble_eq_true rfl) (by repeat (first | exact Pick.here | exact Pick.own_nil | apply Pick.there)) (by repeat (first | exact Pick.keep (Sl.isDup _ _ _) | exact Pick.keep (BlkR.isDup _ _ _) | exact Pick.keep (FldCell.isDup _ _) | exact Pick.here | exact Pick.own_sl | exact Pick.apd_sl | exact Pick.r_blk | exact Pick.sl_nil | exact Pick.own_nil | exact Pick.map_itO _ | apply Pick.there)) rfl (by (first | omega | (simp only [maxLen, List.length_append, List.length_drop, List.length_take, List.length_nil, List.length_cons]; omega))) (by (first | omega | (simp only [maxLen, List.length_append, List.length_drop, List.length_take, List.length_nil, List.length_cons]; omega))) fun v2 => ?_)
      refine o_step (s_store1 ti35 rfl rfl (by first | exact OneC.lit rfl | exact OneC.sl (by repeat (first | exact Has.here | exact Has.sl_apd | exact Has.sl_own | exact Has.r_blk | apply Has.there))) (by repeat (first | exact Pick.here | exact Pick.own_nil | apply Pick.there)) (by first | decide | exact Nat.le_of_ble_eq_true rfl | simp) (by first | (dsimp only [List.set_cons_succ, List.set_cons_zero]; first | done | exact rfl) | rfl) (?_))
      refine o_nil ?_
      refine c_inBlock ?_
      refine c_roundEnd fun w O hS => ?_
      rw [show pre.map (fun x : Tx => x.1) ++ [x.1] = (pre ++ [x]).map fun x : Tx => x.1 by simp] at hS
      have h1 := Ent.get hS (L' := (ObjA l (.loop {r with state := .busy}) :: HubA h (HsP H ver names (pre ++ [x])) :: [Blk b3 25 [.pointer (some ⟨h, 0, none⟩)], Blk b4 3 [.int .i64 ver], Blk b7 35 [v2], Own (eInt .i64) 3 v2 ((pre ++ [x]).map fun x : Tx => x.1)])) (Picks.ent (by repeat (first | exact Picks.nil | (apply Picks.cons; · repeat (first | exact Pick.keep (Sl.isDup _ _ _) | exact Pick.keep (BlkR.isDup _ _ _) | exact Pick.keep (FldCell.isDup _ _) | exact Pick.here | exact Pick.own_sl | exact Pick.apd_sl | exact Pick.r_blk | exact Pick.sl_nil | exact Pick.own_nil | exact Pick.map_itO _ | apply Pick.there)))))
      exact .inl ⟨rfl, Ent.get h1 (Ent.cons (Ent.cons pu_mk))⟩
    · intro MEET
      refine c_cond_p rfl (fun hlt => ?_) (fun hlt => ?_)
      · skip
        have hql2 : (qs.map rawN).length ≤ 4 := by omega
        refine c_heldk 12 [BlkR b 114 [.string w.2.1, v], BlkR b4 3 [.int .i64 ver], Sl eStr x.2.1 x.2.2] rfl ?_
        refine k_take 0 rfl (by kernel_rfl) (by kernel_rfl) (by kernel_rfl) rfl (by kernel_rfl) (v_move rfl) (Picks.ent (by repeat (first | exact Picks.nil | (apply Picks.cons; · repeat (first | exact Pick.keep (Sl.isDup _ _ _) | exact Pick.keep (BlkR.isDup _ _ _) | exact Pick.keep (FldCell.isDup _ _) | exact Pick.here | exact Pick.own_sl | exact Pick.apd_sl | exact Pick.r_blk | exact Pick.sl_nil | exact Pick.own_nil | exact Pick.map_itO _ | apply Pick.there))))) (Nat.le_of_ble_eq_true rfl) ?_
        refine k_take 1 rfl (by kernel_rfl) (by kernel_rfl) (by kernel_rfl) rfl (by kernel_rfl) (v_move rfl) (Picks.ent (by repeat (first | exact Picks.nil | (apply Picks.cons; · repeat (first | exact Pick.keep (Sl.isDup _ _ _) | exact Pick.keep (BlkR.isDup _ _ _) | exact Pick.keep (FldCell.isDup _ _) | exact Pick.here | exact Pick.own_sl | exact Pick.apd_sl | exact Pick.r_blk | exact Pick.sl_nil | exact Pick.own_nil | exact Pick.map_itO _ | apply Pick.there))))) (Nat.le_of_ble_eq_true rfl) ?_
        refine k_take 2 rfl (by kernel_rfl) (by kernel_rfl) (by kernel_rfl) rfl (by kernel_rfl) (v_nilCheck rfl) (Picks.ent (by repeat (first | exact Picks.nil | (apply Picks.cons; · repeat (first | exact Pick.keep (Sl.isDup _ _ _) | exact Pick.keep (BlkR.isDup _ _ _) | exact Pick.keep (FldCell.isDup _ _) | exact Pick.here | exact Pick.own_sl | exact Pick.apd_sl | exact Pick.r_blk | exact Pick.sl_nil | exact Pick.own_nil | exact Pick.map_itO _ | apply Pick.there))))) (Nat.le_of_ble_eq_true rfl) ?_
        refine k_take 3 rfl (by kernel_rfl) (by kernel_rfl) (by kernel_rfl) rfl (by kernel_rfl) (v_fieldAddrC 1 Try.underlying114 rfl ti49 (by decide) rfl) (Picks.ent (by repeat (first | exact Picks.nil | (apply Picks.cons; · repeat (first | exact Pick.keep (Sl.isDup _ _ _) | exact Pick.keep (BlkR.isDup _ _ _) | exact Pick.keep (FldCell.isDup _ _) | exact Pick.here | exact Pick.own_sl | exact Pick.apd_sl | exact Pick.r_blk | exact Pick.sl_nil | exact Pick.own_nil | exact Pick.map_itO _ | apply Pick.there))))) (Nat.le_of_ble_eq_true rfl) ?_
        refine k_take 4 rfl (by kernel_rfl) (by kernel_rfl) (by kernel_rfl) rfl (by kernel_rfl) (v_load lone49 rfl (by repeat (first | exact Has.here | exact Has.sl_apd | exact Has.sl_own | exact Has.r_blk | apply Has.there)) rfl) (Picks.ent (by repeat (first | exact Picks.nil | (apply Picks.cons; · repeat (first | exact Pick.keep (Sl.isDup _ _ _) | exact Pick.keep (BlkR.isDup _ _ _) | exact Pick.keep (FldCell.isDup _ _) | exact Pick.here | exact Pick.own_sl | exact Pick.apd_sl | exact Pick.r_blk | exact Pick.sl_nil | exact Pick.own_nil | exact Pick.map_itO _ | apply Pick.there))))) (Nat.le_of_ble_eq_true rfl) ?_
        refine k_take 5 rfl (by kernel_rfl) (by kernel_rfl) (by kernel_rfl) rfl (by kernel_rfl) (v_load lone3 rfl (by repeat (first | exact Has.here | exact Has.sl_apd | exact Has.sl_own | exact Has.r_blk | apply Has.there)) rfl) (Picks.ent (by repeat (first | exact Picks.nil | (apply Picks.cons; · repeat (first | exact Pick.keep (Sl.isDup _ _ _) | exact Pick.keep (BlkR.isDup _ _ _) | exact Pick.keep (FldCell.isDup _ _) | exact Pick.here | exact Pick.own_sl | exact Pick.apd_sl | exact Pick.r_blk | exact Pick.sl_nil | exact Pick.own_nil | exact Pick.map_itO _ | apply Pick.there))))) (Nat.le_of_ble_eq_true rfl) ?_
        refine k_take 6 rfl (by kernel_rfl) (by kernel_rfl) (by kernel_rfl) rfl (by kernel_rfl) (v_move rfl) (Picks.ent (by repeat (first | exact Picks.nil | (apply Picks.cons; · repeat (first | exact Pick.keep (Sl.isDup _ _ _) | exact Pick.keep (BlkR.isDup _ _ _) | exact Pick.keep (FldCell.isDup _ _) | exact Pick.here | exact Pick.own_sl | exact Pick.apd_sl | exact Pick.r_blk | exact Pick.sl_nil | exact Pick.own_nil | exact Pick.map_itO _ | apply Pick.there))))) (Nat.le_of_ble_eq_true rfl) ?_
        refine k_take 7 rfl (by kernel_rfl) (by kernel_rfl) (by kernel_rfl) rfl (by kernel_rfl) (v_buildS (places := [(0, 1), (1, 1), (2, 1)]) (cells := [_, _, .bool false]) Try.underlying60 ti60 (by kernel_rfl) rfl (by repeat (first | exact PartsC.nil | (apply PartsC.one (by first | exact OneC.lit rfl | exact OneC.sl (by repeat (first | exact Has.here | exact Has.sl_apd | exact Has.sl_own | exact Has.r_blk | apply Has.there)))) | (apply PartsC.lit rfl))) rfl) (Picks.ent (by repeat (first | exact Picks.nil | (apply Picks.cons; · repeat (first | exact Pick.keep (Sl.isDup _ _ _) | exact Pick.keep (BlkR.isDup _ _ _) | exact Pick.keep (FldCell.isDup _ _) | exact Pick.here | exact Pick.own_sl | exact Pick.apd_sl | exact Pick.r_blk | exact Pick.sl_nil | exact Pick.own_nil | exact Pick.map_itO _ | apply Pick.there))))) (Nat.le_of_ble_eq_true rfl) ?_
        refine k_one 8 rfl (by kernel_rfl) fun hc_ => (s_buildSlice Try.underlying49 ti60 rfl rfl rfl (by decide) (by decide) (beside_agg1 (beside_pure (e := eNr) (a := Own eStr 9 x.2.1 x.2.2) (z := (ver, x.2.1, false)) (by repeat (first | exact eInt_pure _ | exact eStr_pure | exact eBool_pure | exact eByte_pure | exact eRaw_pure | apply ePair_pure | apply eMap_pure)) (by repeat (first | exact Has.here | exact Has.sl_apd | exact Has.sl_own | exact Has.r_blk | apply Has.there)) (fun w O h => raw_rd h))) rfl rfl (Nat.le_of_ble_eq_true rfl) (fun v1 => k_on hc_ (Picks.ent (by repeat (first | exact Picks.nil | (apply Picks.cons; · repeat (first | exact Pick.keep (Sl.isDup _ _ _) | exact Pick.keep (BlkR.isDup _ _ _) | exact Pick.keep (FldCell.isDup _ _) | exact Pick.here | exact Pick.own_sl | exact Pick.apd_sl | exact Pick.r_blk | exact Pick.sl_nil | exact Pick.own_nil | exact Pick.map_itO _ | apply Pick.there))))) ?_))
        refine k_one 9 rfl (by kernel_rfl) fun hc_ => (s_append Try.underlying49 ti60 rfl (by decide) rfl rfl (Nat.le_of_ble_eq_true rfl) (by repeat (first | exact Pick.here | exact Pick.own_nil | apply Pick.there)) (by repeat (first | exact Pick.keep (Sl.isDup _ _ _) | exact Pick.keep (BlkR.isDup _ _ _) | exact Pick.keep (FldCell.isDup _ _) | exact Pick.here | exact Pick.own_sl | exact Pick.apd_sl | exact Pick.r_blk | exact Pick.sl_nil | exact Pick.own_nil | exact Pick.map_itO _ | apply Pick.there)) rfl (by (first | omega | (simp only [maxLen, List.length_append, List.length_drop, List.length_take, List.length_nil, List.length_cons]; omega))) (by (first | omega | (simp only [maxLen, List.length_append, List.length_drop, List.length_take, List.length_nil, List.length_cons]; omega))) (fun v2 => k_on hc_ (Picks.ent (by repeat (first | exact Picks.nil | (apply Picks.cons; · repeat (first | exact Pick.keep (Sl.isDup _ _ _) | exact Pick.keep (BlkR.isDup _ _ _) | exact Pick.keep (FldCell.isDup _ _) | exact Pick.here | exact Pick.own_sl | exact Pick.apd_sl | exact Pick.r_blk | exact Pick.sl_nil | exact Pick.own_nil | exact Pick.map_itO _ | apply Pick.there))))) ?_))
        refine k_take 10 rfl (by kernel_rfl) (by kernel_rfl) (by kernel_rfl) rfl (by kernel_rfl) (v_nilCheck rfl) (Picks.ent (by repeat (first | exact Picks.nil | (apply Picks.cons; · repeat (first | exact Pick.keep (Sl.isDup _ _ _) | exact Pick.keep (BlkR.isDup _ _ _) | exact Pick.keep (FldCell.isDup _ _) | exact Pick.here | exact Pick.own_sl | exact Pick.apd_sl | exact Pick.r_blk | exact Pick.sl_nil | exact Pick.own_nil | exact Pick.map_itO _ | apply Pick.there))))) (Nat.le_of_ble_eq_true rfl) ?_
        refine k_take 11 rfl (by kernel_rfl) (by kernel_rfl) (by kernel_rfl) rfl (by kernel_rfl) (v_fieldAddrC 1 Try.underlying114 rfl ti49 (by decide) rfl) (Picks.ent (by repeat (first | exact Picks.nil | (apply Picks.cons; · repeat (first | exact Pick.keep (Sl.isDup _ _ _) | exact Pick.keep (BlkR.isDup _ _ _) | exact Pick.keep (FldCell.isDup _ _) | exact Pick.here | exact Pick.own_sl | exact Pick.apd_sl | exact Pick.r_blk | exact Pick.sl_nil | exact Pick.own_nil | exact Pick.map_itO _ | apply Pick.there))))) (Nat.le_of_ble_eq_true rfl) ?_
        refine k_one 12 rfl (by kernel_rfl) fun hc_ => (s_store1 ti49 rfl rfl (by first | exact OneC.lit rfl | exact OneC.sl (by repeat (first | exact Has.here | exact Has.sl_apd | exact Has.sl_own | exact Has.r_blk | apply Has.there))) (by repeat (first | exact Pick.here | exact Pick.own_nil | apply Pick.there)) (by first | decide | exact Nat.le_of_ble_eq_true rfl | simp) (by first | (dsimp only [List.set_cons_succ, List.set_cons_zero]; first | done | exact rfl) | rfl) (k_last hc_ (by kernel_rfl) ?_))
        refine k_done (by kernel_rfl) ?_ _
        rw [hem]
        have hq : (ver, x.2.1, false) = rawN (x.2.1, (ver, x.2.2, false)) := rfl
        rw [hq, ← List.map_singleton (f := rawN), ← List.map_append]
        have hnl : (qs ++ [(x.2.1, (ver, x.2.2, false))]).map (fun q : Value × Nt => q.2) = noteW ver x.2.2 w.2.2 := by
          rw [List.map_append, hqs]; unfold noteW; rw [if_pos (by omega)]; rfl
        refine c_mk (note_snoc (L := []) (qs := qs) (q := (x.2.1, (ver, x.2.2, false)))) (by repeat (first | exact Picks.nil | (apply Picks.cons; · repeat (first | exact Pick.keep (Sl.isDup _ _ _) | exact Pick.keep (BlkR.isDup _ _ _) | exact Pick.keep (FldCell.isDup _ _) | exact Pick.here | exact Pick.own_sl | exact Pick.apd_sl | exact Pick.r_blk | exact Pick.sl_nil | exact Pick.own_nil | exact Pick.map_itO _ | apply Pick.there)))) ?_
        refine c_mk (nts_mk (L := []) (v := v2) hnl) (by repeat (first | exact Picks.nil | (apply Picks.cons; · repeat (first | exact Pick.keep (Sl.isDup _ _ _) | exact Pick.keep (BlkR.isDup _ _ _) | exact Pick.keep (FldCell.isDup _ _) | exact Pick.here | exact Pick.own_sl | exact Pick.apd_sl | exact Pick.r_blk | exact Pick.sl_nil | exact Pick.own_nil | exact Pick.map_itO _ | apply Pick.there)))) ?_
        refine c_mk (hub_close (L := []) (h := h) (x := ((w.1, w.2.1, noteW ver x.2.2 w.2.2) : Wr)) hpm (hs_rising hri ver names _)) (by repeat (first | exact Picks.nil | (apply Picks.cons; · repeat (first | exact Pick.keep (Sl.isDup _ _ _) | exact Pick.keep (BlkR.isDup _ _ _) | exact Pick.keep (FldCell.isDup _ _) | exact Pick.here | exact Pick.own_sl | exact Pick.apd_sl | exact Pick.r_blk | exact Pick.sl_nil | exact Pick.own_nil | exact Pick.map_itO _ | apply Pick.there)))) ?_
        refine c_use (MEET (()) (trivial)) (by repeat (first | exact trivial | refine ⟨rfl, ?_⟩)) (Picks.ent (by repeat (first | exact Picks.nil | (apply Picks.cons; · repeat (first | exact Pick.keep (Sl.isDup _ _ _) | exact Pick.keep (BlkR.isDup _ _ _) | exact Pick.keep (FldCell.isDup _ _) | exact Pick.here | exact Pick.own_sl | exact Pick.apd_sl | exact Pick.r_blk | exact Pick.sl_nil | exact Pick.own_nil | exact Pick.map_itO _ | apply Pick.there)))))
      · skip
        have hl4 : w.2.2.length = 4 := by omega
        have hql4 : (qs.map rawN).length = 4 := by omega
        have hqq : qs.length = 4 := by simpa using hql4
        refine c_heldk 13 [BlkR b 114 [.string w.2.1, v], BlkR b4 3 [.int .i64 ver], Sl eNr v (qs.map rawN)] rfl ?_
        refine k_take 0 rfl (by kernel_rfl) (by kernel_rfl) (by kernel_rfl) rfl (by kernel_rfl) (v_move rfl) (Picks.ent (by repeat (first | exact Picks.nil | (apply Picks.cons; · repeat (first | exact Pick.keep (Sl.isDup _ _ _) | exact Pick.keep (BlkR.isDup _ _ _) | exact Pick.keep (FldCell.isDup _ _) | exact Pick.here | exact Pick.own_sl | exact Pick.apd_sl | exact Pick.r_blk | exact Pick.sl_nil | exact Pick.own_nil | exact Pick.map_itO _ | apply Pick.there))))) (Nat.le_of_ble_eq_true rfl) ?_
        refine k_take 1 rfl (by kernel_rfl) (by kernel_rfl) (by kernel_rfl) rfl (by kernel_rfl) (v_nilCheck rfl) (Picks.ent (by repeat (first | exact Picks.nil | (apply Picks.cons; · repeat (first | exact Pick.keep (Sl.isDup _ _ _) | exact Pick.keep (BlkR.isDup _ _ _) | exact Pick.keep (FldCell.isDup _ _) | exact Pick.here | exact Pick.own_sl | exact Pick.apd_sl | exact Pick.r_blk | exact Pick.sl_nil | exact Pick.own_nil | exact Pick.map_itO _ | apply Pick.there))))) (Nat.le_of_ble_eq_true rfl) ?_
        refine k_take 2 rfl (by kernel_rfl) (by kernel_rfl) (by kernel_rfl) rfl (by kernel_rfl) (v_fieldAddrC 1 Try.underlying114 rfl ti49 (by decide) rfl) (Picks.ent (by repeat (first | exact Picks.nil | (apply Picks.cons; · repeat (first | exact Pick.keep (Sl.isDup _ _ _) | exact Pick.keep (BlkR.isDup _ _ _) | exact Pick.keep (FldCell.isDup _ _) | exact Pick.here | exact Pick.own_sl | exact Pick.apd_sl | exact Pick.r_blk | exact Pick.sl_nil | exact Pick.own_nil | exact Pick.map_itO _ | apply Pick.there))))) (Nat.le_of_ble_eq_true rfl) ?_
        refine k_take 3 rfl (by kernel_rfl) (by kernel_rfl) (by kernel_rfl) rfl (by kernel_rfl) (v_load lone49 rfl (by repeat (first | exact Has.here | exact Has.sl_apd | exact Has.sl_own | exact Has.r_blk | apply Has.there)) rfl) (Picks.ent (by repeat (first | exact Picks.nil | (apply Picks.cons; · repeat (first | exact Pick.keep (Sl.isDup _ _ _) | exact Pick.keep (BlkR.isDup _ _ _) | exact Pick.keep (FldCell.isDup _ _) | exact Pick.here | exact Pick.own_sl | exact Pick.apd_sl | exact Pick.r_blk | exact Pick.sl_nil | exact Pick.own_nil | exact Pick.map_itO _ | apply Pick.there))))) (Nat.le_of_ble_eq_true rfl) ?_
        refine k_take 4 rfl (by kernel_rfl) (by kernel_rfl) (by kernel_rfl) rfl (by kernel_rfl) (v_move rfl) (Picks.ent (by repeat (first | exact Picks.nil | (apply Picks.cons; · repeat (first | exact Pick.keep (Sl.isDup _ _ _) | exact Pick.keep (BlkR.isDup _ _ _) | exact Pick.keep (FldCell.isDup _ _) | exact Pick.here | exact Pick.own_sl | exact Pick.apd_sl | exact Pick.r_blk | exact Pick.sl_nil | exact Pick.own_nil | exact Pick.map_itO _ | apply Pick.there))))) (Nat.le_of_ble_eq_true rfl) ?_
        refine k_take 5 rfl (by kernel_rfl) (by kernel_rfl) (by kernel_rfl) rfl (by kernel_rfl) (v_nilCheck rfl) (Picks.ent (by repeat (first | exact Picks.nil | (apply Picks.cons; · repeat (first | exact Pick.keep (Sl.isDup _ _ _) | exact Pick.keep (BlkR.isDup _ _ _) | exact Pick.keep (FldCell.isDup _ _) | exact Pick.here | exact Pick.own_sl | exact Pick.apd_sl | exact Pick.r_blk | exact Pick.sl_nil | exact Pick.own_nil | exact Pick.map_itO _ | apply Pick.there))))) (Nat.le_of_ble_eq_true rfl) ?_
        refine k_take 6 rfl (by kernel_rfl) (by kernel_rfl) (by kernel_rfl) rfl (by kernel_rfl) (v_fieldAddrC 1 Try.underlying114 rfl ti49 (by decide) rfl) (Picks.ent (by repeat (first | exact Picks.nil | (apply Picks.cons; · repeat (first | exact Pick.keep (Sl.isDup _ _ _) | exact Pick.keep (BlkR.isDup _ _ _) | exact Pick.keep (FldCell.isDup _ _) | exact Pick.here | exact Pick.own_sl | exact Pick.apd_sl | exact Pick.r_blk | exact Pick.sl_nil | exact Pick.own_nil | exact Pick.map_itO _ | apply Pick.there))))) (Nat.le_of_ble_eq_true rfl) ?_
        refine k_take 7 rfl (by kernel_rfl) (by kernel_rfl) (by kernel_rfl) rfl (by kernel_rfl) (v_load lone49 rfl (by repeat (first | exact Has.here | exact Has.sl_apd | exact Has.sl_own | exact Has.r_blk | apply Has.there)) rfl) (Picks.ent (by repeat (first | exact Picks.nil | (apply Picks.cons; · repeat (first | exact Pick.keep (Sl.isDup _ _ _) | exact Pick.keep (BlkR.isDup _ _ _) | exact Pick.keep (FldCell.isDup _ _) | exact Pick.here | exact Pick.own_sl | exact Pick.apd_sl | exact Pick.r_blk | exact Pick.sl_nil | exact Pick.own_nil | exact Pick.map_itO _ | apply Pick.there))))) (Nat.le_of_ble_eq_true rfl) ?_
        refine k_take 8 rfl (by kernel_rfl) (by kernel_rfl) (by kernel_rfl) rfl (by kernel_rfl) ((by first | exact v_len_form Try.underlying49 rfl | exact v_len_sl Try.underlying49 rfl (by repeat (first | exact Has.here | exact Has.sl_apd | exact Has.sl_own | exact Has.r_blk | apply Has.there)))) (Picks.ent (by repeat (first | exact Picks.nil | (apply Picks.cons; · repeat (first | exact Pick.keep (Sl.isDup _ _ _) | exact Pick.keep (BlkR.isDup _ _ _) | exact Pick.keep (FldCell.isDup _ _) | exact Pick.here | exact Pick.own_sl | exact Pick.apd_sl | exact Pick.r_blk | exact Pick.sl_nil | exact Pick.own_nil | exact Pick.map_itO _ | apply Pick.there))))) (Nat.le_of_ble_eq_true rfl) ?_
        refine k_take 9 rfl (by kernel_rfl) (by kernel_rfl) (by kernel_rfl) rfl (by kernel_rfl) ((by first | exact v_sub64 rfl rfl (by omega) | exact v_sub rfl rfl)) (Picks.ent (by repeat (first | exact Picks.nil | (apply Picks.cons; · repeat (first | exact Pick.keep (Sl.isDup _ _ _) | exact Pick.keep (BlkR.isDup _ _ _) | exact Pick.keep (FldCell.isDup _ _) | exact Pick.here | exact Pick.own_sl | exact Pick.apd_sl | exact Pick.r_blk | exact Pick.sl_nil | exact Pick.own_nil | exact Pick.map_itO _ | apply Pick.there))))) (Nat.le_of_ble_eq_true rfl) ?_
        refine k_take 10 rfl (by kernel_rfl) (by kernel_rfl) (by kernel_rfl) rfl (by kernel_rfl) (v_load lone3 rfl (by repeat (first | exact Has.here | exact Has.sl_apd | exact Has.sl_own | exact Has.r_blk | apply Has.there)) rfl) (Picks.ent (by repeat (first | exact Picks.nil | (apply Picks.cons; · repeat (first | exact Pick.keep (Sl.isDup _ _ _) | exact Pick.keep (BlkR.isDup _ _ _) | exact Pick.keep (FldCell.isDup _ _) | exact Pick.here | exact Pick.own_sl | exact Pick.apd_sl | exact Pick.r_blk | exact Pick.sl_nil | exact Pick.own_nil | exact Pick.map_itO _ | apply Pick.there))))) (Nat.le_of_ble_eq_true rfl) ?_
        refine k_take 11 rfl (by kernel_rfl) (by kernel_rfl) (by kernel_rfl) rfl (by kernel_rfl) (v_buildS (places := [(0, 1), (1, 1), (2, 1)]) (cells := [_, .slice none 0 0, _]) Try.underlying60 ti60 (by kernel_rfl) rfl (by repeat (first | exact PartsC.nil | (apply PartsC.one (by first | exact OneC.lit rfl | exact OneC.sl (by repeat (first | exact Has.here | exact Has.sl_apd | exact Has.sl_own | exact Has.r_blk | apply Has.there)))) | (apply PartsC.lit rfl))) rfl) (Picks.ent (by repeat (first | exact Picks.nil | (apply Picks.cons; · repeat (first | exact Pick.keep (Sl.isDup _ _ _) | exact Pick.keep (BlkR.isDup _ _ _) | exact Pick.keep (FldCell.isDup _ _) | exact Pick.here | exact Pick.own_sl | exact Pick.apd_sl | exact Pick.r_blk | exact Pick.sl_nil | exact Pick.own_nil | exact Pick.map_itO _ | apply Pick.there))))) (Nat.le_of_ble_eq_true rfl) ?_
        refine k_take 12 rfl (by kernel_rfl) (by kernel_rfl) (by kernel_rfl) rfl (by kernel_rfl) ((by first | exact v_indexAddrN Try.underlying49 ti60 rfl rfl (by repeat (first | exact Has.here | exact Has.sl_apd | exact Has.sl_own | exact Has.r_blk | apply Has.there)) (by omega) | exact v_indexAddr Try.underlying49 ti60 rfl rfl (by repeat (first | exact Has.here | exact Has.sl_apd | exact Has.sl_own | exact Has.r_blk | apply Has.there)) (by omega))) (Picks.ent (by repeat (first | exact Picks.nil | (apply Picks.cons; · repeat (first | exact Pick.keep (Sl.isDup _ _ _) | exact Pick.keep (BlkR.isDup _ _ _) | exact Pick.keep (FldCell.isDup _ _) | exact Pick.here | exact Pick.own_sl | exact Pick.apd_sl | exact Pick.r_blk | exact Pick.sl_nil | exact Pick.own_nil | exact Pick.map_itO _ | apply Pick.there))))) (Nat.le_of_ble_eq_true rfl) ?_
        refine k_one 13 rfl (by kernel_rfl) fun hc_ => (s_store_elem (z := (ver, .slice none 0 0, true)) ti60 rfl rfl (by first | exact CellsV.lit rfl | exact CellsV.one (by first | exact OneC.lit rfl | exact OneC.sl (by repeat (first | exact Has.here | exact Has.sl_apd | exact Has.sl_own | exact Has.r_blk | apply Has.there)))) (by repeat (first | exact Pick.here | exact Pick.own_nil | apply Pick.there)) (by exact Beside.rd fun w O => ⟨[.int .i64 ver], [.slice none 0 0, .bool true], rfl, rfl, [.slice none 0 0], [.bool true], rfl, ⟨rfl, rfl⟩, rfl⟩) (by omega) (k_last hc_ (by kernel_rfl) ?_))
        refine k_done (by kernel_rfl) ?_ _
        rw [hem, hql4, show (((4 : Nat) : Int) - 1).toNat = 3 from rfl]
        have hq : (ver, (.slice none 0 0 : Value), true) = rawN (.slice none 0 0, (ver, [], true)) := rfl
        rw [hq, ← List.map_set]
        have hnl : (qs.set 3 (.slice none 0 0, (ver, [], true))).map (fun q : Value × Nt => q.2) = noteW ver x.2.2 w.2.2 := by
          rw [List.map_set, hqs]; unfold noteW; rw [if_neg (by omega), List.set_eq_take_append_cons_drop, if_pos (by omega), List.drop_of_length_le (by omega)]
        refine c_mk (notes_set (L := []) (qs := qs) (i := 3) (q := (.slice none 0 0, (ver, [], true))) (note_nil ver)) (by repeat (first | exact Picks.nil | (apply Picks.cons; · repeat (first | exact Pick.keep (Sl.isDup _ _ _) | exact Pick.keep (BlkR.isDup _ _ _) | exact Pick.keep (FldCell.isDup _ _) | exact Pick.here | exact Pick.own_sl | exact Pick.apd_sl | exact Pick.r_blk | exact Pick.sl_nil | exact Pick.own_nil | exact Pick.map_itO _ | apply Pick.there)))) ?_
        refine c_mk (nts_mk (L := []) (v := v) hnl) (by repeat (first | exact Picks.nil | (apply Picks.cons; · repeat (first | exact Pick.keep (Sl.isDup _ _ _) | exact Pick.keep (BlkR.isDup _ _ _) | exact Pick.keep (FldCell.isDup _ _) | exact Pick.here | exact Pick.own_sl | exact Pick.apd_sl | exact Pick.r_blk | exact Pick.sl_nil | exact Pick.own_nil | exact Pick.map_itO _ | apply Pick.there)))) ?_
        refine c_mk (hub_close (L := []) (h := h) (x := ((w.1, w.2.1, noteW ver x.2.2 w.2.2) : Wr)) hpm (hs_rising hri ver names _)) (by repeat (first | exact Picks.nil | (apply Picks.cons; · repeat (first | exact Pick.keep (Sl.isDup _ _ _) | exact Pick.keep (BlkR.isDup _ _ _) | exact Pick.keep (FldCell.isDup _ _) | exact Pick.here | exact Pick.own_sl | exact Pick.apd_sl | exact Pick.r_blk | exact Pick.sl_nil | exact Pick.own_nil | exact Pick.map_itO _ | apply Pick.there)))) ?_
        refine c_use (MEET (()) (trivial)) (by repeat (first | exact trivial | refine ⟨rfl, ?_⟩)) (Picks.ent (by repeat (first | exact Picks.nil | (apply Picks.cons; · repeat (first | exact Pick.keep (Sl.isDup _ _ _) | exact Pick.keep (BlkR.isDup _ _ _) | exact Pick.keep (FldCell.isDup _ _) | exact Pick.here | exact Pick.own_sl | exact Pick.apd_sl | exact Pick.r_blk | exact Pick.sl_nil | exact Pick.own_nil | exact Pick.map_itO _ | apply Pick.there)))))
  · skip
    refine c_ent (L' := [PuA b3 b4 b7 h ver pre, HubA h (HsP H ver names pre), ObjA D (.deferred (some [])), BlkR g.1 25 [.pointer (some ⟨h, 0, none⟩)], BlkR g.2.1 30 [g.2.2], Sl eStr g.2.2 (setS names)]) (by show Ent [ObjA D (.deferred (some [])), BlkR g.1 25 [.pointer (some ⟨h, 0, none⟩)], BlkR g.2.1 30 [g.2.2], Sl eStr g.2.2 (setS names), HubA h (HsP H ver names pre), PuA b3 b4 b7 h ver pre] _; exact (Picks.ent (by repeat (first | exact Picks.nil | (apply Picks.cons; · repeat (first | exact Pick.keep (Sl.isDup _ _ _) | exact Pick.keep (BlkR.isDup _ _ _) | exact Pick.keep (FldCell.isDup _ _) | exact Pick.here | exact Pick.own_sl | exact Pick.apd_sl | exact Pick.r_blk | exact Pick.sl_nil | exact Pick.own_nil | exact Pick.map_itO _ | apply Pick.there)))))) ?_
    refine c_ex fun u => c_all ?_
    refine c_ent (L' := [Blk b3 25 [.pointer (some ⟨h, 0, none⟩)], Blk b4 3 [.int .i64 ver], Blk b7 35 [u], Own (eInt .i64) 3 u (pre.map fun x : Tx => x.1), HubA h (HsP H ver names pre), ObjA D (.deferred (some [])), BlkR g.1 25 [.pointer (some ⟨h, 0, none⟩)], BlkR g.2.1 30 [g.2.2], Sl eStr g.2.2 (setS names)]) (by show Ent [Blk b3 25 [.pointer (some ⟨h, 0, none⟩)], Blk b4 3 [.int .i64 ver], Blk b7 35 [u], Own (eInt .i64) 3 u (pre.map fun x : Tx => x.1), HubA h (HsP H ver names pre), ObjA D (.deferred (some [])), BlkR g.1 25 [.pointer (some ⟨h, 0, none⟩)], BlkR g.2.1 30 [g.2.2], Sl eStr g.2.2 (setS names)] _; exact (Picks.ent (by repeat (first | exact Picks.nil | (apply Picks.cons; · repeat (first | exact Pick.keep (Sl.isDup _ _ _) | exact Pick.keep (BlkR.isDup _ _ _) | exact Pick.keep (FldCell.isDup _ _) | exact Pick.here | exact Pick.own_sl | exact Pick.apd_sl | exact Pick.r_blk | exact Pick.sl_nil | exact Pick.own_nil | exact Pick.map_itO _ | apply Pick.there)))))) ?_
    refine c_inBlock ?_
    refine c_seq ?_
    refine c_region ?_
    refine o_val (v_load lone35 rfl (by repeat (first | exact Has.here | exact Has.sl_apd | exact Has.sl_own | exact Has.r_blk | apply Has.there)) rfl) (Nat.le_of_ble_eq_true rfl) ?_
    refine o_val (v_assign rfl) (Nat.le_of_ble_eq_true rfl) ?_
    refine o_nil ?_
    refine c_retm1 Try.func25 rfl rfl (by repeat (first | exact Pick.keep (Sl.isDup _ _ _) | exact Pick.keep (BlkR.isDup _ _ _) | exact Pick.keep (FldCell.isDup _ _) | exact Pick.here | exact Pick.own_sl | exact Pick.apd_sl | exact Pick.r_blk | exact Pick.sl_nil | exact Pick.own_nil | exact Pick.map_itO _ | apply Pick.there)) fun w O hS => ?_
    rw [hs_done hfin, show pre.map (fun x : Tx => x.1) = toldW H names by rw [← (tl_ids (names := names) hri).1, ← show pre.map projT = tlOf names H from hfin, List.map_map]; rfl] at hS
    exact ⟨u, rfl, trivial, Ent.get hS (Picks.ent (by repeat (first | exact Picks.nil | (apply Picks.cons; · repeat (first | exact Pick.keep (Sl.isDup _ _ _) | exact Pick.keep (BlkR.isDup _ _ _) | exact Pick.keep (FldCell.isDup _ _) | exact Pick.here | exact Pick.own_sl | exact Pick.apd_sl | exact Pick.r_blk | exact Pick.sl_nil | exact Pick.own_nil | exact Pick.map_itO _ | apply Pick.there)))))⟩
  · skip
    exact c_never (Has.mem (by simp))
end Go.Proofs.Ytnamhhmfnokfiaa

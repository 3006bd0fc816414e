import Derived.Test.YtnamhhmfnokfiaaW2
namespace Go.Proofs.Ytnamhhmfnokfiaa
open Go Go.SL

def doneW (H : List Wr) (o : Op13) : List Wr :=
  if o.1 = 0 then (addW H o.2.1 o.2.2.2.1).1 else if o.1 = 1 then (dropW H o.2.1).1 else if o.1 = 2 then pushW H o.2.2.1 o.2.2.2.2 else if o.1 = 3 then (takeW H o.2.1 o.2.2.1).1 else H
/-- What keeps all small. -/
def SmallW (H : List Wr) : Prop := H.length ≤ 12 ∧ ∀ w ∈ H, w.2.1.size ≤ 140737488355328 ∧ w.2.2.length ≤ 4 ∧ ∀ n ∈ w.2.2, n.2.1.length ≤ 8796093022207
def SmallO (o : Op13) : Prop := o.2.2.2.1.size ≤ 140737488355328 ∧ o.2.2.2.2.length ≤ 8796093022207 ∧ ∀ s ∈ o.2.2.2.2, s.size ≤ 140737488355328
theorem nts_sl {v : Value} {l : List Nt} {L : List A} : Ent (NtsA v l :: L) (Sl eNt v l :: L) := Ent.head fun w O h => by
  obtain ⟨qs, h⟩ := h
  have h1 : Stars [Own eNr 60 v (qs.map rawN), Pu (qs.map (·.2) = l), AllA (qs.map noteA)] w O := h
  have hp : qs.map (·.2) = l := by
    obtain ⟨_, _, _, _, _, _, _, hp, _⟩ := h1
    exact hp
  rw [← hp]
  exact has_notes Has.here (Has.there (Has.there Has.here)) w O h1
theorem take_small {H : List Wr} (hH : SmallW H) (i n : Int) : (takeW H i n).2.1.length ≤ 4 ∧ ∀ x ∈ (takeW H i n).2.1, x.2.1.length ≤ 8796093022207 := by
  unfold takeW
  split
  · rename_i w hw
    have hm := hH.2 w (List.mem_of_getElem? hw)
    split
    · simp
    · refine ⟨?_, fun x hx => hm.2.2 x (List.mem_of_mem_take hx)⟩
      simp only [List.length_take]; have := hm.2.1; omega
  · simp
attribute [local irreducible] Cfg Kont StepK Val Con Qops Any Sl Own Blk BlkR Rd Pu ExA AllA Has Pick Ent Elem Beside Callable TI Lone

set_option maxRecDepth 100000 in
theorem does_con (h : Nat) (l : Value) (H : List Wr) (k i n : Int) (s : ByteArray) (nv : Value) (names : List ByteArray) (hH : SmallW H) (ho : SmallO (k, i, n, s, names)) :
    Con Try.prog 17 [.pointer (some ⟨h, 0, none⟩), l, .agg #[.int .i64 k, .int .i64 i, .int .i64 n, .string s, nv]] [HubA h H, Sl eWr l H, Sl eStr nv names] (γ := Nat × Value) (fun r => .tuple #[.pointer (some ⟨r.1, 0, none⟩), r.2, .bool true]) (fun _ => True) (fun r => [HubA r.1 (doneW H (k, i, n, s, names)), Sl eWr r.2 (doneW H (k, i, n, s, names))]) := by
  have h1000 : H.length ≤ 1000 := by have := hH.1; omega
  have h1000000 : H.length ≤ 1000000 := by omega
  refine con_of Try.func17 rfl (Nat.le_of_ble_eq_true rfl) fun w0 O0 => ?_
  refine c_seq ?_
  refine c_region ?_
  refine o_step (s_box rfl (Nat.le_of_ble_eq_true rfl) (fun b5 => ?_))
  refine o_val (v_assign rfl) (Nat.le_of_ble_eq_true rfl) ?_
  refine o_val (v_assign rfl) (Nat.le_of_ble_eq_true rfl) ?_
  refine o_val (v_assign rfl) (Nat.le_of_ble_eq_true rfl) ?_
  refine o_nil ?_
  refine c_seq ?_
  refine c_seq ?_
  refine c_region ?_
  refine o_val (v_fieldAddrC 0 Try.underlying32 rfl ti3 (by decide) rfl) (Nat.le_of_ble_eq_true rfl) ?_
  refine o_val (v_load lone3 rfl (by repeat (first | exact Has.here | exact Has.sl_apd | exact Has.sl_own | exact Has.r_blk | apply Has.there)) rfl) (Nat.le_of_ble_eq_true rfl) ?_
  refine o_nil ?_
  refine c_block ?_
  refine c_seq ?_
  refine c_region ?_
  refine o_val (v_eq rfl rfl) (Nat.le_of_ble_eq_true rfl) ?_
  refine o_val (v_assign rfl) (Nat.le_of_ble_eq_true rfl) ?_
  refine o_nil ?_
  refine c_cond_p rfl (fun h0 => ?_) (fun h0 => ?_)
  · have hd : doneW H (k, i, n, s, names) = (addW H i s).1 := if_pos h0
    refine c_seq ?_
    refine c_region ?_
    refine o_val (v_move rfl) (Nat.le_of_ble_eq_true rfl) ?_
    refine o_val (v_fieldAddrC 1 Try.underlying32 rfl ti3 (by decide) rfl) (Nat.le_of_ble_eq_true rfl) ?_
    refine o_val (v_load lone3 rfl (by repeat (first | exact Has.here | exact Has.sl_apd | exact Has.sl_own | exact Has.r_blk | apply Has.there)) rfl) (Nat.le_of_ble_eq_true rfl) ?_
    refine o_val (v_fieldAddrC 3 Try.underlying32 rfl ti9 (by decide) rfl) (Nat.le_of_ble_eq_true rfl) ?_
    refine o_val (v_load lone9 rfl (by repeat (first | exact Has.here | exact Has.sl_apd | exact Has.sl_own | exact Has.r_blk | apply Has.there)) rfl) (Nat.le_of_ble_eq_true rfl) ?_
    refine o_step (s_callf cl49 (refAdd_con l H i s h1000) rfl (Nat.le_of_ble_eq_true rfl) (by repeat (first | exact Picks.nil | (apply Picks.cons; · repeat (first | exact Pick.keep (Sl.isDup _ _ _) | exact Pick.keep (BlkR.isDup _ _ _) | exact Pick.keep (FldCell.isDup _ _) | exact Pick.here | exact Pick.own_sl | exact Pick.apd_sl | exact Pick.r_blk | exact Pick.sl_nil | exact Pick.own_nil | exact Pick.map_itO _ | apply Pick.there)))) fun r _ => ?_)
    refine o_val (v_move rfl) (Nat.le_of_ble_eq_true rfl) ?_
    refine o_val (v_extract rfl rfl) (Nat.le_of_ble_eq_true rfl) ?_
    refine o_val (v_extract rfl rfl) (Nat.le_of_ble_eq_true rfl) ?_
    refine o_val (v_assign rfl) (Nat.le_of_ble_eq_true rfl) ?_
    refine o_val (v_assign rfl) (Nat.le_of_ble_eq_true rfl) ?_
    refine o_nil ?_
    refine c_seq ?_
    refine c_region ?_
    refine o_val (v_move rfl) (Nat.le_of_ble_eq_true rfl) ?_
    refine o_val (v_move rfl) (Nat.le_of_ble_eq_true rfl) ?_
    refine o_val (v_move rfl) (Nat.le_of_ble_eq_true rfl) ?_
    refine o_val (v_fieldAddrC 1 Try.underlying32 rfl ti3 (by decide) rfl) (Nat.le_of_ble_eq_true rfl) ?_
    refine o_val (v_load lone3 rfl (by repeat (first | exact Has.here | exact Has.sl_apd | exact Has.sl_own | exact Has.r_blk | apply Has.there)) rfl) (Nat.le_of_ble_eq_true rfl) ?_
    refine o_val (v_fieldAddrC 3 Try.underlying32 rfl ti9 (by decide) rfl) (Nat.le_of_ble_eq_true rfl) ?_
    refine o_val (v_load lone9 rfl (by repeat (first | exact Has.here | exact Has.sl_apd | exact Has.sl_own | exact Has.r_blk | apply Has.there)) rfl) (Nat.le_of_ble_eq_true rfl) ?_
    refine o_step (s_callf cl22 (add_con h H i s h1000000) rfl (Nat.le_of_ble_eq_true rfl) (by repeat (first | exact Picks.nil | (apply Picks.cons; · repeat (first | exact Pick.keep (Sl.isDup _ _ _) | exact Pick.keep (BlkR.isDup _ _ _) | exact Pick.keep (FldCell.isDup _ _) | exact Pick.here | exact Pick.own_sl | exact Pick.apd_sl | exact Pick.r_blk | exact Pick.sl_nil | exact Pick.own_nil | exact Pick.map_itO _ | apply Pick.there)))) fun _ _ => ?_)
    refine o_val (v_move rfl) (Nat.le_of_ble_eq_true rfl) ?_
    refine o_val (v_eq rfl rfl) (Nat.le_of_ble_eq_true rfl) ?_
    refine o_val (v_assign rfl) (Nat.le_of_ble_eq_true rfl) ?_
    refine o_val (v_assign rfl) (Nat.le_of_ble_eq_true rfl) ?_
    refine o_val (v_assign rfl) (Nat.le_of_ble_eq_true rfl) ?_
    refine o_nil ?_
    refine c_ret3 Try.func17 rfl rfl rfl rfl fun w O hS => ?_
    refine ⟨(h, r), by simp, trivial, ?_⟩
    rw [hd]
    exact Ent.get hS (Picks.ent (by repeat (first | exact Picks.nil | (apply Picks.cons; · repeat (first | exact Pick.keep (Sl.isDup _ _ _) | exact Pick.keep (BlkR.isDup _ _ _) | exact Pick.keep (FldCell.isDup _ _) | exact Pick.here | exact Pick.own_sl | exact Pick.apd_sl | exact Pick.r_blk | exact Pick.sl_nil | exact Pick.own_nil | exact Pick.map_itO _ | apply Pick.there)))))
  · refine c_seq ?_
    refine c_region ?_
    refine o_val (v_eq rfl rfl) (Nat.le_of_ble_eq_true rfl) ?_
    refine o_val (v_assign rfl) (Nat.le_of_ble_eq_true rfl) ?_
    refine o_nil ?_
    refine c_cond_p rfl (fun h1 => ?_) (fun h1 => ?_)
    · have hd : doneW H (k, i, n, s, names) = (dropW H i).1 := (if_neg h0).trans (if_pos h1)
      refine c_seq ?_
      refine c_region ?_
      refine o_val (v_move rfl) (Nat.le_of_ble_eq_true rfl) ?_
      refine o_val (v_fieldAddrC 1 Try.underlying32 rfl ti3 (by decide) rfl) (Nat.le_of_ble_eq_true rfl) ?_
      refine o_val (v_load lone3 rfl (by repeat (first | exact Has.here | exact Has.sl_apd | exact Has.sl_own | exact Has.r_blk | apply Has.there)) rfl) (Nat.le_of_ble_eq_true rfl) ?_
      refine o_step (s_callf cl50 (refDrop_con l H i h1000) rfl (Nat.le_of_ble_eq_true rfl) (by repeat (first | exact Picks.nil | (apply Picks.cons; · repeat (first | exact Pick.keep (Sl.isDup _ _ _) | exact Pick.keep (BlkR.isDup _ _ _) | exact Pick.keep (FldCell.isDup _ _) | exact Pick.here | exact Pick.own_sl | exact Pick.apd_sl | exact Pick.r_blk | exact Pick.sl_nil | exact Pick.own_nil | exact Pick.map_itO _ | apply Pick.there)))) fun r _ => ?_)
      refine o_val (v_move rfl) (Nat.le_of_ble_eq_true rfl) ?_
      refine o_val (v_extract rfl rfl) (Nat.le_of_ble_eq_true rfl) ?_
      refine o_val (v_extract rfl rfl) (Nat.le_of_ble_eq_true rfl) ?_
      refine o_val (v_assign rfl) (Nat.le_of_ble_eq_true rfl) ?_
      refine o_val (v_assign rfl) (Nat.le_of_ble_eq_true rfl) ?_
      refine o_nil ?_
      refine c_seq ?_
      refine c_region ?_
      refine o_val (v_move rfl) (Nat.le_of_ble_eq_true rfl) ?_
      refine o_val (v_move rfl) (Nat.le_of_ble_eq_true rfl) ?_
      refine o_val (v_move rfl) (Nat.le_of_ble_eq_true rfl) ?_
      refine o_val (v_fieldAddrC 1 Try.underlying32 rfl ti3 (by decide) rfl) (Nat.le_of_ble_eq_true rfl) ?_
      refine o_val (v_load lone3 rfl (by repeat (first | exact Has.here | exact Has.sl_apd | exact Has.sl_own | exact Has.r_blk | apply Has.there)) rfl) (Nat.le_of_ble_eq_true rfl) ?_
      refine o_step (s_callf cl29 (drop_con h H i) rfl (Nat.le_of_ble_eq_true rfl) (by repeat (first | exact Picks.nil | (apply Picks.cons; · repeat (first | exact Pick.keep (Sl.isDup _ _ _) | exact Pick.keep (BlkR.isDup _ _ _) | exact Pick.keep (FldCell.isDup _ _) | exact Pick.here | exact Pick.own_sl | exact Pick.apd_sl | exact Pick.r_blk | exact Pick.sl_nil | exact Pick.own_nil | exact Pick.map_itO _ | apply Pick.there)))) fun _ _ => ?_)
      refine o_val (v_move rfl) (Nat.le_of_ble_eq_true rfl) ?_
      refine o_val (v_eq rfl rfl) (Nat.le_of_ble_eq_true rfl) ?_
      refine o_val (v_assign rfl) (Nat.le_of_ble_eq_true rfl) ?_
      refine o_val (v_assign rfl) (Nat.le_of_ble_eq_true rfl) ?_
      refine o_val (v_assign rfl) (Nat.le_of_ble_eq_true rfl) ?_
      refine o_nil ?_
      refine c_ret3 Try.func17 rfl rfl rfl rfl fun w O hS => ?_
      refine ⟨(h, r), by simp, trivial, ?_⟩
      rw [hd]
      exact Ent.get hS (Picks.ent (by repeat (first | exact Picks.nil | (apply Picks.cons; · repeat (first | exact Pick.keep (Sl.isDup _ _ _) | exact Pick.keep (BlkR.isDup _ _ _) | exact Pick.keep (FldCell.isDup _ _) | exact Pick.here | exact Pick.own_sl | exact Pick.apd_sl | exact Pick.r_blk | exact Pick.sl_nil | exact Pick.own_nil | exact Pick.map_itO _ | apply Pick.there)))))
    · refine c_seq ?_
      refine c_region ?_
      refine o_val (v_eq rfl rfl) (Nat.le_of_ble_eq_true rfl) ?_
      refine o_val (v_assign rfl) (Nat.le_of_ble_eq_true rfl) ?_
      refine o_nil ?_
      refine c_cond_p rfl (fun h2 => ?_) (fun h2 => ?_)
      · have hd : doneW H (k, i, n, s, names) = pushW H n names := (if_neg h0).trans ((if_neg h1).trans (if_pos h2))
        refine c_seq ?_
        refine c_region ?_
        refine o_val (v_move rfl) (Nat.le_of_ble_eq_true rfl) ?_
        refine o_val (v_fieldAddrC 2 Try.underlying32 rfl ti3 (by decide) rfl) (Nat.le_of_ble_eq_true rfl) ?_
        refine o_val (v_load lone3 rfl (by repeat (first | exact Has.here | exact Has.sl_apd | exact Has.sl_own | exact Has.r_blk | apply Has.there)) rfl) (Nat.le_of_ble_eq_true rfl) ?_
        refine o_val (v_fieldAddrC 4 Try.underlying32 rfl ti30 (by decide) rfl) (Nat.le_of_ble_eq_true rfl) ?_
        refine o_val (v_load lone30 rfl (by repeat (first | exact Has.here | exact Has.sl_apd | exact Has.sl_own | exact Has.r_blk | apply Has.there)) rfl) (Nat.le_of_ble_eq_true rfl) ?_
        refine o_step (s_callf cl51 (refPush_con l nv H n names h1000 ho.2.1 ho.2.2 (fun w hw => (hH.2 w hw).1)) rfl (Nat.le_of_ble_eq_true rfl) (by repeat (first | exact Picks.nil | (apply Picks.cons; · repeat (first | exact Pick.keep (Sl.isDup _ _ _) | exact Pick.keep (BlkR.isDup _ _ _) | exact Pick.keep (FldCell.isDup _ _) | exact Pick.here | exact Pick.own_sl | exact Pick.apd_sl | exact Pick.r_blk | exact Pick.sl_nil | exact Pick.own_nil | exact Pick.map_itO _ | apply Pick.there)))) fun r _ => ?_)
        refine o_val (v_move rfl) (Nat.le_of_ble_eq_true rfl) ?_
        refine o_val (v_extract rfl rfl) (Nat.le_of_ble_eq_true rfl) ?_
        refine o_val (v_extract rfl rfl) (Nat.le_of_ble_eq_true rfl) ?_
        refine o_val (v_assign rfl) (Nat.le_of_ble_eq_true rfl) ?_
        refine o_val (v_assign rfl) (Nat.le_of_ble_eq_true rfl) ?_
        refine o_nil ?_
        refine c_seq ?_
        refine c_region ?_
        refine o_val (v_move rfl) (Nat.le_of_ble_eq_true rfl) ?_
        refine o_val (v_fieldAddrC 2 Try.underlying32 rfl ti3 (by decide) rfl) (Nat.le_of_ble_eq_true rfl) ?_
        refine o_val (v_load lone3 rfl (by repeat (first | exact Has.here | exact Has.sl_apd | exact Has.sl_own | exact Has.r_blk | apply Has.there)) rfl) (Nat.le_of_ble_eq_true rfl) ?_
        refine o_val (v_fieldAddrC 4 Try.underlying32 rfl ti30 (by decide) rfl) (Nat.le_of_ble_eq_true rfl) ?_
        refine o_val (v_load lone30 rfl (by repeat (first | exact Has.here | exact Has.sl_apd | exact Has.sl_own | exact Has.r_blk | apply Has.there)) rfl) (Nat.le_of_ble_eq_true rfl) ?_
        refine o_step (s_callf cl25 (push_con h H n nv names ho.2.1 h1000000 (fun w hw => (hH.2 w hw).2.1)) rfl (Nat.le_of_ble_eq_true rfl) (by repeat (first | exact Picks.nil | (apply Picks.cons; · repeat (first | exact Pick.keep (Sl.isDup _ _ _) | exact Pick.keep (BlkR.isDup _ _ _) | exact Pick.keep (FldCell.isDup _ _) | exact Pick.here | exact Pick.own_sl | exact Pick.apd_sl | exact Pick.r_blk | exact Pick.sl_nil | exact Pick.own_nil | exact Pick.map_itO _ | apply Pick.there)))) fun g _ => ?_)
        refine o_val (v_assign rfl) (Nat.le_of_ble_eq_true rfl) ?_
        refine o_nil ?_
        refine c_seq ?_
        refine c_region ?_
        refine o_val (v_move rfl) (Nat.le_of_ble_eq_true rfl) ?_
        refine o_val ((by first | exact v_len_form Try.underlying35 rfl | exact v_len_sl Try.underlying35 rfl (by repeat (first | exact Has.here | exact Has.sl_apd | exact Has.sl_own | exact Has.r_blk | apply Has.there)))) (Nat.le_of_ble_eq_true rfl) ?_
        refine o_val (v_move rfl) (Nat.le_of_ble_eq_true rfl) ?_
        refine o_val ((by first | exact v_len_form Try.underlying35 rfl | exact v_len_sl Try.underlying35 rfl (by repeat (first | exact Has.here | exact Has.sl_apd | exact Has.sl_own | exact Has.r_blk | apply Has.there)))) (Nat.le_of_ble_eq_true rfl) ?_
        refine o_val (v_eq rfl rfl) (Nat.le_of_ble_eq_true rfl) ?_
        refine o_val (v_assign rfl) (Nat.le_of_ble_eq_true rfl) ?_
        refine o_nil ?_
        refine c_seq ?_
        refine c_seq ?_
        refine c_region ?_
        refine o_val (v_move rfl) (Nat.le_of_ble_eq_true rfl) ?_
        refine o_val ((by first | exact v_len_form Try.underlying35 rfl | exact v_len_sl Try.underlying35 rfl (by repeat (first | exact Has.here | exact Has.sl_apd | exact Has.sl_own | exact Has.r_blk | apply Has.there)))) (Nat.le_of_ble_eq_true rfl) ?_
        refine o_val (v_move rfl) (Nat.le_of_ble_eq_true rfl) ?_
        refine o_nil ?_
        refine c_block ?_
        have htl : (toldW H names).length ≤ 1000000 := by unfold toldW; rw [List.length_map]; exact Nat.le_trans (List.length_filter_le _ _) h1000000
        rw [show decide (((toldW H names).length : Int) = ((toldW H names).length : Int)) = true from decide_eq_true rfl]
        refine c_loopR (γ := Nat) [(0, _), (1, _), (6, _), (7, _), (8, _), (13, _), (14, _), (15, _), (87, _)] (fun j => (toldW H names).length - j) (fun j => j ≤ (toldW H names).length) (fun j => [(88, .int .i64 j), (16, .bool true)]) (fun _ => [Own (eInt .i64) 3 g (toldW H names), Own (eInt .i64) 3 r.2 (toldW H names), HubA h (pushW H n names), Own eWr 39 r.1 (pushW H n names)]) (0) (Nat.zero_le _) (by repeat (first | exact trivial | refine ⟨rfl, ?_⟩)) (Picks.ent (by repeat (first | exact Picks.nil | (apply Picks.cons; · repeat (first | exact Pick.keep (Sl.isDup _ _ _) | exact Pick.keep (BlkR.isDup _ _ _) | exact Pick.keep (FldCell.isDup _ _) | exact Pick.here | exact Pick.own_sl | exact Pick.apd_sl | exact Pick.r_blk | exact Pick.sl_nil | exact Pick.own_nil | exact Pick.map_itO _ | apply Pick.there))))) ?_
        rintro j hj IH
        try dsimp only [List.cons_append, List.nil_append]
        refine c_seq ?_
        refine c_region ?_
        refine o_val (v_lt rfl rfl) (Nat.le_of_ble_eq_true rfl) ?_
        refine o_nil ?_
        refine c_seq ?_
        refine c_cond_p rfl (fun hlt => ?_) (fun hlt => ?_)
        · have hlt' : j < (toldW H names).length := by omega
          refine c_skip ?_
          refine c_seq ?_
          refine c_block ?_
          refine c_seq ?_
          refine c_region ?_
          refine o_val (v_move rfl) (Nat.le_of_ble_eq_true rfl) ?_
          refine o_val (v_assign rfl) (Nat.le_of_ble_eq_true rfl) ?_
          refine o_nil ?_
          refine c_quiet rfl (by kernel_rfl) ?_
          refine q_val (v_move rfl) (Nat.le_of_ble_eq_true rfl) ?_
          refine q_val (v_move rfl) (Nat.le_of_ble_eq_true rfl) ?_
          refine q_guard rfl rfl (fun _ => ?_) (fun h_ => absurd ((show _ = true from rfl).symm.trans h_) (by decide))
          refine q_val (v_move rfl) (Nat.le_of_ble_eq_true rfl) ?_
          refine q_on rfl rfl ?_
          refine q_val (v_move rfl) (Nat.le_of_ble_eq_true rfl) ?_
          refine q_on rfl rfl ?_
          refine q_val ((by first | exact v_indexAddrN Try.underlying35 ti3 rfl rfl (by repeat (first | exact Has.here | exact Has.sl_apd | exact Has.sl_own | exact Has.r_blk | apply Has.there)) (by omega) | exact v_indexAddr Try.underlying35 ti3 rfl rfl (by repeat (first | exact Has.here | exact Has.sl_apd | exact Has.sl_own | exact Has.r_blk | apply Has.there)) (by omega))) (Nat.le_of_ble_eq_true rfl) ?_
          refine q_on rfl rfl ?_
          refine q_val (v_load_int lone3 rfl (by repeat (first | exact Elem.sl (List.getElem?_eq_getElem (by omega)) | exact Elem.own (List.getElem?_eq_getElem (by omega)) | apply Elem.there))) (Nat.le_of_ble_eq_true rfl) ?_
          refine q_on rfl rfl ?_
          refine q_val (v_move rfl) (Nat.le_of_ble_eq_true rfl) ?_
          refine q_on rfl rfl ?_
          refine q_val (v_move rfl) (Nat.le_of_ble_eq_true rfl) ?_
          refine q_on rfl rfl ?_
          refine q_val ((by first | exact v_indexAddrN Try.underlying35 ti3 rfl rfl (by repeat (first | exact Has.here | exact Has.sl_apd | exact Has.sl_own | exact Has.r_blk | apply Has.there)) (by omega) | exact v_indexAddr Try.underlying35 ti3 rfl rfl (by repeat (first | exact Has.here | exact Has.sl_apd | exact Has.sl_own | exact Has.r_blk | apply Has.there)) (by omega))) (Nat.le_of_ble_eq_true rfl) ?_
          refine q_on rfl rfl ?_
          refine q_val (v_load_int lone3 rfl (by repeat (first | exact Elem.sl (List.getElem?_eq_getElem (by omega)) | exact Elem.own (List.getElem?_eq_getElem (by omega)) | apply Elem.there))) (Nat.le_of_ble_eq_true rfl) ?_
          refine q_on rfl rfl ?_
          refine q_val (v_eq rfl rfl) (Nat.le_of_ble_eq_true rfl) ?_
          refine q_val (v_pick_t rfl rfl) (Nat.le_of_ble_eq_true rfl) ?_
          refine q_val (v_assign rfl) (Nat.le_of_ble_eq_true rfl) ?_
          refine q_nil ?_
          refine c_inBlock ?_
          refine c_region ?_
          refine o_val ((by first | exact v_add64 rfl rfl (by omega) | exact v_add rfl rfl)) (Nat.le_of_ble_eq_true rfl) ?_
          refine o_val (v_move rfl) (Nat.le_of_ble_eq_true rfl) ?_
          refine o_nil ?_
          rw [show decide ((toldW H names)[j] = (toldW H names)[j]) = true from decide_eq_true rfl]
          refine c_use (IH (j + 1) (by first | omega | (dsimp only; omega)) (by omega)) (by repeat (first | exact trivial | refine ⟨rfl, ?_⟩)) (Picks.ent (by repeat (first | exact Picks.nil | (apply Picks.cons; · repeat (first | exact Pick.keep (Sl.isDup _ _ _) | exact Pick.keep (BlkR.isDup _ _ _) | exact Pick.keep (FldCell.isDup _ _) | exact Pick.here | exact Pick.own_sl | exact Pick.apd_sl | exact Pick.r_blk | exact Pick.sl_nil | exact Pick.own_nil | exact Pick.map_itO _ | apply Pick.there)))))
        · refine c_exit rfl ?_
          refine c_seq ?_
          refine c_region ?_
          refine o_val (v_move rfl) (Nat.le_of_ble_eq_true rfl) ?_
          refine o_val (v_move rfl) (Nat.le_of_ble_eq_true rfl) ?_
          refine o_val (v_move rfl) (Nat.le_of_ble_eq_true rfl) ?_
          refine o_val (v_assign rfl) (Nat.le_of_ble_eq_true rfl) ?_
          refine o_val (v_assign rfl) (Nat.le_of_ble_eq_true rfl) ?_
          refine o_val (v_assign rfl) (Nat.le_of_ble_eq_true rfl) ?_
          refine o_nil ?_
          refine c_ret3 Try.func17 rfl rfl rfl rfl fun w O hS => ?_
          refine ⟨(h, r.1), by simp, trivial, ?_⟩
          rw [hd]
          exact Ent.get hS (Picks.ent (by repeat (first | exact Picks.nil | (apply Picks.cons; · repeat (first | exact Pick.keep (Sl.isDup _ _ _) | exact Pick.keep (BlkR.isDup _ _ _) | exact Pick.keep (FldCell.isDup _ _) | exact Pick.here | exact Pick.own_sl | exact Pick.apd_sl | exact Pick.r_blk | exact Pick.sl_nil | exact Pick.own_nil | exact Pick.map_itO _ | apply Pick.there)))))
      · refine c_seq ?_
        refine c_region ?_
        refine o_val (v_eq rfl rfl) (Nat.le_of_ble_eq_true rfl) ?_
        refine o_val (v_assign rfl) (Nat.le_of_ble_eq_true rfl) ?_
        refine o_nil ?_
        refine c_cond_p rfl (fun h3 => ?_) (fun h3 => ?_)
        · have hd : doneW H (k, i, n, s, names) = (takeW H i n).1 := (if_neg h0).trans ((if_neg h1).trans ((if_neg h2).trans (if_pos h3)))
          refine c_seq ?_
          refine c_region ?_
          refine o_val (v_move rfl) (Nat.le_of_ble_eq_true rfl) ?_
          refine o_val (v_fieldAddrC 1 Try.underlying32 rfl ti3 (by decide) rfl) (Nat.le_of_ble_eq_true rfl) ?_
          refine o_val (v_load lone3 rfl (by repeat (first | exact Has.here | exact Has.sl_apd | exact Has.sl_own | exact Has.r_blk | apply Has.there)) rfl) (Nat.le_of_ble_eq_true rfl) ?_
          refine o_val (v_fieldAddrC 2 Try.underlying32 rfl ti3 (by decide) rfl) (Nat.le_of_ble_eq_true rfl) ?_
          refine o_val (v_load lone3 rfl (by repeat (first | exact Has.here | exact Has.sl_apd | exact Has.sl_own | exact Has.r_blk | apply Has.there)) rfl) (Nat.le_of_ble_eq_true rfl) ?_
          refine o_step (s_callf cl52 (refTake_con l H i n h1000) rfl (Nat.le_of_ble_eq_true rfl) (by repeat (first | exact Picks.nil | (apply Picks.cons; · repeat (first | exact Pick.keep (Sl.isDup _ _ _) | exact Pick.keep (BlkR.isDup _ _ _) | exact Pick.keep (FldCell.isDup _ _) | exact Pick.here | exact Pick.own_sl | exact Pick.apd_sl | exact Pick.r_blk | exact Pick.sl_nil | exact Pick.own_nil | exact Pick.map_itO _ | apply Pick.there)))) fun r _ => ?_)
          refine o_val (v_move rfl) (Nat.le_of_ble_eq_true rfl) ?_
          refine o_val (v_extract rfl rfl) (Nat.le_of_ble_eq_true rfl) ?_
          refine o_val (v_extract rfl rfl) (Nat.le_of_ble_eq_true rfl) ?_
          refine o_val (v_extract rfl rfl) (Nat.le_of_ble_eq_true rfl) ?_
          refine o_val (v_assign rfl) (Nat.le_of_ble_eq_true rfl) ?_
          refine o_val (v_assign rfl) (Nat.le_of_ble_eq_true rfl) ?_
          refine o_val (v_assign rfl) (Nat.le_of_ble_eq_true rfl) ?_
          refine o_nil ?_
          refine c_seq ?_
          refine c_region ?_
          refine o_val (v_move rfl) (Nat.le_of_ble_eq_true rfl) ?_
          refine o_val (v_fieldAddrC 1 Try.underlying32 rfl ti3 (by decide) rfl) (Nat.le_of_ble_eq_true rfl) ?_
          refine o_val (v_load lone3 rfl (by repeat (first | exact Has.here | exact Has.sl_apd | exact Has.sl_own | exact Has.r_blk | apply Has.there)) rfl) (Nat.le_of_ble_eq_true rfl) ?_
          refine o_val (v_fieldAddrC 2 Try.underlying32 rfl ti3 (by decide) rfl) (Nat.le_of_ble_eq_true rfl) ?_
          refine o_val (v_load lone3 rfl (by repeat (first | exact Has.here | exact Has.sl_apd | exact Has.sl_own | exact Has.r_blk | apply Has.there)) rfl) (Nat.le_of_ble_eq_true rfl) ?_
          refine o_step (s_callf cl23 (take_con h H i n (fun x hx => by have := (hH.2 x hx).2.1; omega)) rfl (Nat.le_of_ble_eq_true rfl) (by repeat (first | exact Picks.nil | (apply Picks.cons; · repeat (first | exact Pick.keep (Sl.isDup _ _ _) | exact Pick.keep (BlkR.isDup _ _ _) | exact Pick.keep (FldCell.isDup _ _) | exact Pick.here | exact Pick.own_sl | exact Pick.apd_sl | exact Pick.r_blk | exact Pick.sl_nil | exact Pick.own_nil | exact Pick.map_itO _ | apply Pick.there)))) fun g _ => ?_)
          refine o_val (v_move rfl) (Nat.le_of_ble_eq_true rfl) ?_
          refine o_val (v_extract rfl rfl) (Nat.le_of_ble_eq_true rfl) ?_
          refine o_val (v_extract rfl rfl) (Nat.le_of_ble_eq_true rfl) ?_
          refine o_val (v_assign rfl) (Nat.le_of_ble_eq_true rfl) ?_
          refine o_val (v_assign rfl) (Nat.le_of_ble_eq_true rfl) ?_
          refine o_nil ?_
          refine c_seq ?_
          refine c_ent (L' := Sl eNt g (takeW H i n).2.1 :: [HubA h (takeW H i n).1, Sl eWr r.1 (takeW H i n).1, Sl eNt r.2 (takeW H i n).2.1]) (Ent.trans (b := NtsA g (takeW H i n).2.1 :: [HubA h (takeW H i n).1, Sl eWr r.1 (takeW H i n).1, Sl eNt r.2 (takeW H i n).2.1]) (Picks.ent (by repeat (first | exact Picks.nil | (apply Picks.cons; · repeat (first | exact Pick.keep (Sl.isDup _ _ _) | exact Pick.keep (BlkR.isDup _ _ _) | exact Pick.keep (FldCell.isDup _ _) | exact Pick.here | exact Pick.own_sl | exact Pick.apd_sl | exact Pick.r_blk | exact Pick.sl_nil | exact Pick.own_nil | exact Pick.map_itO _ | apply Pick.there))))) nts_sl) ?_
          have htl : (takeW H i n).2.1.length ≤ 4 := (take_small hH i n).1
          have htn : ∀ x ∈ (takeW H i n).2.1, x.2.1.length ≤ 8796093022207 := (take_small hH i n).2
          refine c_region ?_
          refine o_val (v_move rfl) (Nat.le_of_ble_eq_true rfl) ?_
          refine o_val (v_move rfl) (Nat.le_of_ble_eq_true rfl) ?_
          refine o_val (v_move rfl) (Nat.le_of_ble_eq_true rfl) ?_
          refine o_val (v_move rfl) (Nat.le_of_ble_eq_true rfl) ?_
          refine o_val (v_eq rfl rfl) (Nat.le_of_ble_eq_true rfl) ?_
          refine o_val (v_move rfl) (Nat.le_of_ble_eq_true rfl) ?_
          refine o_guard rfl rfl (fun _ => ?_) (fun h_ => absurd ((show _ = true from (decide_eq_true rfl)).symm.trans h_) (by decide))
          refine o_val (v_move rfl) (Nat.le_of_ble_eq_true rfl) ?_
          refine o_on rfl rfl ?_
          refine o_step (s_callf cl24 (old_con g (takeW H i n).2.1 (by omega)) rfl (Nat.le_of_ble_eq_true rfl) (by repeat (first | exact Picks.nil | (apply Picks.cons; · repeat (first | exact Pick.keep (Sl.isDup _ _ _) | exact Pick.keep (BlkR.isDup _ _ _) | exact Pick.keep (FldCell.isDup _ _) | exact Pick.here | exact Pick.own_sl | exact Pick.apd_sl | exact Pick.r_blk | exact Pick.sl_nil | exact Pick.own_nil | exact Pick.map_itO _ | apply Pick.there)))) fun u _ => ?_)
          refine o_on rfl rfl ?_
          refine o_val (v_move rfl) (Nat.le_of_ble_eq_true rfl) ?_
          refine o_on rfl rfl ?_
          refine o_step (s_callf cl28 (same_con u r.2 (takeW H i n).2.1 (takeW H i n).2.1 (by omega) (by omega) (fun x hx => by have := htn x hx; omega)) rfl (Nat.le_of_ble_eq_true rfl) (by repeat (first | exact Picks.nil | (apply Picks.cons; · repeat (first | exact Pick.keep (Sl.isDup _ _ _) | exact Pick.keep (BlkR.isDup _ _ _) | exact Pick.keep (FldCell.isDup _ _) | exact Pick.here | exact Pick.own_sl | exact Pick.apd_sl | exact Pick.r_blk | exact Pick.sl_nil | exact Pick.own_nil | exact Pick.map_itO _ | apply Pick.there)))) fun _ _ => ?_)
          refine o_val (v_pick_t rfl rfl) (Nat.le_of_ble_eq_true rfl) ?_
          refine o_val (v_assign rfl) (Nat.le_of_ble_eq_true rfl) ?_
          refine o_val (v_assign rfl) (Nat.le_of_ble_eq_true rfl) ?_
          refine o_val (v_assign rfl) (Nat.le_of_ble_eq_true rfl) ?_
          refine o_nil ?_
          rw [show decide ((takeW H i n).2.1 = (takeW H i n).2.1) = true from decide_eq_true rfl]
          refine c_ret3 Try.func17 rfl rfl rfl rfl fun w O hS => ?_
          refine ⟨(h, r.1), by simp, trivial, ?_⟩
          rw [hd]
          exact Ent.get hS (Picks.ent (by repeat (first | exact Picks.nil | (apply Picks.cons; · repeat (first | exact Pick.keep (Sl.isDup _ _ _) | exact Pick.keep (BlkR.isDup _ _ _) | exact Pick.keep (FldCell.isDup _ _) | exact Pick.here | exact Pick.own_sl | exact Pick.apd_sl | exact Pick.r_blk | exact Pick.sl_nil | exact Pick.own_nil | exact Pick.map_itO _ | apply Pick.there)))))
        · have hd : doneW H (k, i, n, s, names) = H := (if_neg h0).trans ((if_neg h1).trans ((if_neg h2).trans (if_neg h3)))
          refine c_seq ?_
          refine c_region ?_
          refine o_val (v_eq rfl rfl) (Nat.le_of_ble_eq_true rfl) ?_
          refine o_val (v_assign rfl) (Nat.le_of_ble_eq_true rfl) ?_
          refine o_nil ?_
          refine c_cond_p rfl (fun h4 => ?_) (fun h4 => ?_)
          · refine c_seq ?_
            refine c_region ?_
            refine o_val (v_move rfl) (Nat.le_of_ble_eq_true rfl) ?_
            refine o_step (s_callf cl48 (copy_con h H (fun x hx => ⟨by have := (hH.2 x hx).2.1; omega, (hH.2 x hx).2.2⟩)) rfl (Nat.le_of_ble_eq_true rfl) (by repeat (first | exact Picks.nil | (apply Picks.cons; · repeat (first | exact Pick.keep (Sl.isDup _ _ _) | exact Pick.keep (BlkR.isDup _ _ _) | exact Pick.keep (FldCell.isDup _ _) | exact Pick.here | exact Pick.own_sl | exact Pick.apd_sl | exact Pick.r_blk | exact Pick.sl_nil | exact Pick.own_nil | exact Pick.map_itO _ | apply Pick.there)))) fun c _ => ?_)
            refine o_val (v_assign rfl) (Nat.le_of_ble_eq_true rfl) ?_
            refine o_nil ?_
            refine c_seq ?_
            refine c_seq ?_
            refine c_region ?_
            refine o_val (v_move rfl) (Nat.le_of_ble_eq_true rfl) ?_
            refine o_val (v_eq_ptr_nil Try.underlying25 rfl rfl) (Nat.le_of_ble_eq_true rfl) ?_
            refine o_nil ?_
            refine c_cond_f rfl ?_
            refine c_skip ?_
            refine c_seq ?_
            refine c_region ?_
            refine o_val (v_move rfl) (Nat.le_of_ble_eq_true rfl) ?_
            refine o_step (s_buildSlice Try.underlying30 ti9 rfl rfl rfl (by decide) (by decide) (beside_str [sa, sb]) rfl rfl (Nat.le_of_ble_eq_true rfl) fun v1 => ?_)
            refine o_step (s_callf cl25 (push_con h H 1 v1 [sa, sb] (by decide) h1000000 (fun w hw => (hH.2 w hw).2.1)) rfl (Nat.le_of_ble_eq_true rfl) (by repeat (first | exact Picks.nil | (apply Picks.cons; · repeat (first | exact Pick.keep (Sl.isDup _ _ _) | exact Pick.keep (BlkR.isDup _ _ _) | exact Pick.keep (FldCell.isDup _ _) | exact Pick.here | exact Pick.own_sl | exact Pick.apd_sl | exact Pick.r_blk | exact Pick.sl_nil | exact Pick.own_nil | exact Pick.map_itO _ | apply Pick.there)))) fun g _ => ?_)
            refine o_nil ?_
            refine c_seq ?_
            refine c_region ?_
            refine o_val (v_move rfl) (Nat.le_of_ble_eq_true rfl) ?_
            refine o_val (v_fieldAddrC 1 Try.underlying32 rfl ti3 (by decide) rfl) (Nat.le_of_ble_eq_true rfl) ?_
            refine o_val (v_load lone3 rfl (by repeat (first | exact Has.here | exact Has.sl_apd | exact Has.sl_own | exact Has.r_blk | apply Has.there)) rfl) (Nat.le_of_ble_eq_true rfl) ?_
            refine o_step (s_callf cl29 (drop_con h (pushW H 1 [sa, sb]) i) rfl (Nat.le_of_ble_eq_true rfl) (by repeat (first | exact Picks.nil | (apply Picks.cons; · repeat (first | exact Pick.keep (Sl.isDup _ _ _) | exact Pick.keep (BlkR.isDup _ _ _) | exact Pick.keep (FldCell.isDup _ _) | exact Pick.here | exact Pick.own_sl | exact Pick.apd_sl | exact Pick.r_blk | exact Pick.sl_nil | exact Pick.own_nil | exact Pick.map_itO _ | apply Pick.there)))) fun _ _ => ?_)
            refine o_nil ?_
            refine c_seq ?_
            refine c_region ?_
            refine o_val (v_move rfl) (Nat.le_of_ble_eq_true rfl) ?_
            refine o_val (v_move rfl) (Nat.le_of_ble_eq_true rfl) ?_
            refine o_val (v_assign rfl) (Nat.le_of_ble_eq_true rfl) ?_
            refine o_val (v_assign rfl) (Nat.le_of_ble_eq_true rfl) ?_
            refine o_val (v_assign rfl) (Nat.le_of_ble_eq_true rfl) ?_
            refine o_nil ?_
            refine c_ret3 Try.func17 rfl rfl rfl rfl fun w O hS => ?_
            refine ⟨(c, l), rfl, trivial, ?_⟩
            rw [hd]
            exact Ent.get hS (Picks.ent (by repeat (first | exact Picks.nil | (apply Picks.cons; · repeat (first | exact Pick.keep (Sl.isDup _ _ _) | exact Pick.keep (BlkR.isDup _ _ _) | exact Pick.keep (FldCell.isDup _ _) | exact Pick.here | exact Pick.own_sl | exact Pick.apd_sl | exact Pick.r_blk | exact Pick.sl_nil | exact Pick.own_nil | exact Pick.map_itO _ | apply Pick.there)))))
          · refine c_skip ?_
            refine c_inBlock ?_
            refine c_seq ?_
            refine c_region ?_
            refine o_val (v_move rfl) (Nat.le_of_ble_eq_true rfl) ?_
            refine o_val (v_move rfl) (Nat.le_of_ble_eq_true rfl) ?_
            refine o_val (v_assign rfl) (Nat.le_of_ble_eq_true rfl) ?_
            refine o_val (v_assign rfl) (Nat.le_of_ble_eq_true rfl) ?_
            refine o_val (v_assign rfl) (Nat.le_of_ble_eq_true rfl) ?_
            refine o_nil ?_
            refine c_ret3 Try.func17 rfl rfl rfl rfl fun w O hS => ?_
            refine ⟨(h, l), rfl, trivial, ?_⟩
            rw [hd]
            exact Ent.get hS (Picks.ent (by repeat (first | exact Picks.nil | (apply Picks.cons; · repeat (first | exact Pick.keep (Sl.isDup _ _ _) | exact Pick.keep (BlkR.isDup _ _ _) | exact Pick.keep (FldCell.isDup _ _) | exact Pick.here | exact Pick.own_sl | exact Pick.apd_sl | exact Pick.r_blk | exact Pick.sl_nil | exact Pick.own_nil | exact Pick.map_itO _ | apply Pick.there)))))
end Go.Proofs.Ytnamhhmfnokfiaa

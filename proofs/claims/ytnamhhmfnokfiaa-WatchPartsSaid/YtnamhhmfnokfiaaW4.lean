import Derived.Test.YtnamhhmfnokfiaaW3
import Derived.Test.YtnamhhmfnokfiaaQV
namespace Go.Proofs.Ytnamhhmfnokfiaa
open Go Go.SL
theorem done_rising {H : List Wr} (hr : Rising H) (o : Op13) : Rising (doneW H o) := by
  unfold doneW
  split
  · exact add_rising hr _ _
  split
  · rcases atW_cases (H := H) o.2.1 with ⟨h1, _⟩ | ⟨i, hi, h1, h2⟩
    · unfold dropW; rw [if_pos (by rw [h1]; omega)]; exact hr
    · have := (drop_spec hr (List.getElem_mem hi)).2.1
      rw [h2] at this; exact this
  split
  · exact List.Pairwise.map _ (fun a b h => by rw [(step_key _ _ a).1, (step_key _ _ b).1]; exact h) hr
  split
  · unfold takeW
    split
    · rename_i w hw
      split
      · exact hr
      · obtain ⟨hi, rfl⟩ := List.getElem?_eq_some_iff.1 hw
        exact set_rising hr hi rfl
    · exact hr
  · exact hr
theorem done_small {H : List Wr} (hr : Rising H) (hH : SmallW H) {o : Op13} (ho : SmallO o) : SmallW (doneW H o) := by
  unfold doneW
  split
  · unfold addW
    split
    · exact hH
    · rename_i hc
      have hp := (rising_sorted_insert hr (x := (o.2.1, o.2.2.2.1, [])) fun w hw e => by
        obtain ⟨i, hi, h1, _⟩ := atW_pos hr hw
        rw [e] at h1
        exact hc (.inr (by rw [h1]; omega))).2
      refine ⟨by have := hp.length_eq; simp only [List.length_cons] at this; show (H.filter _ ++ [_] ++ H.filter _).length ≤ 12; rw [← this]; omega, fun w hw => ?_⟩
      rcases List.mem_cons.1 (hp.mem_iff.2 hw) with rfl | h
      · exact ⟨ho.1, by simp, by simp⟩
      · exact hH.2 w h
  split
  · unfold dropW
    split
    · exact hH
    · show SmallW (H.take _ ++ H.drop _)
      rw [← List.eraseIdx_eq_take_drop_succ]
      exact ⟨Nat.le_trans (List.length_eraseIdx_le _ _) hH.1, fun w hw => hH.2 w (List.mem_of_mem_eraseIdx hw)⟩
  split
  · refine ⟨by unfold pushW; rw [List.length_map]; exact hH.1, fun w hw => ?_⟩
    obtain ⟨x, hx, rfl⟩ := List.mem_map.1 hw
    obtain ⟨h1, h2, h3⟩ := hH.2 x hx
    unfold stepW
    split
    · exact ⟨h1, h2, h3⟩
    · refine ⟨h1, ?_, fun n hn => ?_⟩
      · show (noteW _ _ _).length ≤ 4
        unfold noteW
        split
        · simp; omega
        · simp; omega
      · have hn' : n ∈ noteW o.2.2.1 (touched o.2.2.2.2 x.2.1) x.2.2 := hn
        unfold noteW at hn'
        have htl := touched_len o.2.2.2.2 x.2.1
        have := ho.2.1
        split at hn'
        · rcases List.mem_append.1 hn' with h | h
          · exact h3 n h
          · rw [List.mem_singleton.1 h]; show (touched _ _).length ≤ _; omega
        · rcases List.mem_append.1 hn' with h | h
          · exact h3 n (List.mem_of_mem_take h)
          · rw [List.mem_singleton.1 h]; simp
  split
  · unfold takeW
    split
    · rename_i w hw
      split
      · exact hH
      · refine ⟨by simp; exact hH.1, fun x hx => ?_⟩
        rcases List.mem_or_eq_of_mem_set hx with h | h
        · exact hH.2 x h
        · obtain ⟨h1, h2, h3⟩ := hH.2 w (List.mem_of_getElem? hw)
          subst h
          exact ⟨h1, by simp; omega, fun n hn => h3 n (List.mem_of_mem_drop hn)⟩
    · exact hH
  · exact hH
theorem ne_self_f {α : Type} [DecidableEq α] (a : α) : decide (a ≠ a) = false := decide_eq_false fun h => h rfl
theorem small_nil : SmallW [] := ⟨Nat.zero_le _, fun w hw => (List.not_mem_nil hw).elim⟩
theorem getW_at {H : List Wr} (id : Int) : (getW H id).isSome = decide (0 ≤ atW H id) := by
  unfold getW
  rcases atW_cases (H := H) id with ⟨h1, _⟩ | ⟨i, hi, h1, _⟩
  · rw [if_neg (by omega), h1]; rfl
  · rw [if_pos (by omega), h1, Int.toNat_natCast, List.getElem?_eq_getElem hi]
    simp
attribute [local irreducible] Cfg Kont StepK Val Con Qops Any Sl Own Blk BlkR Rd Pu ExA AllA Has Pick Ent Elem Beside Callable TI Lone

set_option maxRecDepth 100000 in
theorem watchAll_con (v : Value) (l : List Op13) (hl : l.length ≤ 8796093022207) (ho : ∀ o ∈ l, SmallO o) : Con Try.prog 3 [v] [Sl eOp v l] (γ := Unit) (fun _ => .bool true) (fun _ => True) (fun _ => []) := by
  refine con_of Try.func3 rfl (Nat.le_of_ble_eq_true rfl) fun w0 O0 => ?_
  refine c_seq ?_
  refine c_region ?_
  refine o_val (v_assign rfl) (Nat.le_of_ble_eq_true rfl) ?_
  refine o_nil ?_
  refine c_seq ?_
  refine c_seq ?_
  refine c_region ?_
  refine o_val (v_move rfl) (Nat.le_of_ble_eq_true rfl) ?_
  refine o_step (s_callf cl15 (few_con v l hl (fun x hx => (ho x hx).2.1)) rfl (Nat.le_of_ble_eq_true rfl) (by repeat (first | exact Picks.nil | (apply Picks.cons; · repeat (first | exact Pick.keep (Sl.isDup _ _ _) | exact Pick.keep (BlkR.isDup _ _ _) | exact Pick.keep (FldCell.isDup _ _) | exact Pick.here | exact Pick.own_sl | exact Pick.apd_sl | exact Pick.r_blk | exact Pick.sl_nil | exact Pick.own_nil | exact Pick.map_itO _ | apply Pick.there)))) fun few hfew => ?_)
  refine o_val (v_not rfl) (Nat.le_of_ble_eq_true rfl) ?_
  refine o_nil ?_
  cases few with
  | false =>
    refine c_cond_t rfl ?_
    refine c_seq ?_
    refine c_region ?_
    refine o_step (s_callf cl16 (alive_con) rfl (Nat.le_of_ble_eq_true rfl) (by repeat (first | exact Picks.nil | (apply Picks.cons; · repeat (first | exact Pick.keep (Sl.isDup _ _ _) | exact Pick.keep (BlkR.isDup _ _ _) | exact Pick.keep (FldCell.isDup _ _) | exact Pick.here | exact Pick.own_sl | exact Pick.apd_sl | exact Pick.r_blk | exact Pick.sl_nil | exact Pick.own_nil | exact Pick.map_itO _ | apply Pick.there)))) fun _ _ => ?_)
    refine o_val (v_assign rfl) (Nat.le_of_ble_eq_true rfl) ?_
    refine o_nil ?_
    refine c_ret1 Try.func3 rfl rfl fun w O hS => ?_
    exact ⟨(), rfl, trivial, trivial⟩
  | true =>
    have hl60 := hfew rfl
    refine c_cond_f rfl ?_
    refine c_skip ?_
    refine c_seq ?_
    refine c_region ?_
    refine o_val (v_buildS (places := [(0, 1)]) (cells := [.map none]) Try.underlying28 ti28 (by kernel_rfl) rfl (by repeat (first | exact PartsC.nil | (apply PartsC.one (by first | exact OneC.lit rfl | exact OneC.sl (by repeat (first | exact Has.here | exact Has.sl_apd | exact Has.sl_own | exact Has.r_blk | apply Has.there)))) | (apply PartsC.lit rfl))) rfl) (Nat.le_of_ble_eq_true rfl) ?_
    refine o_step (s_box rfl (Nat.le_of_ble_eq_true rfl) (fun b22 => ?_))
    refine o_val (v_assign rfl) (Nat.le_of_ble_eq_true rfl) ?_
    refine o_nil ?_
    refine c_seq ?_
    refine c_region ?_
    refine o_val (v_assign rfl) (Nat.le_of_ble_eq_true rfl) ?_
    refine o_nil ?_
    refine c_seq ?_
    refine c_seq ?_
    refine c_region ?_
    refine o_val (v_move rfl) (Nat.le_of_ble_eq_true rfl) ?_
    refine o_val ((by first | exact v_len_form Try.underlying22 rfl | exact v_len_sl Try.underlying22 rfl (by repeat (first | exact Has.here | exact Has.sl_apd | exact Has.sl_own | exact Has.r_blk | apply Has.there)))) (Nat.le_of_ble_eq_true rfl) ?_
    refine o_val (v_move rfl) (Nat.le_of_ble_eq_true rfl) ?_
    refine o_nil ?_
    refine c_block ?_
    refine c_mk (hub_new (L := []) (h := b22)) (by repeat (first | exact Picks.nil | (apply Picks.cons; · repeat (first | exact Pick.keep (Sl.isDup _ _ _) | exact Pick.keep (BlkR.isDup _ _ _) | exact Pick.keep (FldCell.isDup _ _) | exact Pick.here | exact Pick.own_sl | exact Pick.apd_sl | exact Pick.r_blk | exact Pick.sl_nil | exact Pick.own_nil | exact Pick.map_itO _ | apply Pick.there)))) ?_
    refine c_loopR (γ := Nat × Nat × Value × List Wr) [(2, _), (23, _), (24, _)] (fun g => l.length - g.1) (fun g => g.1 ≤ l.length ∧ SmallW g.2.2.2 ∧ Rising g.2.2.2) (fun g => [(25, .int .i64 g.1), (3, .pointer (some ⟨g.2.1, 0, none⟩)), (4, g.2.2.1)]) (fun g => [HubA g.2.1 g.2.2.2, Sl eWr g.2.2.1 g.2.2.2, Sl eOp v l]) ((0, b22, .slice none 0 0, [])) (⟨Nat.zero_le _, small_nil, List.Pairwise.nil⟩) (by repeat (first | exact trivial | refine ⟨rfl, ?_⟩)) (Picks.ent (by repeat (first | exact Picks.nil | (apply Picks.cons; · repeat (first | exact Pick.keep (Sl.isDup _ _ _) | exact Pick.keep (BlkR.isDup _ _ _) | exact Pick.keep (FldCell.isDup _ _) | exact Pick.here | exact Pick.own_sl | exact Pick.apd_sl | exact Pick.r_blk | exact Pick.sl_nil | exact Pick.own_nil | exact Pick.map_itO _ | apply Pick.there))))) ?_
    rintro ⟨i, h, lv, H⟩ ⟨hi, hH, hr⟩ IH
    dsimp only at hi hH hr ⊢
    try dsimp only [List.cons_append, List.nil_append]
    refine c_seq ?_
    refine c_region ?_
    refine o_val (v_lt rfl rfl) (Nat.le_of_ble_eq_true rfl) ?_
    refine o_nil ?_
    refine c_seq ?_
    refine c_cond_p rfl (fun hlt => ?_) (fun hlt => ?_)
    · have hi' : i < l.length := by omega
      have ho' := ho _ (List.getElem_mem hi')
      have hd1 := done_small hr hH ho'
      have hd2 := done_rising hr l[i]
      have hd3 : (doneW H l[i]).length ≤ 12 := hd1.1
      refine c_skip ?_
      refine c_seq ?_
      refine c_block ?_
      refine c_seq ?_
      refine c_region ?_
      refine o_val ((by first | exact v_indexAddrN Try.underlying22 ti32 rfl rfl (by repeat (first | exact Has.here | exact Has.sl_apd | exact Has.sl_own | exact Has.r_blk | apply Has.there)) (by omega) | exact v_indexAddr Try.underlying22 ti32 rfl rfl (by repeat (first | exact Has.here | exact Has.sl_apd | exact Has.sl_own | exact Has.r_blk | apply Has.there)) (by omega))) (Nat.le_of_ble_eq_true rfl) ?_
      refine o_step (s_load_shape ⟨_, Try.underlying32⟩ ti32 rfl (Nat.le_of_ble_eq_true rfl) (by repeat (first | exact Elem.sl (List.getElem?_eq_getElem (by omega)) | exact Elem.own (List.getElem?_eq_getElem (by omega)) | apply Elem.there)) (op_open) (fun c => ?_))
      refine o_step (s_alloc ti32 (Nat.le_of_ble_eq_true rfl) (fun b6 => ?_))
      refine o_step (s_store_all ti32 rfl rfl (by first | exact CellsV.lit rfl | exact CellsV.one (by first | exact OneC.lit rfl | exact OneC.sl (by repeat (first | exact Has.here | exact Has.sl_apd | exact Has.sl_own | exact Has.r_blk | apply Has.there)))) (by repeat (first | exact OneAll.nil | (refine OneAll.cons ?_ ?_; · first | exact OneC.lit rfl | exact OneC.sl (by repeat (first | exact Has.here | exact Has.sl_apd | exact Has.sl_own | exact Has.r_blk | apply Has.there))) | exact OneAll.rd (by repeat (first | exact Has.here | exact Has.sl_apd | exact Has.sl_own | exact Has.r_blk | apply Has.there)))) rfl (by repeat (first | exact Pick.here | exact Pick.own_nil | apply Pick.there)) rfl (?_))
      refine o_nil ?_
      refine c_seq ?_
      refine c_region ?_
      refine o_val (v_move rfl) (Nat.le_of_ble_eq_true rfl) ?_
      refine o_val (v_move rfl) (Nat.le_of_ble_eq_true rfl) ?_
      refine o_val (v_load_all ⟨_, Try.underlying32⟩ ti32 rfl (by repeat (first | exact Has.here | exact Has.sl_apd | exact Has.sl_own | exact Has.r_blk | apply Has.there)) rfl) (Nat.le_of_ble_eq_true rfl) ?_
      refine o_step (s_callf cl17 (does_con h lv H l[i].1 l[i].2.1 l[i].2.2.1 l[i].2.2.2.1 c l[i].2.2.2.2 hH ho') rfl (Nat.le_of_ble_eq_true rfl) (by repeat (first | exact Picks.nil | (apply Picks.cons; · repeat (first | exact Pick.keep (Sl.isDup _ _ _) | exact Pick.keep (BlkR.isDup _ _ _) | exact Pick.keep (FldCell.isDup _ _) | exact Pick.here | exact Pick.own_sl | exact Pick.apd_sl | exact Pick.r_blk | exact Pick.sl_nil | exact Pick.own_nil | exact Pick.map_itO _ | apply Pick.there)))) fun r _ => ?_)
      refine o_val (v_move rfl) (Nat.le_of_ble_eq_true rfl) ?_
      refine o_val (v_extract rfl rfl) (Nat.le_of_ble_eq_true rfl) ?_
      refine o_val (v_extract rfl rfl) (Nat.le_of_ble_eq_true rfl) ?_
      refine o_val (v_extract rfl rfl) (Nat.le_of_ble_eq_true rfl) ?_
      refine o_val (v_assign rfl) (Nat.le_of_ble_eq_true rfl) ?_
      refine o_val (v_assign rfl) (Nat.le_of_ble_eq_true rfl) ?_
      refine o_val (v_assign rfl) (Nat.le_of_ble_eq_true rfl) ?_
      refine o_nil ?_
      refine c_seq ?_
      refine c_region ?_
      refine o_val (v_move rfl) (Nat.le_of_ble_eq_true rfl) ?_
      refine o_val (v_move rfl) (Nat.le_of_ble_eq_true rfl) ?_
      refine o_val (v_assign rfl) (Nat.le_of_ble_eq_true rfl) ?_
      refine o_val (v_assign rfl) (Nat.le_of_ble_eq_true rfl) ?_
      refine o_nil ?_
      refine c_seq ?_
      refine c_region ?_
      refine o_val (v_move rfl) (Nat.le_of_ble_eq_true rfl) ?_
      refine o_step (s_callf cl18 (ids_con r.1 (doneW H l[i]) (by omega)) rfl (Nat.le_of_ble_eq_true rfl) (by repeat (first | exact Picks.nil | (apply Picks.cons; · repeat (first | exact Pick.keep (Sl.isDup _ _ _) | exact Pick.keep (BlkR.isDup _ _ _) | exact Pick.keep (FldCell.isDup _ _) | exact Pick.here | exact Pick.own_sl | exact Pick.apd_sl | exact Pick.r_blk | exact Pick.sl_nil | exact Pick.own_nil | exact Pick.map_itO _ | apply Pick.there)))) fun ids _ => ?_)
      refine o_val (v_assign rfl) (Nat.le_of_ble_eq_true rfl) ?_
      refine o_nil ?_
      refine c_seq ?_
      refine c_seq ?_
      refine c_region ?_
      refine o_val (v_move rfl) (Nat.le_of_ble_eq_true rfl) ?_
      refine o_val (v_not rfl) (Nat.le_of_ble_eq_true rfl) ?_
      refine o_val (v_move rfl) (Nat.le_of_ble_eq_true rfl) ?_
      have hil : ((doneW H l[i]).map fun w : Wr => w.1).length = (doneW H l[i]).length := by simp
      rw [show (l[i].1, l[i].2.1, l[i].2.2.1, l[i].2.2.2.1, l[i].2.2.2.2) = l[i] from rfl]
      generalize hG : doneW H l[i] = G at hd1 hd2 hd3 hil ⊢
      obtain ⟨h', lv'⟩ := r
      refine o_guard rfl rfl (fun _ => ?_) (fun h_ => absurd ((show _ = false from rfl).symm.trans h_) (by decide))
      refine o_val (v_move rfl) (Nat.le_of_ble_eq_true rfl) ?_
      refine o_on rfl rfl ?_
      refine o_val ((by first | exact v_len_form Try.underlying35 rfl | exact v_len_sl Try.underlying35 rfl (by repeat (first | exact Has.here | exact Has.sl_apd | exact Has.sl_own | exact Has.r_blk | apply Has.there)))) (Nat.le_of_ble_eq_true rfl) ?_
      refine o_on rfl rfl ?_
      refine o_val (v_move rfl) (Nat.le_of_ble_eq_true rfl) ?_
      refine o_on rfl rfl ?_
      refine o_val ((by first | exact v_len_form Try.underlying29 rfl | exact v_len_sl Try.underlying29 rfl (by repeat (first | exact Has.here | exact Has.sl_apd | exact Has.sl_own | exact Has.r_blk | apply Has.there)))) (Nat.le_of_ble_eq_true rfl) ?_
      refine o_on rfl rfl ?_
      refine o_val (v_ne rfl rfl) (Nat.le_of_ble_eq_true rfl) ?_
      refine o_val (v_pick_f rfl rfl) (Nat.le_of_ble_eq_true rfl) ?_
      refine o_nil ?_
      rw [hil]
      simp only [ne_self_f, List.getElem_toArray, List.getElem_cons_zero, List.getElem_cons_succ]
      refine c_cond_f rfl ?_
      refine c_skip ?_
      refine c_seq ?_
      refine c_seq ?_
      refine c_region ?_
      refine o_val (v_move rfl) (Nat.le_of_ble_eq_true rfl) ?_
      refine o_val ((by first | exact v_len_form Try.underlying29 rfl | exact v_len_sl Try.underlying29 rfl (by repeat (first | exact Has.here | exact Has.sl_apd | exact Has.sl_own | exact Has.r_blk | apply Has.there)))) (Nat.le_of_ble_eq_true rfl) ?_
      refine o_val (v_move rfl) (Nat.le_of_ble_eq_true rfl) ?_
      refine o_nil ?_
      refine c_block ?_
      refine c_loopR (γ := Nat) [(2, _), (3, _), (4, _), (6, _), (7, _), (8, _), (9, _), (10, _), (23, _), (24, _), (25, _), (26, _), (27, _), (28, _), (29, _), (30, _), (31, _), (32, _), (33, _), (34, _), (35, _), (36, _), (37, _), (38, _), (39, _), (40, _), (41, _), (42, _), (43, _), (44, _), (45, _), (46, _), (47, _), (48, _), (49, _), (50, _), (51, _)] (fun j => G.length - j) (fun j => j ≤ G.length) (fun j => [(52, .int .i64 j)]) (fun _ => [Own (eInt .i64) 3 ids (G.map fun w : Wr => w.1), HubA h' G, Sl eWr lv' G, Blk b6 32 [.int .i64 l[i].1, .int .i64 l[i].2.1, .int .i64 l[i].2.2.1, .string l[i].2.2.2.1, c], Sl eOp v l]) (0) (Nat.zero_le _) (by repeat (first | exact trivial | refine ⟨rfl, ?_⟩)) (Picks.ent (by repeat (first | exact Picks.nil | (apply Picks.cons; · repeat (first | exact Pick.keep (Sl.isDup _ _ _) | exact Pick.keep (BlkR.isDup _ _ _) | exact Pick.keep (FldCell.isDup _ _) | exact Pick.here | exact Pick.own_sl | exact Pick.apd_sl | exact Pick.r_blk | exact Pick.sl_nil | exact Pick.own_nil | exact Pick.map_itO _ | apply Pick.there))))) ?_
      rintro j hj IH2
      try dsimp only [List.cons_append, List.nil_append]
      refine c_seq ?_
      refine c_region ?_
      refine o_val (v_lt rfl rfl) (Nat.le_of_ble_eq_true rfl) ?_
      refine o_nil ?_
      refine c_seq ?_
      refine c_cond_p rfl (fun hlt2 => ?_) (fun hlt2 => ?_)
      · have hj' : j < G.length := by omega
        refine c_skip ?_
        refine c_seq ?_
        refine c_block ?_
        refine c_seq ?_
        refine c_region ?_
        refine o_val (v_move rfl) (Nat.le_of_ble_eq_true rfl) ?_
        refine o_val ((by first | exact v_indexAddrN Try.underlying29 ti39 rfl rfl (by repeat (first | exact Has.here | exact Has.sl_apd | exact Has.sl_own | exact Has.r_blk | apply Has.there)) (by omega) | exact v_indexAddr Try.underlying29 ti39 rfl rfl (by repeat (first | exact Has.here | exact Has.sl_apd | exact Has.sl_own | exact Has.r_blk | apply Has.there)) (by omega))) (Nat.le_of_ble_eq_true rfl) ?_
        refine o_step (s_load_shape ⟨_, Try.underlying39⟩ ti39 rfl (Nat.le_of_ble_eq_true rfl) (by repeat (first | exact Elem.sl (List.getElem?_eq_getElem (by omega)) | exact Elem.own (List.getElem?_eq_getElem (by omega)) | apply Elem.there)) (wr_open) (fun c2 => ?_))
        refine o_step (s_alloc ti39 (Nat.le_of_ble_eq_true rfl) (fun b12 => ?_))
        refine o_val (v_assign rfl) (Nat.le_of_ble_eq_true rfl) ?_
        refine o_step (s_store_all ti39 rfl rfl (by first | exact CellsV.lit rfl | exact CellsV.one (by first | exact OneC.lit rfl | exact OneC.sl (by repeat (first | exact Has.here | exact Has.sl_apd | exact Has.sl_own | exact Has.r_blk | apply Has.there)))) (by repeat (first | exact OneAll.nil | (refine OneAll.cons ?_ ?_; · first | exact OneC.lit rfl | exact OneC.sl (by repeat (first | exact Has.here | exact Has.sl_apd | exact Has.sl_own | exact Has.r_blk | apply Has.there))) | exact OneAll.rd (by repeat (first | exact Has.here | exact Has.sl_apd | exact Has.sl_own | exact Has.r_blk | apply Has.there)))) rfl (by repeat (first | exact Pick.here | exact Pick.own_nil | apply Pick.there)) rfl (?_))
        refine o_nil ?_
        refine c_seq ?_
        refine c_region ?_
        refine o_val (v_move rfl) (Nat.le_of_ble_eq_true rfl) ?_
        refine o_val (v_fieldAddrC 0 Try.underlying39 rfl ti3 (by decide) rfl) (Nat.le_of_ble_eq_true rfl) ?_
        refine o_val (v_load lone3 rfl (by repeat (first | exact Has.here | exact Has.sl_apd | exact Has.sl_own | exact Has.r_blk | apply Has.there)) rfl) (Nat.le_of_ble_eq_true rfl) ?_
        refine o_step (s_callf cl19 (prefix_con h' G G[j].1) rfl (Nat.le_of_ble_eq_true rfl) (by repeat (first | exact Picks.nil | (apply Picks.cons; · repeat (first | exact Pick.keep (Sl.isDup _ _ _) | exact Pick.keep (BlkR.isDup _ _ _) | exact Pick.keep (FldCell.isDup _ _) | exact Pick.here | exact Pick.own_sl | exact Pick.apd_sl | exact Pick.r_blk | exact Pick.sl_nil | exact Pick.own_nil | exact Pick.map_itO _ | apply Pick.there)))) fun _ _ => ?_)
        refine o_val (v_move rfl) (Nat.le_of_ble_eq_true rfl) ?_
        refine o_val (v_extract rfl rfl) (Nat.le_of_ble_eq_true rfl) ?_
        refine o_val (v_extract rfl rfl) (Nat.le_of_ble_eq_true rfl) ?_
        refine o_val (v_assign rfl) (Nat.le_of_ble_eq_true rfl) ?_
        refine o_val (v_assign rfl) (Nat.le_of_ble_eq_true rfl) ?_
        refine o_nil ?_
        refine c_seq ?_
        rw [getW_some hd2 (List.getElem_mem hj')]
        dsimp only [Option.map_some, Option.getD_some, Option.isSome_some]
        refine c_held [Sl (eInt .i64) ids (G.map fun w : Wr => w.1), BlkR b12 39 [.int .i64 G[j].1, .string G[j].2.1, c2], Sl eNt c2 G[j].2.2] rfl ?_
        refine a_take 0 rfl (by kernel_rfl) (by kernel_rfl) (by kernel_rfl) (v_move rfl) (Picks.ent (by repeat (first | exact Picks.nil | (apply Picks.cons; · repeat (first | exact Pick.keep (Sl.isDup _ _ _) | exact Pick.keep (BlkR.isDup _ _ _) | exact Pick.keep (FldCell.isDup _ _) | exact Pick.here | exact Pick.own_sl | exact Pick.apd_sl | exact Pick.r_blk | exact Pick.sl_nil | exact Pick.own_nil | exact Pick.map_itO _ | apply Pick.there))))) (Nat.le_of_ble_eq_true rfl) ?_
        refine a_take 1 rfl (by kernel_rfl) (by kernel_rfl) (by kernel_rfl) (v_move rfl) (Picks.ent (by repeat (first | exact Picks.nil | (apply Picks.cons; · repeat (first | exact Pick.keep (Sl.isDup _ _ _) | exact Pick.keep (BlkR.isDup _ _ _) | exact Pick.keep (FldCell.isDup _ _) | exact Pick.here | exact Pick.own_sl | exact Pick.apd_sl | exact Pick.r_blk | exact Pick.sl_nil | exact Pick.own_nil | exact Pick.map_itO _ | apply Pick.there))))) (Nat.le_of_ble_eq_true rfl) ?_
        refine a_take 2 rfl (by kernel_rfl) (by kernel_rfl) (by kernel_rfl) ((by first | exact v_indexAddrN Try.underlying35 ti3 rfl rfl (by repeat (first | exact Has.here | exact Has.sl_apd | exact Has.sl_own | exact Has.r_blk | apply Has.there)) (by omega) | exact v_indexAddr Try.underlying35 ti3 rfl rfl (by repeat (first | exact Has.here | exact Has.sl_apd | exact Has.sl_own | exact Has.r_blk | apply Has.there)) (by omega))) (Picks.ent (by repeat (first | exact Picks.nil | (apply Picks.cons; · repeat (first | exact Pick.keep (Sl.isDup _ _ _) | exact Pick.keep (BlkR.isDup _ _ _) | exact Pick.keep (FldCell.isDup _ _) | exact Pick.here | exact Pick.own_sl | exact Pick.apd_sl | exact Pick.r_blk | exact Pick.sl_nil | exact Pick.own_nil | exact Pick.map_itO _ | apply Pick.there))))) (Nat.le_of_ble_eq_true rfl) ?_
        refine a_take 3 rfl (by kernel_rfl) (by kernel_rfl) (by kernel_rfl) (v_load_int lone3 rfl (by repeat (first | exact Elem.sl (List.getElem?_eq_getElem (by omega)) | exact Elem.own (List.getElem?_eq_getElem (by omega)) | apply Elem.there))) (Picks.ent (by repeat (first | exact Picks.nil | (apply Picks.cons; · repeat (first | exact Pick.keep (Sl.isDup _ _ _) | exact Pick.keep (BlkR.isDup _ _ _) | exact Pick.keep (FldCell.isDup _ _) | exact Pick.here | exact Pick.own_sl | exact Pick.apd_sl | exact Pick.r_blk | exact Pick.sl_nil | exact Pick.own_nil | exact Pick.map_itO _ | apply Pick.there))))) (Nat.le_of_ble_eq_true rfl) ?_
        refine a_take 4 rfl (by kernel_rfl) (by kernel_rfl) (by kernel_rfl) (v_fieldAddrC 0 Try.underlying39 rfl ti3 (by decide) rfl) (Picks.ent (by repeat (first | exact Picks.nil | (apply Picks.cons; · repeat (first | exact Pick.keep (Sl.isDup _ _ _) | exact Pick.keep (BlkR.isDup _ _ _) | exact Pick.keep (FldCell.isDup _ _) | exact Pick.here | exact Pick.own_sl | exact Pick.apd_sl | exact Pick.r_blk | exact Pick.sl_nil | exact Pick.own_nil | exact Pick.map_itO _ | apply Pick.there))))) (Nat.le_of_ble_eq_true rfl) ?_
        refine a_take 5 rfl (by kernel_rfl) (by kernel_rfl) (by kernel_rfl) (v_load lone3 rfl (by repeat (first | exact Has.here | exact Has.sl_apd | exact Has.sl_own | exact Has.r_blk | apply Has.there)) rfl) (Picks.ent (by repeat (first | exact Picks.nil | (apply Picks.cons; · repeat (first | exact Pick.keep (Sl.isDup _ _ _) | exact Pick.keep (BlkR.isDup _ _ _) | exact Pick.keep (FldCell.isDup _ _) | exact Pick.here | exact Pick.own_sl | exact Pick.apd_sl | exact Pick.r_blk | exact Pick.sl_nil | exact Pick.own_nil | exact Pick.map_itO _ | apply Pick.there))))) (Nat.le_of_ble_eq_true rfl) ?_
        refine a_take 6 rfl (by kernel_rfl) (by kernel_rfl) (by kernel_rfl) (v_ne rfl rfl) (Picks.ent (by repeat (first | exact Picks.nil | (apply Picks.cons; · repeat (first | exact Pick.keep (Sl.isDup _ _ _) | exact Pick.keep (BlkR.isDup _ _ _) | exact Pick.keep (FldCell.isDup _ _) | exact Pick.here | exact Pick.own_sl | exact Pick.apd_sl | exact Pick.r_blk | exact Pick.sl_nil | exact Pick.own_nil | exact Pick.map_itO _ | apply Pick.there))))) (Nat.le_of_ble_eq_true rfl) ?_
        refine a_take 7 rfl (by kernel_rfl) (by kernel_rfl) (by kernel_rfl) (v_move rfl) (Picks.ent (by repeat (first | exact Picks.nil | (apply Picks.cons; · repeat (first | exact Pick.keep (Sl.isDup _ _ _) | exact Pick.keep (BlkR.isDup _ _ _) | exact Pick.keep (FldCell.isDup _ _) | exact Pick.here | exact Pick.own_sl | exact Pick.apd_sl | exact Pick.r_blk | exact Pick.sl_nil | exact Pick.own_nil | exact Pick.map_itO _ | apply Pick.there))))) (Nat.le_of_ble_eq_true rfl) ?_
        refine a_know (s := 71) rfl (show _ = Value.bool false from by simp) ?_
        refine a_take_on 8 rfl rfl rfl (by kernel_rfl) (by kernel_rfl) (by kernel_rfl) (v_move rfl) (Picks.ent (by repeat (first | exact Picks.nil | (apply Picks.cons; · repeat (first | exact Pick.keep (Sl.isDup _ _ _) | exact Pick.keep (BlkR.isDup _ _ _) | exact Pick.keep (FldCell.isDup _ _) | exact Pick.here | exact Pick.own_sl | exact Pick.apd_sl | exact Pick.r_blk | exact Pick.sl_nil | exact Pick.own_nil | exact Pick.map_itO _ | apply Pick.there))))) (Nat.le_of_ble_eq_true rfl) ?_
        refine a_take_on 9 rfl rfl rfl (by kernel_rfl) (by kernel_rfl) (by kernel_rfl) (v_fieldAddrC 1 Try.underlying39 rfl ti9 (by decide) rfl) (Picks.ent (by repeat (first | exact Picks.nil | (apply Picks.cons; · repeat (first | exact Pick.keep (Sl.isDup _ _ _) | exact Pick.keep (BlkR.isDup _ _ _) | exact Pick.keep (FldCell.isDup _ _) | exact Pick.here | exact Pick.own_sl | exact Pick.apd_sl | exact Pick.r_blk | exact Pick.sl_nil | exact Pick.own_nil | exact Pick.map_itO _ | apply Pick.there))))) (Nat.le_of_ble_eq_true rfl) ?_
        refine a_take_on 10 rfl rfl rfl (by kernel_rfl) (by kernel_rfl) (by kernel_rfl) (v_load lone9 rfl (by repeat (first | exact Has.here | exact Has.sl_apd | exact Has.sl_own | exact Has.r_blk | apply Has.there)) rfl) (Picks.ent (by repeat (first | exact Picks.nil | (apply Picks.cons; · repeat (first | exact Pick.keep (Sl.isDup _ _ _) | exact Pick.keep (BlkR.isDup _ _ _) | exact Pick.keep (FldCell.isDup _ _) | exact Pick.here | exact Pick.own_sl | exact Pick.apd_sl | exact Pick.r_blk | exact Pick.sl_nil | exact Pick.own_nil | exact Pick.map_itO _ | apply Pick.there))))) (Nat.le_of_ble_eq_true rfl) ?_
        refine a_take_on 11 rfl rfl rfl (by kernel_rfl) (by kernel_rfl) (by kernel_rfl) (v_sne rfl rfl) (Picks.ent (by repeat (first | exact Picks.nil | (apply Picks.cons; · repeat (first | exact Pick.keep (Sl.isDup _ _ _) | exact Pick.keep (BlkR.isDup _ _ _) | exact Pick.keep (FldCell.isDup _ _) | exact Pick.here | exact Pick.own_sl | exact Pick.apd_sl | exact Pick.r_blk | exact Pick.sl_nil | exact Pick.own_nil | exact Pick.map_itO _ | apply Pick.there))))) (Nat.le_of_ble_eq_true rfl) ?_
        refine a_take 12 rfl (by kernel_rfl) (by kernel_rfl) (by kernel_rfl) (v_pick_f rfl rfl) (Picks.ent (by repeat (first | exact Picks.nil | (apply Picks.cons; · repeat (first | exact Pick.keep (Sl.isDup _ _ _) | exact Pick.keep (BlkR.isDup _ _ _) | exact Pick.keep (FldCell.isDup _ _) | exact Pick.here | exact Pick.own_sl | exact Pick.apd_sl | exact Pick.r_blk | exact Pick.sl_nil | exact Pick.own_nil | exact Pick.map_itO _ | apply Pick.there))))) (Nat.le_of_ble_eq_true rfl) ?_
        refine a_take 13 rfl (by kernel_rfl) (by kernel_rfl) (by kernel_rfl) (v_move rfl) (Picks.ent (by repeat (first | exact Picks.nil | (apply Picks.cons; · repeat (first | exact Pick.keep (Sl.isDup _ _ _) | exact Pick.keep (BlkR.isDup _ _ _) | exact Pick.keep (FldCell.isDup _ _) | exact Pick.here | exact Pick.own_sl | exact Pick.apd_sl | exact Pick.r_blk | exact Pick.sl_nil | exact Pick.own_nil | exact Pick.map_itO _ | apply Pick.there))))) (Nat.le_of_ble_eq_true rfl) ?_
        refine a_know (s := 77) rfl (show _ = Value.bool false from by simp) ?_
        refine a_take_on 14 rfl rfl rfl (by kernel_rfl) (by kernel_rfl) (by kernel_rfl) (v_move rfl) (Picks.ent (by repeat (first | exact Picks.nil | (apply Picks.cons; · repeat (first | exact Pick.keep (Sl.isDup _ _ _) | exact Pick.keep (BlkR.isDup _ _ _) | exact Pick.keep (FldCell.isDup _ _) | exact Pick.here | exact Pick.own_sl | exact Pick.apd_sl | exact Pick.r_blk | exact Pick.sl_nil | exact Pick.own_nil | exact Pick.map_itO _ | apply Pick.there))))) (Nat.le_of_ble_eq_true rfl) ?_
        refine a_take_on 15 rfl rfl rfl (by kernel_rfl) (by kernel_rfl) (by kernel_rfl) (v_not rfl) (Picks.ent (by repeat (first | exact Picks.nil | (apply Picks.cons; · repeat (first | exact Pick.keep (Sl.isDup _ _ _) | exact Pick.keep (BlkR.isDup _ _ _) | exact Pick.keep (FldCell.isDup _ _) | exact Pick.here | exact Pick.own_sl | exact Pick.apd_sl | exact Pick.r_blk | exact Pick.sl_nil | exact Pick.own_nil | exact Pick.map_itO _ | apply Pick.there))))) (Nat.le_of_ble_eq_true rfl) ?_
        refine a_take 16 rfl (by kernel_rfl) (by kernel_rfl) (by kernel_rfl) (v_pick_f rfl rfl) (Picks.ent (by repeat (first | exact Picks.nil | (apply Picks.cons; · repeat (first | exact Pick.keep (Sl.isDup _ _ _) | exact Pick.keep (BlkR.isDup _ _ _) | exact Pick.keep (FldCell.isDup _ _) | exact Pick.here | exact Pick.own_sl | exact Pick.apd_sl | exact Pick.r_blk | exact Pick.sl_nil | exact Pick.own_nil | exact Pick.map_itO _ | apply Pick.there))))) (Nat.le_of_ble_eq_true rfl) ?_
        refine a_take 17 rfl (by kernel_rfl) (by kernel_rfl) (by kernel_rfl) (v_move rfl) (Picks.ent (by repeat (first | exact Picks.nil | (apply Picks.cons; · repeat (first | exact Pick.keep (Sl.isDup _ _ _) | exact Pick.keep (BlkR.isDup _ _ _) | exact Pick.keep (FldCell.isDup _ _) | exact Pick.here | exact Pick.own_sl | exact Pick.apd_sl | exact Pick.r_blk | exact Pick.sl_nil | exact Pick.own_nil | exact Pick.map_itO _ | apply Pick.there))))) (Nat.le_of_ble_eq_true rfl) ?_
        refine a_know (s := 81) rfl (show _ = Value.bool false from by simp) ?_
        refine a_take_on 18 rfl rfl rfl (by kernel_rfl) (by kernel_rfl) (by kernel_rfl) (v_move rfl) (Picks.ent (by repeat (first | exact Picks.nil | (apply Picks.cons; · repeat (first | exact Pick.keep (Sl.isDup _ _ _) | exact Pick.keep (BlkR.isDup _ _ _) | exact Pick.keep (FldCell.isDup _ _) | exact Pick.here | exact Pick.own_sl | exact Pick.apd_sl | exact Pick.r_blk | exact Pick.sl_nil | exact Pick.own_nil | exact Pick.map_itO _ | apply Pick.there))))) (Nat.le_of_ble_eq_true rfl) ?_
        refine a_take_on 19 rfl rfl rfl (by kernel_rfl) (by kernel_rfl) (by kernel_rfl) (v_fieldAddrC 0 Try.underlying39 rfl ti3 (by decide) rfl) (Picks.ent (by repeat (first | exact Picks.nil | (apply Picks.cons; · repeat (first | exact Pick.keep (Sl.isDup _ _ _) | exact Pick.keep (BlkR.isDup _ _ _) | exact Pick.keep (FldCell.isDup _ _) | exact Pick.here | exact Pick.own_sl | exact Pick.apd_sl | exact Pick.r_blk | exact Pick.sl_nil | exact Pick.own_nil | exact Pick.map_itO _ | apply Pick.there))))) (Nat.le_of_ble_eq_true rfl) ?_
        refine a_take_on 20 rfl rfl rfl (by kernel_rfl) (by kernel_rfl) (by kernel_rfl) (v_load lone3 rfl (by repeat (first | exact Has.here | exact Has.sl_apd | exact Has.sl_own | exact Has.r_blk | apply Has.there)) rfl) (Picks.ent (by repeat (first | exact Picks.nil | (apply Picks.cons; · repeat (first | exact Pick.keep (Sl.isDup _ _ _) | exact Pick.keep (BlkR.isDup _ _ _) | exact Pick.keep (FldCell.isDup _ _) | exact Pick.here | exact Pick.own_sl | exact Pick.apd_sl | exact Pick.r_blk | exact Pick.sl_nil | exact Pick.own_nil | exact Pick.map_itO _ | apply Pick.there))))) (Nat.le_of_ble_eq_true rfl) ?_
        refine a_take_on 22 rfl rfl rfl (by kernel_rfl) (by kernel_rfl) (by kernel_rfl) (v_fieldAddrC 2 Try.underlying39 rfl ti37 (by decide) rfl) (Picks.ent (by repeat (first | exact Picks.nil | (apply Picks.cons; · repeat (first | exact Pick.keep (Sl.isDup _ _ _) | exact Pick.keep (BlkR.isDup _ _ _) | exact Pick.keep (FldCell.isDup _ _) | exact Pick.here | exact Pick.own_sl | exact Pick.apd_sl | exact Pick.r_blk | exact Pick.sl_nil | exact Pick.own_nil | exact Pick.map_itO _ | apply Pick.there))))) (Nat.le_of_ble_eq_true rfl) ?_
        refine a_take_on 23 rfl rfl rfl (by kernel_rfl) (by kernel_rfl) (by kernel_rfl) (v_load lone37 rfl (by repeat (first | exact Has.here | exact Has.sl_apd | exact Has.sl_own | exact Has.r_blk | apply Has.there)) rfl) (Picks.ent (by repeat (first | exact Picks.nil | (apply Picks.cons; · repeat (first | exact Pick.keep (Sl.isDup _ _ _) | exact Pick.keep (BlkR.isDup _ _ _) | exact Pick.keep (FldCell.isDup _ _) | exact Pick.here | exact Pick.own_sl | exact Pick.apd_sl | exact Pick.r_blk | exact Pick.sl_nil | exact Pick.own_nil | exact Pick.map_itO _ | apply Pick.there))))) (Nat.le_of_ble_eq_true rfl) ?_
        refine a_take_on 24 rfl rfl rfl (by kernel_rfl) (by kernel_rfl) (by kernel_rfl) ((by first | exact v_len_form Try.underlying37 rfl | exact v_len_sl Try.underlying37 rfl (by repeat (first | exact Has.here | exact Has.sl_apd | exact Has.sl_own | exact Has.r_blk | apply Has.there)))) (Picks.ent (by repeat (first | exact Picks.nil | (apply Picks.cons; · repeat (first | exact Pick.keep (Sl.isDup _ _ _) | exact Pick.keep (BlkR.isDup _ _ _) | exact Pick.keep (FldCell.isDup _ _) | exact Pick.here | exact Pick.own_sl | exact Pick.apd_sl | exact Pick.r_blk | exact Pick.sl_nil | exact Pick.own_nil | exact Pick.map_itO _ | apply Pick.there))))) (Nat.le_of_ble_eq_true rfl) ?_
        refine a_one_on 21 rfl rfl rfl (by kernel_rfl) (s_callf cl20 (waiting_con h' G G[j].1) rfl (Nat.le_of_ble_eq_true rfl) (by repeat (first | exact Picks.nil | (apply Picks.cons; · repeat (first | exact Pick.keep (Sl.isDup _ _ _) | exact Pick.keep (BlkR.isDup _ _ _) | exact Pick.keep (FldCell.isDup _ _) | exact Pick.here | exact Pick.own_sl | exact Pick.apd_sl | exact Pick.r_blk | exact Pick.sl_nil | exact Pick.own_nil | exact Pick.map_itO _ | apply Pick.there)))) (fun _ _ => a_on (Picks.ent (by repeat (first | exact Picks.nil | (apply Picks.cons; · repeat (first | exact Pick.keep (Sl.isDup _ _ _) | exact Pick.keep (BlkR.isDup _ _ _) | exact Pick.keep (FldCell.isDup _ _) | exact Pick.here | exact Pick.own_sl | exact Pick.apd_sl | exact Pick.r_blk | exact Pick.sl_nil | exact Pick.own_nil | exact Pick.map_itO _ | apply Pick.there))))) ?_))
        refine a_take_on 25 rfl rfl rfl (by kernel_rfl) (by kernel_rfl) (by kernel_rfl) (v_ne rfl rfl) (Picks.ent (by repeat (first | exact Picks.nil | (apply Picks.cons; · repeat (first | exact Pick.keep (Sl.isDup _ _ _) | exact Pick.keep (BlkR.isDup _ _ _) | exact Pick.keep (FldCell.isDup _ _) | exact Pick.here | exact Pick.own_sl | exact Pick.apd_sl | exact Pick.r_blk | exact Pick.sl_nil | exact Pick.own_nil | exact Pick.map_itO _ | apply Pick.there))))) (Nat.le_of_ble_eq_true rfl) ?_
        refine a_take 26 rfl (by kernel_rfl) (by kernel_rfl) (by kernel_rfl) (v_pick_f rfl rfl) (Picks.ent (by repeat (first | exact Picks.nil | (apply Picks.cons; · repeat (first | exact Pick.keep (Sl.isDup _ _ _) | exact Pick.keep (BlkR.isDup _ _ _) | exact Pick.keep (FldCell.isDup _ _) | exact Pick.here | exact Pick.own_sl | exact Pick.apd_sl | exact Pick.r_blk | exact Pick.sl_nil | exact Pick.own_nil | exact Pick.map_itO _ | apply Pick.there))))) (Nat.le_of_ble_eq_true rfl) ?_
        refine a_done (by kernel_rfl) ?_ _
        rw [getW_some hd2 (List.getElem_mem hj')]
        dsimp only [Option.map_some, Option.getD_some]
        rw [ne_self_f]
        refine c_cond_f rfl ?_
        refine c_skip ?_
        refine c_inBlock ?_
        refine c_region ?_
        refine o_val ((by first | exact v_add64 rfl rfl (by omega) | exact v_add rfl rfl)) (Nat.le_of_ble_eq_true rfl) ?_
        refine o_val (v_move rfl) (Nat.le_of_ble_eq_true rfl) ?_
        refine o_nil ?_
        refine c_use (IH2 (j + 1) (by first | omega | (dsimp only; omega)) (by omega)) (by repeat (first | exact trivial | refine ⟨rfl, ?_⟩)) (Picks.ent (by repeat (first | exact Picks.nil | (apply Picks.cons; · repeat (first | exact Pick.keep (Sl.isDup _ _ _) | exact Pick.keep (BlkR.isDup _ _ _) | exact Pick.keep (FldCell.isDup _ _) | exact Pick.here | exact Pick.own_sl | exact Pick.apd_sl | exact Pick.r_blk | exact Pick.sl_nil | exact Pick.own_nil | exact Pick.map_itO _ | apply Pick.there)))))
      · refine c_exit rfl ?_
        refine c_seq ?_
        refine c_region ?_
        refine o_val (v_move rfl) (Nat.le_of_ble_eq_true rfl) ?_
        refine o_val (v_fieldAddrC 1 Try.underlying32 rfl ti3 (by decide) rfl) (Nat.le_of_ble_eq_true rfl) ?_
        refine o_val (v_load lone3 rfl (by repeat (first | exact Has.here | exact Has.sl_apd | exact Has.sl_own | exact Has.r_blk | apply Has.there)) rfl) (Nat.le_of_ble_eq_true rfl) ?_
        refine o_step (s_callf cl19 (prefix_con h' G l[i].2.1) rfl (Nat.le_of_ble_eq_true rfl) (by repeat (first | exact Picks.nil | (apply Picks.cons; · repeat (first | exact Pick.keep (Sl.isDup _ _ _) | exact Pick.keep (BlkR.isDup _ _ _) | exact Pick.keep (FldCell.isDup _ _) | exact Pick.here | exact Pick.own_sl | exact Pick.apd_sl | exact Pick.r_blk | exact Pick.sl_nil | exact Pick.own_nil | exact Pick.map_itO _ | apply Pick.there)))) fun _ _ => ?_)
        refine o_val (v_move rfl) (Nat.le_of_ble_eq_true rfl) ?_
        refine o_val (v_extract rfl rfl) (Nat.le_of_ble_eq_true rfl) ?_
        refine o_val (v_extract rfl rfl) (Nat.le_of_ble_eq_true rfl) ?_
        refine o_val (v_assign rfl) (Nat.le_of_ble_eq_true rfl) ?_
        refine o_val (v_assign rfl) (Nat.le_of_ble_eq_true rfl) ?_
        refine o_nil ?_
        refine c_seq ?_
        refine c_region ?_
        refine o_val (v_move rfl) (Nat.le_of_ble_eq_true rfl) ?_
        refine o_val (v_move rfl) (Nat.le_of_ble_eq_true rfl) ?_
        refine o_val (v_fieldAddrC 1 Try.underlying32 rfl ti3 (by decide) rfl) (Nat.le_of_ble_eq_true rfl) ?_
        refine o_val (v_load lone3 rfl (by repeat (first | exact Has.here | exact Has.sl_apd | exact Has.sl_own | exact Has.r_blk | apply Has.there)) rfl) (Nat.le_of_ble_eq_true rfl) ?_
        refine o_step (s_callf cl21 (at_con lv' G l[i].2.1 (by omega)) rfl (Nat.le_of_ble_eq_true rfl) (by repeat (first | exact Picks.nil | (apply Picks.cons; · repeat (first | exact Pick.keep (Sl.isDup _ _ _) | exact Pick.keep (BlkR.isDup _ _ _) | exact Pick.keep (FldCell.isDup _ _) | exact Pick.here | exact Pick.own_sl | exact Pick.apd_sl | exact Pick.r_blk | exact Pick.sl_nil | exact Pick.own_nil | exact Pick.map_itO _ | apply Pick.there)))) fun _ _ => ?_)
        refine o_val (v_ge rfl rfl) (Nat.le_of_ble_eq_true rfl) ?_
        refine o_val (v_bne Try.underlying4 rfl rfl) (Nat.le_of_ble_eq_true rfl) ?_
        refine o_nil ?_
        rw [getW_at, ne_self_f]
        refine c_cond_f rfl ?_
        refine c_skip ?_
        refine c_inBlock ?_
        refine c_region ?_
        refine o_val ((by first | exact v_add64 rfl rfl (by omega) | exact v_add rfl rfl)) (Nat.le_of_ble_eq_true rfl) ?_
        refine o_val (v_move rfl) (Nat.le_of_ble_eq_true rfl) ?_
        refine o_nil ?_
        refine c_use (IH ((i + 1, h', lv', G)) (by first | omega | (dsimp only; omega)) (⟨by dsimp only; omega, hd1, hd2⟩)) (by repeat (first | exact trivial | refine ⟨rfl, ?_⟩)) (Picks.ent (by repeat (first | exact Picks.nil | (apply Picks.cons; · repeat (first | exact Pick.keep (Sl.isDup _ _ _) | exact Pick.keep (BlkR.isDup _ _ _) | exact Pick.keep (FldCell.isDup _ _) | exact Pick.here | exact Pick.own_sl | exact Pick.apd_sl | exact Pick.r_blk | exact Pick.sl_nil | exact Pick.own_nil | exact Pick.map_itO _ | apply Pick.there)))))
    · refine c_exit rfl ?_
      refine c_seq ?_
      refine c_region ?_
      refine o_step (s_callf cl16 (alive_con) rfl (Nat.le_of_ble_eq_true rfl) (by repeat (first | exact Picks.nil | (apply Picks.cons; · repeat (first | exact Pick.keep (Sl.isDup _ _ _) | exact Pick.keep (BlkR.isDup _ _ _) | exact Pick.keep (FldCell.isDup _ _) | exact Pick.here | exact Pick.own_sl | exact Pick.apd_sl | exact Pick.r_blk | exact Pick.sl_nil | exact Pick.own_nil | exact Pick.map_itO _ | apply Pick.there)))) fun _ _ => ?_)
      refine o_val (v_assign rfl) (Nat.le_of_ble_eq_true rfl) ?_
      refine o_nil ?_
      refine c_ret1 Try.func3 rfl rfl fun w O hS => ?_
      exact ⟨(), rfl, trivial, trivial⟩
end Go.Proofs.Ytnamhhmfnokfiaa

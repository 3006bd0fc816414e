import Derived.Test.YtgokinfjlollpaaDoorB7
namespace Go.Proofs.YtgokinfjlollpaaDoor
open Go Go.SL L01
attribute [local irreducible] Cfg Kont StepK Val Con Qops Any Sl Own Blk BlkR Rd Pu ExA AllA Has Pick Ent Elem Beside Callable TI Lone

set_option maxRecDepth 100000 in
theorem back_con (m : Int) (v : Value) (xs : Ls) (s : ByteArray) (hx : Lim xs) (hs : s.size ≤ 140737488355328) :
    Con Tryd.prog 9 [v, .string s] [GL m, Sl eStr v xs] (γ := Unit) (fun _ => .bool true) (fun _ => True) (fun _ => []) := by
  refine con_of Tryd.func9 rfl (Nat.le_of_ble_eq_true rfl) fun w0 O0 => ?_
  refine c_seq ?_
  refine c_region ?_
  refine o_val (v_assign rfl) (Nat.le_of_ble_eq_true rfl) ?_
  refine o_nil ?_
  refine c_seq ?_
  refine c_seq ?_
  refine c_region ?_
  refine o_val (v_move rfl) (Nat.le_of_ble_eq_true rfl) ?_
  refine o_val (v_len_str Tryd.underlying9 rfl) (Nat.le_of_ble_eq_true rfl) ?_
  refine o_val (v_gt rfl rfl) (Nat.le_of_ble_eq_true rfl) ?_
  refine o_val (v_move rfl) (Nat.le_of_ble_eq_true rfl) ?_
  refine o_guard_f rfl rfl (fun h0 => ?_) (fun h0 => ?_)
  · refine o_val (v_move rfl) (Nat.le_of_ble_eq_true rfl) ?_
    refine o_on rfl rfl ?_
    refine o_step (s_buildSlice Tryd.underlying43 ti22 rfl rfl rfl (by decide) (by decide) (beside_sl1 v xs (by repeat (first | exact Picks.nil | (apply Picks.cons; · repeat (first | exact Pick.keep (Sl.isDup _ _ _) | exact Pick.keep (BlkR.isDup _ _ _) | exact Pick.here | exact Pick.own_sl | exact Pick.apd_sl | exact Pick.r_blk | exact Pick.sl_nil | exact Pick.own_nil | apply Pick.there))))) rfl rfl (Nat.le_of_ble_eq_true rfl) fun v1 => ?_)
    refine o_on rfl rfl ?_
    refine o_step (s_callf cl11 (few1_con v1 xs hx) rfl (Nat.le_of_ble_eq_true rfl) (by repeat (first | exact Picks.nil | (apply Picks.cons; · repeat (first | exact Pick.keep (Sl.isDup _ _ _) | exact Pick.keep (BlkR.isDup _ _ _) | exact Pick.here | exact Pick.own_sl | exact Pick.apd_sl | exact Pick.r_blk | exact Pick.sl_nil | exact Pick.own_nil | apply Pick.there)))) fun _ _ => ?_)
    refine o_on rfl rfl ?_
    refine o_val (v_not rfl) (Nat.le_of_ble_eq_true rfl) ?_
    refine o_val (v_pick_f rfl rfl) (Nat.le_of_ble_eq_true rfl) ?_
    refine o_nil ?_
    refine c_cond rfl (fun h => ?_) (fun h => ?_)
    · refine c_seq ?_
      refine c_region ?_
      refine o_step (s_callf cl12 (alive_con m) rfl (Nat.le_of_ble_eq_true rfl) (by repeat (first | exact Picks.nil | (apply Picks.cons; · repeat (first | exact Pick.keep (Sl.isDup _ _ _) | exact Pick.keep (BlkR.isDup _ _ _) | exact Pick.here | exact Pick.own_sl | exact Pick.apd_sl | exact Pick.r_blk | exact Pick.sl_nil | exact Pick.own_nil | apply Pick.there)))) fun _ _ => ?_)
      refine o_val (v_assign rfl) (Nat.le_of_ble_eq_true rfl) ?_
      refine o_nil ?_
      refine c_ret1 Tryd.func9 rfl rfl fun w O hS => ?_
      exact ⟨(), rfl, trivial, trivial⟩
    · refine c_skip ?_
      refine c_seq ?_
      refine c_region ?_
      refine o_val (v_assign rfl) (Nat.le_of_ble_eq_true rfl) ?_
      refine o_nil ?_
      refine c_seq ?_
      refine c_seq ?_
      refine c_region ?_
      refine o_val (v_move rfl) (Nat.le_of_ble_eq_true rfl) ?_
      refine o_val ((by first | exact v_len_form Tryd.underlying22 rfl | exact v_len_sl Tryd.underlying22 rfl (by repeat (first | exact Has.here | exact Has.sl_apd | exact Has.sl_own | exact Has.r_blk | apply Has.there)))) (Nat.le_of_ble_eq_true rfl) ?_
      refine o_val (v_move rfl) (Nat.le_of_ble_eq_true rfl) ?_
      refine o_nil ?_
      refine c_block ?_
      have hf : bytesOf [xs] ≤ 6000 ∧ linesOf [xs] ≤ 300 := by simpa using h
      have h1 := few_len hf.2 (xs := xs) (by simp)
      have h2 := few_sum hf.1 (xs := xs) (by simp)
      have h3 := cut_len s
      have h4 := cut_sum s
      refine c_ent (L' := [GL m, Sl eStr v xs]) (Picks.ent (by repeat (first | exact Picks.nil | (apply Picks.cons; · repeat (first | exact Pick.keep (Sl.isDup _ _ _) | exact Pick.keep (BlkR.isDup _ _ _) | exact Pick.here | exact Pick.own_sl | exact Pick.apd_sl | exact Pick.r_blk | exact Pick.sl_nil | exact Pick.own_nil | apply Pick.there))))) ?_
      refine c_loop (γ := Nat) (fun i => xs.length - i) (fun i => i ≤ xs.length) (fun i => [(21, .int .i64 i), (20, .int .i64 xs.length), (19, v), (0, v), (1, .string s), (5, .bool (((xs.take i).all fun x => !decide (10 ∈ x.data.toList))))]) (fun _ => [GL m, Sl eStr v xs]) 0 (Nat.zero_le _) ⟨rfl, rfl, rfl, rfl, rfl, Env.as rfl (by simp), trivial⟩ (Ent.refl _) ?_
      intro i hi IH
      refine c_seq ?_
      refine c_region ?_
      refine o_val (v_lt rfl rfl) (Nat.le_of_ble_eq_true rfl) ?_
      refine o_nil ?_
      refine c_seq ?_
      refine c_cond_p rfl (fun hlt => ?_) (fun hlt => ?_)
      · have hstep : ((xs.take (i + 1)).all fun x => !decide (10 ∈ x.data.toList)) = (((xs.take i).all fun x => !decide (10 ∈ x.data.toList)) && !decide (10 ∈ (xs[i]'(by omega)).data.toList)) := by
          rw [List.take_succ_eq_append_getElem (by omega), List.all_append]
          simp
        refine c_skip ?_
        refine c_seq ?_
        refine c_block ?_
        refine c_seq ?_
        refine c_region ?_
        refine o_val ((by first | exact v_indexAddrN Tryd.underlying22 ti9 rfl rfl (by repeat (first | exact Has.here | exact Has.sl_apd | exact Has.sl_own | exact Has.r_blk | apply Has.there)) (by omega) | exact v_indexAddr Tryd.underlying22 ti9 rfl rfl (by repeat (first | exact Has.here | exact Has.sl_apd | exact Has.sl_own | exact Has.r_blk | apply Has.there)) (by omega))) (Nat.le_of_ble_eq_true rfl) ?_
        refine o_val (v_load_str lone9 rfl (by repeat (first | exact Elem.sl (List.getElem?_eq_getElem (by omega)) | exact Elem.own (List.getElem?_eq_getElem (by omega)) | apply Elem.there))) (Nat.le_of_ble_eq_true rfl) ?_
        refine o_val (v_assign rfl) (Nat.le_of_ble_eq_true rfl) ?_
        refine o_nil ?_
        refine c_region ?_
        refine o_val (v_move rfl) (Nat.le_of_ble_eq_true rfl) ?_
        refine o_val (v_move rfl) (Nat.le_of_ble_eq_true rfl) ?_
        refine o_guard rfl rfl (fun hg => ?_) (fun hg => ?_)
        · refine o_val (v_move rfl) (Nat.le_of_ble_eq_true rfl) ?_
          refine o_on rfl rfl ?_
          refine o_step (s_callf cl31 (contains_con (xs[i]'(by omega))) rfl (Nat.le_of_ble_eq_true rfl) (by repeat (first | exact Picks.nil | (apply Picks.cons; · repeat (first | exact Pick.keep (Sl.isDup _ _ _) | exact Pick.keep (BlkR.isDup _ _ _) | exact Pick.here | exact Pick.own_sl | exact Pick.apd_sl | exact Pick.r_blk | exact Pick.sl_nil | exact Pick.own_nil | apply Pick.there)))) fun _ _ => ?_)
          refine o_on rfl rfl ?_
          refine o_val (v_not rfl) (Nat.le_of_ble_eq_true rfl) ?_
          refine o_val (v_pick_t rfl rfl) (Nat.le_of_ble_eq_true rfl) ?_
          refine o_val (v_assign rfl) (Nat.le_of_ble_eq_true rfl) ?_
          refine o_nil ?_
          refine c_inBlock ?_
          refine c_region ?_
          refine o_val ((by first | exact v_add64 rfl rfl (by omega) | exact v_add rfl rfl)) (Nat.le_of_ble_eq_true rfl) ?_
          refine o_val (v_move rfl) (Nat.le_of_ble_eq_true rfl) ?_
          refine o_nil ?_
          refine c_use (IH (i + 1) (by omega) (by omega)) ⟨rfl, rfl, rfl, rfl, rfl, Env.as rfl ?_, trivial⟩ (Picks.ent (by repeat (first | exact Picks.nil | (apply Picks.cons; · repeat (first | exact Pick.keep (Sl.isDup _ _ _) | exact Pick.keep (BlkR.isDup _ _ _) | exact Pick.here | exact Pick.own_sl | exact Pick.apd_sl | exact Pick.r_blk | exact Pick.sl_nil | exact Pick.own_nil | apply Pick.there)))))
          rw [hstep, hg, Bool.true_and]
        · refine o_off rfl rfl rfl (Nat.le_of_ble_eq_true rfl) ?_
          refine o_off rfl rfl rfl (Nat.le_of_ble_eq_true rfl) ?_
          refine o_off rfl rfl rfl (Nat.le_of_ble_eq_true rfl) ?_
          refine o_val (v_pick_f rfl rfl) (Nat.le_of_ble_eq_true rfl) ?_
          refine o_val (v_assign rfl) (Nat.le_of_ble_eq_true rfl) ?_
          refine o_nil ?_
          refine c_inBlock ?_
          refine c_region ?_
          refine o_val ((by first | exact v_add64 rfl rfl (by omega) | exact v_add rfl rfl)) (Nat.le_of_ble_eq_true rfl) ?_
          refine o_val (v_move rfl) (Nat.le_of_ble_eq_true rfl) ?_
          refine o_nil ?_
          refine c_use (IH (i + 1) (by omega) (by omega)) ⟨rfl, rfl, rfl, rfl, rfl, Env.as rfl ?_, trivial⟩ (Picks.ent (by repeat (first | exact Picks.nil | (apply Picks.cons; · repeat (first | exact Pick.keep (Sl.isDup _ _ _) | exact Pick.keep (BlkR.isDup _ _ _) | exact Pick.here | exact Pick.own_sl | exact Pick.apd_sl | exact Pick.r_blk | exact Pick.sl_nil | exact Pick.own_nil | apply Pick.there)))))
          rw [hstep, hg]; rfl
      · skip
        rw [List.take_of_length_le (by omega)]
        refine c_exit rfl ?_
        refine c_seq ?_
        refine c_region ?_
        refine o_val (v_move rfl) (Nat.le_of_ble_eq_true rfl) ?_
        refine o_val (v_assign rfl) (Nat.le_of_ble_eq_true rfl) ?_
        refine o_nil ?_
        refine c_seq ?_
        refine c_seq ?_
        have g3 : (⟨#[10]⟩ : ByteArray).size = 1 := rfl
        have htc := text_cut s
        refine c_join2 (γ := Unit) (fun _ => True) (fun _ => [(8, .string (textS (cutS s))), (0, v), (1, .string s), (5, .bool (xs.all fun x => !decide (10 ∈ x.data.toList)))]) (fun _ => [GL m, Sl eStr v xs]) ?_ ?_
        · intro _ _
          refine c_seq ?_
          refine c_region ?_
          refine o_step (s_callf cl12 (alive_con m) rfl (Nat.le_of_ble_eq_true rfl) (by repeat (first | exact Picks.nil | (apply Picks.cons; · repeat (first | exact Pick.keep (Sl.isDup _ _ _) | exact Pick.keep (BlkR.isDup _ _ _) | exact Pick.here | exact Pick.own_sl | exact Pick.apd_sl | exact Pick.r_blk | exact Pick.sl_nil | exact Pick.own_nil | apply Pick.there)))) fun _ _ => ?_)
          refine o_val (v_move rfl) (Nat.le_of_ble_eq_true rfl) ?_
          refine o_guard rfl rfl (fun _ => ?_) (fun h_ => absurd ((show _ = true from rfl).symm.trans h_) (by decide))
          refine o_val (v_move rfl) (Nat.le_of_ble_eq_true rfl) ?_
          refine o_on rfl rfl ?_
          refine o_val (v_not rfl) (Nat.le_of_ble_eq_true rfl) ?_
          refine o_on rfl rfl ?_
          refine o_val (v_move rfl) (Nat.le_of_ble_eq_true rfl) ?_
          have tail : True := trivial
          refine o_guard rfl rfl (fun hall => ?_) (fun hall => ?_)
          · refine o_val (v_move rfl) (Nat.le_of_ble_eq_true rfl) ?_
            refine o_on rfl rfl ?_
            refine o_step (s_callf cl16 (text_con v xs (by omega) (by omega)) rfl (Nat.le_of_ble_eq_true rfl) (by repeat (first | exact Picks.nil | (apply Picks.cons; · repeat (first | exact Pick.keep (Sl.isDup _ _ _) | exact Pick.keep (BlkR.isDup _ _ _) | exact Pick.here | exact Pick.own_sl | exact Pick.apd_sl | exact Pick.r_blk | exact Pick.sl_nil | exact Pick.own_nil | apply Pick.there)))) fun _ _ => ?_)
            refine o_on rfl rfl ?_
            have h5 := textS_size xs
            have h6 : cutS (textS xs) = xs := cut_text fun x hx => by
              have : (xs.all fun x => !decide (10 ∈ x.data.toList)) = true := by simpa using hall
              have := List.all_eq_true.1 this x hx
              simpa using this
            refine o_step (s_callf cl14 (cut_con (textS xs) m (by omega)) rfl (Nat.le_of_ble_eq_true rfl) (by repeat (first | exact Picks.nil | (apply Picks.cons; · repeat (first | exact Pick.keep (Sl.isDup _ _ _) | exact Pick.keep (BlkR.isDup _ _ _) | exact Pick.here | exact Pick.own_sl | exact Pick.apd_sl | exact Pick.r_blk | exact Pick.sl_nil | exact Pick.own_nil | apply Pick.there)))) fun v2 _ => ?_)
            refine o_on rfl rfl ?_
            refine o_val (v_move rfl) (Nat.le_of_ble_eq_true rfl) ?_
            refine o_on rfl rfl ?_
            rw [h6]
            refine o_step (s_callf cl13 (same_con v2 v xs xs (by omega) (by omega)) rfl (Nat.le_of_ble_eq_true rfl) (by repeat (first | exact Picks.nil | (apply Picks.cons; · repeat (first | exact Pick.keep (Sl.isDup _ _ _) | exact Pick.keep (BlkR.isDup _ _ _) | exact Pick.here | exact Pick.own_sl | exact Pick.apd_sl | exact Pick.r_blk | exact Pick.sl_nil | exact Pick.own_nil | apply Pick.there)))) fun _ _ => ?_)
            refine o_on rfl rfl ?_
            refine o_val (v_pick_f rfl rfl) (Nat.le_of_ble_eq_true rfl) ?_
            refine o_val (v_pick_t rfl rfl) (Nat.le_of_ble_eq_true rfl) ?_
            refine o_val (v_move rfl) (Nat.le_of_ble_eq_true rfl) ?_
            refine o_guard rfl rfl (fun _ => ?_) (fun h_ => absurd ((show _ = true from by simp).symm.trans h_) (by decide))
            refine o_val (v_move rfl) (Nat.le_of_ble_eq_true rfl) ?_
            refine o_on rfl rfl ?_
            refine o_step (s_callf cl14 (cut_con s m (by omega)) rfl (Nat.le_of_ble_eq_true rfl) (by repeat (first | exact Picks.nil | (apply Picks.cons; · repeat (first | exact Pick.keep (Sl.isDup _ _ _) | exact Pick.keep (BlkR.isDup _ _ _) | exact Pick.here | exact Pick.own_sl | exact Pick.apd_sl | exact Pick.r_blk | exact Pick.sl_nil | exact Pick.own_nil | apply Pick.there)))) fun v3 _ => ?_)
            refine o_on rfl rfl ?_
            refine o_step (s_callf cl16 (text_con v3 (cutS s) (by omega) (by omega)) rfl (Nat.le_of_ble_eq_true rfl) (by repeat (first | exact Picks.nil | (apply Picks.cons; · repeat (first | exact Pick.keep (Sl.isDup _ _ _) | exact Pick.keep (BlkR.isDup _ _ _) | exact Pick.here | exact Pick.own_sl | exact Pick.apd_sl | exact Pick.r_blk | exact Pick.sl_nil | exact Pick.own_nil | apply Pick.there)))) fun _ _ => ?_)
            refine o_on rfl rfl ?_
            refine o_val (v_move rfl) (Nat.le_of_ble_eq_true rfl) ?_
            refine o_on rfl rfl ?_
            refine o_val (v_seq rfl rfl) (Nat.le_of_ble_eq_true rfl) ?_
            refine o_val (v_pick_t rfl rfl) (Nat.le_of_ble_eq_true rfl) ?_
            refine o_val (v_assign rfl) (Nat.le_of_ble_eq_true rfl) ?_
            refine o_nil ?_
            refine c_ret1 Tryd.func9 rfl rfl fun w O hS => ?_
            exact ⟨(), congrArg Value.bool (by simp), trivial, trivial⟩
          · refine o_off rfl rfl rfl (Nat.le_of_ble_eq_true rfl) ?_
            refine o_off rfl rfl rfl (Nat.le_of_ble_eq_true rfl) ?_
            refine o_off rfl rfl rfl (Nat.le_of_ble_eq_true rfl) ?_
            refine o_off rfl rfl rfl (Nat.le_of_ble_eq_true rfl) ?_
            refine o_off rfl rfl rfl (Nat.le_of_ble_eq_true rfl) ?_
            refine o_on rfl rfl ?_
            refine o_val (v_pick_t rfl rfl) (Nat.le_of_ble_eq_true rfl) ?_
            refine o_val (v_pick_t rfl rfl) (Nat.le_of_ble_eq_true rfl) ?_
            refine o_val (v_move rfl) (Nat.le_of_ble_eq_true rfl) ?_
            refine o_on rfl rfl ?_
            refine o_val (v_move rfl) (Nat.le_of_ble_eq_true rfl) ?_
            refine o_on rfl rfl ?_
            refine o_step (s_callf cl14 (cut_con s m (by omega)) rfl (Nat.le_of_ble_eq_true rfl) (by repeat (first | exact Picks.nil | (apply Picks.cons; · repeat (first | exact Pick.keep (Sl.isDup _ _ _) | exact Pick.keep (BlkR.isDup _ _ _) | exact Pick.here | exact Pick.own_sl | exact Pick.apd_sl | exact Pick.r_blk | exact Pick.sl_nil | exact Pick.own_nil | apply Pick.there)))) fun v3 _ => ?_)
            refine o_on rfl rfl ?_
            refine o_step (s_callf cl16 (text_con v3 (cutS s) (by omega) (by omega)) rfl (Nat.le_of_ble_eq_true rfl) (by repeat (first | exact Picks.nil | (apply Picks.cons; · repeat (first | exact Pick.keep (Sl.isDup _ _ _) | exact Pick.keep (BlkR.isDup _ _ _) | exact Pick.here | exact Pick.own_sl | exact Pick.apd_sl | exact Pick.r_blk | exact Pick.sl_nil | exact Pick.own_nil | apply Pick.there)))) fun _ _ => ?_)
            refine o_on rfl rfl ?_
            refine o_val (v_move rfl) (Nat.le_of_ble_eq_true rfl) ?_
            refine o_on rfl rfl ?_
            refine o_val (v_seq rfl rfl) (Nat.le_of_ble_eq_true rfl) ?_
            refine o_val (v_pick_t rfl rfl) (Nat.le_of_ble_eq_true rfl) ?_
            refine o_val (v_assign rfl) (Nat.le_of_ble_eq_true rfl) ?_
            refine o_nil ?_
            refine c_ret1 Tryd.func9 rfl rfl fun w O hS => ?_
            exact ⟨(), congrArg Value.bool (by simp), trivial, trivial⟩
        · intro J
          refine c_region ?_
          refine o_val (v_move rfl) (Nat.le_of_ble_eq_true rfl) ?_
          refine o_val (v_sne rfl rfl) (Nat.le_of_ble_eq_true rfl) ?_
          refine o_val (v_move rfl) (Nat.le_of_ble_eq_true rfl) ?_
          refine o_guard_t rfl rfl (fun hne => ?_) (fun hne => ?_)
          · refine o_val (v_move rfl) (Nat.le_of_ble_eq_true rfl) ?_
            refine o_on rfl rfl ?_
            refine o_step (s_callf cl32 (suffix_con s (by omega)) rfl (Nat.le_of_ble_eq_true rfl) (by repeat (first | exact Picks.nil | (apply Picks.cons; · repeat (first | exact Pick.keep (Sl.isDup _ _ _) | exact Pick.keep (BlkR.isDup _ _ _) | exact Pick.here | exact Pick.own_sl | exact Pick.apd_sl | exact Pick.r_blk | exact Pick.sl_nil | exact Pick.own_nil | apply Pick.there)))) fun _ _ => ?_)
            refine o_on rfl rfl ?_
            refine o_val (v_not rfl) (Nat.le_of_ble_eq_true rfl) ?_
            refine o_val (v_pick_t rfl rfl) (Nat.le_of_ble_eq_true rfl) ?_
            refine o_nil ?_
            refine c_cond rfl (fun hsf => ?_) (fun hsf => ?_)
            · refine c_region ?_
              refine o_val (v_move rfl) (Nat.le_of_ble_eq_true rfl) ?_
              refine o_val (v_cat rfl rfl (by first | omega | (simp only [ByteArray.size_append]; omega))) (Nat.le_of_ble_eq_true rfl) ?_
              refine o_val (v_assign rfl) (Nat.le_of_ble_eq_true rfl) ?_
              refine o_nil ?_
              refine c_use (J () trivial) ⟨Env.as rfl (by rw [htc, if_pos ⟨hne, by simpa using hsf⟩]; rfl), rfl, rfl, rfl, trivial⟩ (Picks.ent (by repeat (first | exact Picks.nil | (apply Picks.cons; · repeat (first | exact Pick.keep (Sl.isDup _ _ _) | exact Pick.keep (BlkR.isDup _ _ _) | exact Pick.here | exact Pick.own_sl | exact Pick.apd_sl | exact Pick.r_blk | exact Pick.sl_nil | exact Pick.own_nil | apply Pick.there)))))
            · refine c_skip ?_
              refine c_use (J () trivial) ⟨Env.as rfl (by rw [htc, if_neg (fun g => by rw [g.2] at hsf; cases hsf)]), rfl, rfl, rfl, trivial⟩ (Picks.ent (by repeat (first | exact Picks.nil | (apply Picks.cons; · repeat (first | exact Pick.keep (Sl.isDup _ _ _) | exact Pick.keep (BlkR.isDup _ _ _) | exact Pick.here | exact Pick.own_sl | exact Pick.apd_sl | exact Pick.r_blk | exact Pick.sl_nil | exact Pick.own_nil | apply Pick.there)))))
          · refine o_off rfl rfl rfl (Nat.le_of_ble_eq_true rfl) ?_
            refine o_off rfl rfl rfl (Nat.le_of_ble_eq_true rfl) ?_
            refine o_off rfl rfl rfl (Nat.le_of_ble_eq_true rfl) ?_
            refine o_val (v_pick_f rfl rfl) (Nat.le_of_ble_eq_true rfl) ?_
            refine o_nil ?_
            refine c_cond_f rfl ?_
            refine c_skip ?_
            refine c_use (J () trivial) ⟨Env.as rfl (by rw [htc, if_neg (fun g => hne g.1)]), rfl, rfl, rfl, trivial⟩ (Picks.ent (by repeat (first | exact Picks.nil | (apply Picks.cons; · repeat (first | exact Pick.keep (Sl.isDup _ _ _) | exact Pick.keep (BlkR.isDup _ _ _) | exact Pick.here | exact Pick.own_sl | exact Pick.apd_sl | exact Pick.r_blk | exact Pick.sl_nil | exact Pick.own_nil | apply Pick.there)))))
  · refine o_off rfl rfl rfl (Nat.le_of_ble_eq_true rfl) ?_
    refine o_off rfl rfl rfl (Nat.le_of_ble_eq_true rfl) ?_
    refine o_off rfl rfl rfl (Nat.le_of_ble_eq_true rfl) ?_
    refine o_off rfl rfl rfl (Nat.le_of_ble_eq_true rfl) ?_
    refine o_val (v_pick_t rfl rfl) (Nat.le_of_ble_eq_true rfl) ?_
    refine o_nil ?_
    refine c_cond_t rfl ?_
    refine c_seq ?_
    refine c_region ?_
    refine o_step (s_callf cl12 (alive_con m) rfl (Nat.le_of_ble_eq_true rfl) (by repeat (first | exact Picks.nil | (apply Picks.cons; · repeat (first | exact Pick.keep (Sl.isDup _ _ _) | exact Pick.keep (BlkR.isDup _ _ _) | exact Pick.here | exact Pick.own_sl | exact Pick.apd_sl | exact Pick.r_blk | exact Pick.sl_nil | exact Pick.own_nil | apply Pick.there)))) fun _ _ => ?_)
    refine o_val (v_assign rfl) (Nat.le_of_ble_eq_true rfl) ?_
    refine o_nil ?_
    refine c_ret1 Tryd.func9 rfl rfl fun w O hS => ?_
    exact ⟨(), rfl, trivial, trivial⟩
end Go.Proofs.YtgokinfjlollpaaDoor

import Derived.Test.YtgokinfjlollpaaDoorB8
namespace Go.Proofs.YtgokinfjlollpaaDoor
open Go Go.SL L01
attribute [local irreducible] Cfg Kont StepK Val Con Qops Any Sl Own Blk BlkR Rd Pu ExA AllA Has Pick Ent Elem Beside Callable TI Lone

theorem head_max {xs ys : Ls} {r : Nat} (h : IsHead xs ys r) (h1 : r < xs.length) (h2 : r < ys.length) : xs[r] ≠ ys[r] := fun e => by
  have := h.2.2.2 (r + 1) (by omega) (by omega) (head_step h1 h2 h.2.2.1 e)
  omega
theorem tail_max {xs ys : Ls} {r : Nat} (h : IsTail xs ys r) (h1 : r < xs.length) (h2 : r < ys.length) : xs[xs.length - 1 - r] ≠ ys[ys.length - 1 - r] := fun e => by
  have := h.2.2.2 (r + 1) (by omega) (by omega) (tail_step h1 h2 h.2.2.1 e)
  omega

set_option maxRecDepth 100000 in
theorem parts_con (m : Int) (v u : Value) (xs ys : Ls) (s : ByteArray) (hx : Lim xs) (hy : Lim ys) (hs : s.size ≤ 140737488355328) :
    Con Tryd.prog 10 [v, u, .string s] [GL m, Sl eStr v xs, Sl eStr u ys] (γ := Unit) (fun _ => .bool true) (fun _ => True) (fun _ => []) := by
  refine Con.form (v := v) (xs := xs) (by repeat (first | exact Has.here | exact Has.sl_apd | exact Has.sl_own | exact Has.r_blk | apply Has.there)) ?_
  rintro a0 c0 rfl hc0 -
  refine Con.form (v := u) (xs := ys) (by repeat (first | exact Has.here | exact Has.sl_apd | exact Has.sl_own | exact Has.r_blk | apply Has.there)) ?_
  rintro a1 c1 rfl hc1 -
  refine con_of Tryd.func10 rfl (Nat.le_of_ble_eq_true rfl) fun w0 O0 => ?_
  refine c_seq ?_
  refine c_region ?_
  refine o_val (v_assign rfl) (Nat.le_of_ble_eq_true rfl) ?_
  refine o_nil ?_
  refine c_seq ?_
  refine c_seq ?_
  refine c_region ?_
  refine o_val (v_move rfl) (Nat.le_of_ble_eq_true rfl) ?_
  refine o_val (v_move rfl) (Nat.le_of_ble_eq_true rfl) ?_
  refine o_step (s_buildSlice Tryd.underlying43 ti22 rfl rfl rfl (by decide) (by decide) (beside_sl2 (.slice a0 xs.length c0) (.slice a1 ys.length c1) xs ys (by repeat (first | exact Picks.nil | (apply Picks.cons; · repeat (first | exact Pick.keep (Sl.isDup _ _ _) | exact Pick.keep (BlkR.isDup _ _ _) | exact Pick.here | exact Pick.own_sl | exact Pick.apd_sl | exact Pick.r_blk | exact Pick.sl_nil | exact Pick.own_nil | apply Pick.there))))) rfl rfl (Nat.le_of_ble_eq_true rfl) fun v1 => ?_)
  refine o_step (s_callf cl11 (few2_con v1 xs ys hx hy) rfl (Nat.le_of_ble_eq_true rfl) (by repeat (first | exact Picks.nil | (apply Picks.cons; · repeat (first | exact Pick.keep (Sl.isDup _ _ _) | exact Pick.keep (BlkR.isDup _ _ _) | exact Pick.here | exact Pick.own_sl | exact Pick.apd_sl | exact Pick.r_blk | exact Pick.sl_nil | exact Pick.own_nil | apply Pick.there)))) fun _ _ => ?_)
  refine o_val (v_not rfl) (Nat.le_of_ble_eq_true rfl) ?_
  refine o_val (v_move rfl) (Nat.le_of_ble_eq_true rfl) ?_
  have out : ∀ {P : Prop}, P → P := fun h => h
  refine o_guard rfl rfl (fun hfw => ?_) (fun hfw => ?_)
  · refine o_val (v_move rfl) (Nat.le_of_ble_eq_true rfl) ?_
    refine o_on rfl rfl ?_
    refine o_val (v_len_str Tryd.underlying9 rfl) (Nat.le_of_ble_eq_true rfl) ?_
    refine o_on rfl rfl ?_
    refine o_val (v_gt rfl rfl) (Nat.le_of_ble_eq_true rfl) ?_
    refine o_val (v_pick_f rfl rfl) (Nat.le_of_ble_eq_true rfl) ?_
    refine o_nil ?_
    refine c_cond_p rfl (fun hbig => ?_) (fun hbig => ?_)
    · refine c_seq ?_
      refine c_region ?_
      refine o_step (s_callf cl12 (alive_con m) rfl (Nat.le_of_ble_eq_true rfl) (by repeat (first | exact Picks.nil | (apply Picks.cons; · repeat (first | exact Pick.keep (Sl.isDup _ _ _) | exact Pick.keep (BlkR.isDup _ _ _) | exact Pick.here | exact Pick.own_sl | exact Pick.apd_sl | exact Pick.r_blk | exact Pick.sl_nil | exact Pick.own_nil | apply Pick.there)))) fun _ _ => ?_)
      refine o_val (v_assign rfl) (Nat.le_of_ble_eq_true rfl) ?_
      refine o_nil ?_
      refine c_ret1 Tryd.func10 rfl rfl fun w O hS => ?_
      exact ⟨(), rfl, trivial, trivial⟩
    · have hf : bytesOf [xs, ys] ≤ 6000 ∧ linesOf [xs, ys] ≤ 300 := by simpa using hfw
      have h1 := few_len hf.2 (xs := xs) (by simp)
      have h2 := few_len hf.2 (xs := ys) (by simp)
      have h3 := cut_len s
      refine c_skip ?_
      refine c_seq ?_
      refine c_region ?_
      refine o_val (v_move rfl) (Nat.le_of_ble_eq_true rfl) ?_
      refine o_val (v_move rfl) (Nat.le_of_ble_eq_true rfl) ?_
      refine o_ent (L1 := [GL m, Sl eStr (.slice a0 xs.length c0) xs, Sl eStr (.slice a1 ys.length c1) ys]) (Picks.ent (by repeat (first | exact Picks.nil | (apply Picks.cons; · repeat (first | exact Pick.keep (Sl.isDup _ _ _) | exact Pick.keep (BlkR.isDup _ _ _) | exact Pick.here | exact Pick.own_sl | exact Pick.apd_sl | exact Pick.r_blk | exact Pick.sl_nil | exact Pick.own_nil | apply Pick.there))))) ?_
      refine o_step (s_callf cl27 (head_con (.slice a0 xs.length c0) (.slice a1 ys.length c1) xs ys (by omega) (by omega)) rfl (Nat.le_of_ble_eq_true rfl) (by repeat (first | exact Picks.nil | (apply Picks.cons; · repeat (first | exact Pick.keep (Sl.isDup _ _ _) | exact Pick.keep (BlkR.isDup _ _ _) | exact Pick.here | exact Pick.own_sl | exact Pick.apd_sl | exact Pick.r_blk | exact Pick.sl_nil | exact Pick.own_nil | apply Pick.there)))) fun r1 hr1 => ?_)
      refine o_val (v_move rfl) (Nat.le_of_ble_eq_true rfl) ?_
      refine o_val (v_move rfl) (Nat.le_of_ble_eq_true rfl) ?_
      refine o_step (s_callf cl29 (tail_con (.slice a0 xs.length c0) (.slice a1 ys.length c1) xs ys (by omega) (by omega)) rfl (Nat.le_of_ble_eq_true rfl) (by repeat (first | exact Picks.nil | (apply Picks.cons; · repeat (first | exact Pick.keep (Sl.isDup _ _ _) | exact Pick.keep (BlkR.isDup _ _ _) | exact Pick.here | exact Pick.own_sl | exact Pick.apd_sl | exact Pick.r_blk | exact Pick.sl_nil | exact Pick.own_nil | apply Pick.there)))) fun r2 hr2 => ?_)
      refine o_val (v_assign rfl) (Nat.le_of_ble_eq_true rfl) ?_
      refine o_val (v_assign rfl) (Nat.le_of_ble_eq_true rfl) ?_
      refine o_nil ?_
      refine c_seq ?_
      refine c_seq ?_
      have k1 := hr1.1
      have k2 := hr1.2.1
      have k3 := hr2.1
      have k4 := hr2.2.1
      refine c_quiet rfl (by kernel_rfl) ?_
      refine q_val (v_move rfl) (Nat.le_of_ble_eq_true rfl) ?_
      refine q_val (v_lt rfl rfl) (Nat.le_of_ble_eq_true rfl) ?_
      refine q_val (v_move rfl) (Nat.le_of_ble_eq_true rfl) ?_
      refine q_guard_f rfl rfl (fun _ => ?_) (fun h_ => absurd h_ (by omega))
      refine q_val (v_move rfl) (Nat.le_of_ble_eq_true rfl) ?_
      refine q_on rfl rfl ?_
      refine q_val (v_lt rfl rfl) (Nat.le_of_ble_eq_true rfl) ?_
      refine q_val (v_pick_f rfl rfl) (Nat.le_of_ble_eq_true rfl) ?_
      refine q_val (v_move rfl) (Nat.le_of_ble_eq_true rfl) ?_
      refine q_guard_f rfl rfl (fun _ => ?_) (fun h_ => absurd h_ (by omega))
      refine q_val (v_move rfl) (Nat.le_of_ble_eq_true rfl) ?_
      refine q_on rfl rfl ?_
      refine q_val (v_move rfl) (Nat.le_of_ble_eq_true rfl) ?_
      refine q_on rfl rfl ?_
      refine q_val ((by first | exact v_len_form Tryd.underlying22 rfl | exact v_len_sl Tryd.underlying22 rfl (by repeat (first | exact Has.here | exact Has.sl_apd | exact Has.sl_own | exact Has.r_blk | apply Has.there)))) (Nat.le_of_ble_eq_true rfl) ?_
      refine q_on rfl rfl ?_
      refine q_val (v_move rfl) (Nat.le_of_ble_eq_true rfl) ?_
      refine q_on rfl rfl ?_
      refine q_val ((by first | exact v_len_form Tryd.underlying22 rfl | exact v_len_sl Tryd.underlying22 rfl (by repeat (first | exact Has.here | exact Has.sl_apd | exact Has.sl_own | exact Has.r_blk | apply Has.there)))) (Nat.le_of_ble_eq_true rfl) ?_
      refine q_on rfl rfl ?_
      refine q_val (v_min rfl rfl) (Nat.le_of_ble_eq_true rfl) ?_
      refine q_on rfl rfl ?_
      refine q_val (v_gt rfl rfl) (Nat.le_of_ble_eq_true rfl) ?_
      refine q_val (v_pick_f rfl rfl) (Nat.le_of_ble_eq_true rfl) ?_
      refine q_val (v_move rfl) (Nat.le_of_ble_eq_true rfl) ?_
      refine q_guard_f rfl rfl (fun _ => ?_) (fun h_ => absurd h_ (by omega))
      refine q_val (v_move rfl) (Nat.le_of_ble_eq_true rfl) ?_
      refine q_on rfl rfl ?_
      refine q_val (v_move rfl) (Nat.le_of_ble_eq_true rfl) ?_
      refine q_on rfl rfl ?_
      refine q_val ((by first | exact v_len_form Tryd.underlying22 rfl | exact v_len_sl Tryd.underlying22 rfl (by repeat (first | exact Has.here | exact Has.sl_apd | exact Has.sl_own | exact Has.r_blk | apply Has.there)))) (Nat.le_of_ble_eq_true rfl) ?_
      refine q_on rfl rfl ?_
      refine q_val (v_move rfl) (Nat.le_of_ble_eq_true rfl) ?_
      refine q_on rfl rfl ?_
      refine q_val ((by first | exact v_len_form Tryd.underlying22 rfl | exact v_len_sl Tryd.underlying22 rfl (by repeat (first | exact Has.here | exact Has.sl_apd | exact Has.sl_own | exact Has.r_blk | apply Has.there)))) (Nat.le_of_ble_eq_true rfl) ?_
      refine q_on rfl rfl ?_
      refine q_val (v_min rfl rfl) (Nat.le_of_ble_eq_true rfl) ?_
      refine q_on rfl rfl ?_
      refine q_val (v_gt rfl rfl) (Nat.le_of_ble_eq_true rfl) ?_
      refine q_val (v_pick_f rfl rfl) (Nat.le_of_ble_eq_true rfl) ?_
      refine q_val (v_move rfl) (Nat.le_of_ble_eq_true rfl) ?_
      refine q_guard_f rfl rfl (fun _ => ?_) (fun h_ => absurd h_ (by omega))
      refine q_val (v_move rfl) (Nat.le_of_ble_eq_true rfl) ?_
      refine q_on rfl rfl ?_
      refine q_val (v_move rfl) (Nat.le_of_ble_eq_true rfl) ?_
      refine q_on rfl rfl ?_
      refine q_slice Tryd.underlying22 ti9 rfl (by repeat (first | exact Pick.keep (Sl.isDup _ _ _) | exact Pick.keep (BlkR.isDup _ _ _) | exact Pick.here | exact Pick.own_sl | exact Pick.apd_sl | exact Pick.r_blk | exact Pick.sl_nil | exact Pick.own_nil | apply Pick.there)) (.inl ⟨rfl, rfl⟩) (.inr ⟨_, _, _, rfl, rfl, by omega, rfl⟩) (.inl ⟨rfl, rfl⟩) (by omega) (by first | omega | exact Nat.le_refl _) (by omega) (by omega) (Nat.le_of_ble_eq_true rfl) (Picks.ent (by repeat (first | exact Picks.nil | (apply Picks.cons; · repeat (first | exact Pick.keep (Sl.isDup _ _ _) | exact Pick.keep (BlkR.isDup _ _ _) | exact Pick.here | exact Pick.own_sl | exact Pick.apd_sl | exact Pick.r_blk | exact Pick.sl_nil | exact Pick.own_nil | apply Pick.there))))) ?_
      refine q_on rfl rfl ?_
      refine q_val (v_move rfl) (Nat.le_of_ble_eq_true rfl) ?_
      refine q_on rfl rfl ?_
      refine q_val (v_move rfl) (Nat.le_of_ble_eq_true rfl) ?_
      refine q_on rfl rfl ?_
      refine q_slice Tryd.underlying22 ti9 rfl (by repeat (first | exact Pick.keep (Sl.isDup _ _ _) | exact Pick.keep (BlkR.isDup _ _ _) | exact Pick.here | exact Pick.own_sl | exact Pick.apd_sl | exact Pick.r_blk | exact Pick.sl_nil | exact Pick.own_nil | apply Pick.there)) (.inl ⟨rfl, rfl⟩) (.inr ⟨_, _, _, rfl, rfl, by omega, rfl⟩) (.inl ⟨rfl, rfl⟩) (by omega) (by first | omega | exact Nat.le_refl _) (by omega) (by omega) (Nat.le_of_ble_eq_true rfl) (Picks.ent (by repeat (first | exact Picks.nil | (apply Picks.cons; · repeat (first | exact Pick.keep (Sl.isDup _ _ _) | exact Pick.keep (BlkR.isDup _ _ _) | exact Pick.here | exact Pick.own_sl | exact Pick.apd_sl | exact Pick.r_blk | exact Pick.sl_nil | exact Pick.own_nil | apply Pick.there))))) ?_
      refine q_on rfl rfl ?_
      refine q_call cl24 (same_ref_con (cutV a0 0 r1 c0 1) (cutV a1 0 r1 c1 1) (xs.take r1) (ys.take r1) (by simp; omega) (by simp; omega)) (fun _ _ => rfl) rfl (Nat.le_of_ble_eq_true rfl) (by repeat (first | exact Picks.nil | (apply Picks.cons; · repeat (first | exact Pick.keep (Sl.isDup _ _ _) | exact Pick.keep (BlkR.isDup _ _ _) | exact Pick.here | exact Pick.own_sl | exact Pick.apd_sl | exact Pick.r_blk | exact Pick.sl_nil | exact Pick.own_nil | apply Pick.there)))) ?_
      refine q_on rfl rfl ?_
      refine q_val (v_not rfl) (Nat.le_of_ble_eq_true rfl) ?_
      refine q_val (v_pick_f rfl rfl) (Nat.le_of_ble_eq_true rfl) ?_
      refine q_val (v_move rfl) (Nat.le_of_ble_eq_true rfl) ?_
      rw [List.drop_zero, List.drop_zero, decide_eq_true hr1.2.2.1]
      refine q_guard rfl rfl (fun _ => ?_) (fun h_ => absurd ((show _ = false from rfl).symm.trans h_) (by decide))
      refine q_val (v_move rfl) (Nat.le_of_ble_eq_true rfl) ?_
      refine q_on rfl rfl ?_
      refine q_val (v_move rfl) (Nat.le_of_ble_eq_true rfl) ?_
      refine q_on rfl rfl ?_
      refine q_val ((by first | exact v_len_form Tryd.underlying22 rfl | exact v_len_sl Tryd.underlying22 rfl (by repeat (first | exact Has.here | exact Has.sl_apd | exact Has.sl_own | exact Has.r_blk | apply Has.there)))) (Nat.le_of_ble_eq_true rfl) ?_
      refine q_on rfl rfl ?_
      refine q_val (v_move rfl) (Nat.le_of_ble_eq_true rfl) ?_
      refine q_on rfl rfl ?_
      refine q_val ((by first | exact v_sub64 rfl rfl (by omega) | exact v_sub rfl rfl)) (Nat.le_of_ble_eq_true rfl) ?_
      refine q_on rfl rfl ?_
      refine q_slice Tryd.underlying22 ti9 rfl (by repeat (first | exact Pick.keep (Sl.isDup _ _ _) | exact Pick.keep (BlkR.isDup _ _ _) | exact Pick.here | exact Pick.own_sl | exact Pick.apd_sl | exact Pick.r_blk | exact Pick.sl_nil | exact Pick.own_nil | apply Pick.there)) (.inr ⟨_, _, _, rfl, rfl, by omega, rfl⟩) (.inl ⟨rfl, rfl, rfl⟩) (.inl ⟨rfl, rfl⟩) (by omega) (by first | omega | exact Nat.le_refl _) (by omega) (by omega) (Nat.le_of_ble_eq_true rfl) (Picks.ent (by repeat (first | exact Picks.nil | (apply Picks.cons; · repeat (first | exact Pick.keep (Sl.isDup _ _ _) | exact Pick.keep (BlkR.isDup _ _ _) | exact Pick.here | exact Pick.own_sl | exact Pick.apd_sl | exact Pick.r_blk | exact Pick.sl_nil | exact Pick.own_nil | apply Pick.there))))) ?_
      refine q_on rfl rfl ?_
      refine q_val (v_move rfl) (Nat.le_of_ble_eq_true rfl) ?_
      refine q_on rfl rfl ?_
      refine q_val (v_move rfl) (Nat.le_of_ble_eq_true rfl) ?_
      refine q_on rfl rfl ?_
      refine q_val ((by first | exact v_len_form Tryd.underlying22 rfl | exact v_len_sl Tryd.underlying22 rfl (by repeat (first | exact Has.here | exact Has.sl_apd | exact Has.sl_own | exact Has.r_blk | apply Has.there)))) (Nat.le_of_ble_eq_true rfl) ?_
      refine q_on rfl rfl ?_
      refine q_val (v_move rfl) (Nat.le_of_ble_eq_true rfl) ?_
      refine q_on rfl rfl ?_
      refine q_val ((by first | exact v_sub64 rfl rfl (by omega) | exact v_sub rfl rfl)) (Nat.le_of_ble_eq_true rfl) ?_
      refine q_on rfl rfl ?_
      refine q_slice Tryd.underlying22 ti9 rfl (by repeat (first | exact Pick.keep (Sl.isDup _ _ _) | exact Pick.keep (BlkR.isDup _ _ _) | exact Pick.here | exact Pick.own_sl | exact Pick.apd_sl | exact Pick.r_blk | exact Pick.sl_nil | exact Pick.own_nil | apply Pick.there)) (.inr ⟨_, _, _, rfl, rfl, by omega, rfl⟩) (.inl ⟨rfl, rfl, rfl⟩) (.inl ⟨rfl, rfl⟩) (by omega) (by first | omega | exact Nat.le_refl _) (by omega) (by omega) (Nat.le_of_ble_eq_true rfl) (Picks.ent (by repeat (first | exact Picks.nil | (apply Picks.cons; · repeat (first | exact Pick.keep (Sl.isDup _ _ _) | exact Pick.keep (BlkR.isDup _ _ _) | exact Pick.here | exact Pick.own_sl | exact Pick.apd_sl | exact Pick.r_blk | exact Pick.sl_nil | exact Pick.own_nil | apply Pick.there))))) ?_
      refine q_on rfl rfl ?_
      have e1 : ((xs.length : Int) - (r2 : Int)).toNat = xs.length - r2 := by omega
      have e2 : ((ys.length : Int) - (r2 : Int)).toNat = ys.length - r2 := by omega
      rw [e1, e2, List.take_length, List.take_length]
      refine q_call cl24 (same_ref_con (cutV a0 (xs.length - r2) xs.length c0 1) (cutV a1 (ys.length - r2) ys.length c1 1) (xs.drop (xs.length - r2)) (ys.drop (ys.length - r2)) (by simp; omega) (by simp; omega)) (fun _ _ => rfl) rfl (Nat.le_of_ble_eq_true rfl) (by repeat (first | exact Picks.nil | (apply Picks.cons; · repeat (first | exact Pick.keep (Sl.isDup _ _ _) | exact Pick.keep (BlkR.isDup _ _ _) | exact Pick.here | exact Pick.own_sl | exact Pick.apd_sl | exact Pick.r_blk | exact Pick.sl_nil | exact Pick.own_nil | apply Pick.there)))) ?_
      refine q_on rfl rfl ?_
      refine q_val (v_not rfl) (Nat.le_of_ble_eq_true rfl) ?_
      refine q_val (v_pick_f rfl rfl) (Nat.le_of_ble_eq_true rfl) ?_
      refine q_nil ?_
      rw [decide_eq_true hr2.2.2.1]
      refine c_cond rfl (fun hcc => ?_) (fun hcc => ?_)
      · cases hcc
      · skip
        refine c_skip ?_
        refine c_seq ?_
        refine c_seq ?_
        refine c_join2 (γ := Unit) (fun _ => True) (fun _ => [(2, .string s)]) (fun _ => [GL m]) ?_ ?_
        · intro _ _
          skip
          refine c_seq ?_
          refine c_region ?_
          refine o_val (v_move rfl) (Nat.le_of_ble_eq_true rfl) ?_
          refine o_step (s_callf cl33 (count_con s) rfl (Nat.le_of_ble_eq_true rfl) (by repeat (first | exact Picks.nil | (apply Picks.cons; · repeat (first | exact Pick.keep (Sl.isDup _ _ _) | exact Pick.keep (BlkR.isDup _ _ _) | exact Pick.here | exact Pick.own_sl | exact Pick.apd_sl | exact Pick.r_blk | exact Pick.sl_nil | exact Pick.own_nil | apply Pick.there)))) fun _ _ => ?_)
          refine o_val (v_assign rfl) (Nat.le_of_ble_eq_true rfl) ?_
          refine o_nil ?_
          refine c_seq ?_
          refine c_seq ?_
          have h9 := cut_count s
          refine c_join2 (γ := Unit) (fun _ => True) (fun _ => [(9, .int .i64 (cutS s).length), (2, .string s)]) (fun _ => [GL m]) ?_ ?_
          · intro _ _
            refine c_seq ?_
            refine c_region ?_
            refine o_step (s_callf cl12 (alive_con m) rfl (Nat.le_of_ble_eq_true rfl) (by repeat (first | exact Picks.nil | (apply Picks.cons; · repeat (first | exact Pick.keep (Sl.isDup _ _ _) | exact Pick.keep (BlkR.isDup _ _ _) | exact Pick.here | exact Pick.own_sl | exact Pick.apd_sl | exact Pick.r_blk | exact Pick.sl_nil | exact Pick.own_nil | apply Pick.there)))) fun _ _ => ?_)
            refine o_val (v_move rfl) (Nat.le_of_ble_eq_true rfl) ?_
            refine o_guard rfl rfl (fun _ => ?_) (fun h_ => absurd ((show _ = true from rfl).symm.trans h_) (by decide))
            refine o_val (v_move rfl) (Nat.le_of_ble_eq_true rfl) ?_
            refine o_on rfl rfl ?_
            refine o_step (s_callf cl14 (cut_con s m (by omega)) rfl (Nat.le_of_ble_eq_true rfl) (by repeat (first | exact Picks.nil | (apply Picks.cons; · repeat (first | exact Pick.keep (Sl.isDup _ _ _) | exact Pick.keep (BlkR.isDup _ _ _) | exact Pick.here | exact Pick.own_sl | exact Pick.apd_sl | exact Pick.r_blk | exact Pick.sl_nil | exact Pick.own_nil | apply Pick.there)))) fun v3 _ => ?_)
            refine o_on rfl rfl ?_
            refine o_val ((by first | exact v_len_form Tryd.underlying22 rfl | exact v_len_sl Tryd.underlying22 rfl (by repeat (first | exact Has.here | exact Has.sl_apd | exact Has.sl_own | exact Has.r_blk | apply Has.there)))) (Nat.le_of_ble_eq_true rfl) ?_
            refine o_on rfl rfl ?_
            refine o_val (v_move rfl) (Nat.le_of_ble_eq_true rfl) ?_
            refine o_on rfl rfl ?_
            refine o_val (v_eq rfl rfl) (Nat.le_of_ble_eq_true rfl) ?_
            refine o_val (v_pick_t rfl rfl) (Nat.le_of_ble_eq_true rfl) ?_
            refine o_val (v_assign rfl) (Nat.le_of_ble_eq_true rfl) ?_
            refine o_nil ?_
            refine c_ret1 Tryd.func10 rfl rfl fun w O hS => ?_
            exact ⟨(), congrArg Value.bool (by simp), trivial, trivial⟩
          · intro J
            refine c_region ?_
            refine o_val (v_move rfl) (Nat.le_of_ble_eq_true rfl) ?_
            refine o_val (v_sne rfl rfl) (Nat.le_of_ble_eq_true rfl) ?_
            refine o_val (v_move rfl) (Nat.le_of_ble_eq_true rfl) ?_
            refine o_guard_t rfl rfl (fun hne => ?_) (fun hne => ?_)
            · refine o_val (v_move rfl) (Nat.le_of_ble_eq_true rfl) ?_
              refine o_on rfl rfl ?_
              refine o_step (s_callf cl32 (suffix_con s (by omega)) rfl (Nat.le_of_ble_eq_true rfl) (by repeat (first | exact Picks.nil | (apply Picks.cons; · repeat (first | exact Pick.keep (Sl.isDup _ _ _) | exact Pick.keep (BlkR.isDup _ _ _) | exact Pick.here | exact Pick.own_sl | exact Pick.apd_sl | exact Pick.r_blk | exact Pick.sl_nil | exact Pick.own_nil | apply Pick.there)))) fun _ _ => ?_)
              refine o_on rfl rfl ?_
              refine o_val (v_not rfl) (Nat.le_of_ble_eq_true rfl) ?_
              refine o_val (v_pick_t rfl rfl) (Nat.le_of_ble_eq_true rfl) ?_
              refine o_nil ?_
              refine c_cond rfl (fun hsf => ?_) (fun hsf => ?_)
              · have h10 : ((cutS s).length : Int) = Lib.countByte s.data.toList 10 + 1 := by
                  rw [h9, if_pos ⟨hne, by simpa using hsf⟩]; omega
                refine c_region ?_
                refine o_val (v_move rfl) (Nat.le_of_ble_eq_true rfl) ?_
                refine o_val ((by first | exact v_add64 rfl rfl (by omega) | exact v_add rfl rfl)) (Nat.le_of_ble_eq_true rfl) ?_
                refine o_val (v_assign rfl) (Nat.le_of_ble_eq_true rfl) ?_
                refine o_nil ?_
                refine c_use (J () trivial) ⟨Env.int rfl (by omega), rfl, trivial⟩ (Picks.ent (by repeat (first | exact Picks.nil | (apply Picks.cons; · repeat (first | exact Pick.keep (Sl.isDup _ _ _) | exact Pick.keep (BlkR.isDup _ _ _) | exact Pick.here | exact Pick.own_sl | exact Pick.apd_sl | exact Pick.r_blk | exact Pick.sl_nil | exact Pick.own_nil | apply Pick.there)))))
              · refine c_skip ?_
                refine c_use (J () trivial) ⟨Env.int rfl (by rw [h9, if_neg (fun g => by rw [g.2] at hsf; cases hsf)]; omega), rfl, trivial⟩ (Picks.ent (by repeat (first | exact Picks.nil | (apply Picks.cons; · repeat (first | exact Pick.keep (Sl.isDup _ _ _) | exact Pick.keep (BlkR.isDup _ _ _) | exact Pick.here | exact Pick.own_sl | exact Pick.apd_sl | exact Pick.r_blk | exact Pick.sl_nil | exact Pick.own_nil | apply Pick.there)))))
            · refine o_off rfl rfl rfl (Nat.le_of_ble_eq_true rfl) ?_
              refine o_off rfl rfl rfl (Nat.le_of_ble_eq_true rfl) ?_
              refine o_off rfl rfl rfl (Nat.le_of_ble_eq_true rfl) ?_
              refine o_val (v_pick_f rfl rfl) (Nat.le_of_ble_eq_true rfl) ?_
              refine o_nil ?_
              refine c_cond_f rfl ?_
              refine c_skip ?_
              refine c_use (J () trivial) ⟨Env.int rfl (by rw [h9, if_neg (fun g => hne g.1)]; omega), rfl, trivial⟩ (Picks.ent (by repeat (first | exact Picks.nil | (apply Picks.cons; · repeat (first | exact Pick.keep (Sl.isDup _ _ _) | exact Pick.keep (BlkR.isDup _ _ _) | exact Pick.here | exact Pick.own_sl | exact Pick.apd_sl | exact Pick.r_blk | exact Pick.sl_nil | exact Pick.own_nil | apply Pick.there)))))
        · intro J
          refine c_quiet rfl (by kernel_rfl) ?_
          refine q_val (v_move rfl) (Nat.le_of_ble_eq_true rfl) ?_
          refine q_val (v_move rfl) (Nat.le_of_ble_eq_true rfl) ?_
          refine q_val ((by first | exact v_len_form Tryd.underlying22 rfl | exact v_len_sl Tryd.underlying22 rfl (by repeat (first | exact Has.here | exact Has.sl_apd | exact Has.sl_own | exact Has.r_blk | apply Has.there)))) (Nat.le_of_ble_eq_true rfl) ?_
          refine q_val (v_move rfl) (Nat.le_of_ble_eq_true rfl) ?_
          refine q_val ((by first | exact v_len_form Tryd.underlying22 rfl | exact v_len_sl Tryd.underlying22 rfl (by repeat (first | exact Has.here | exact Has.sl_apd | exact Has.sl_own | exact Has.r_blk | apply Has.there)))) (Nat.le_of_ble_eq_true rfl) ?_
          refine q_val (v_min rfl rfl) (Nat.le_of_ble_eq_true rfl) ?_
          refine q_val (v_lt rfl rfl) (Nat.le_of_ble_eq_true rfl) ?_
          refine q_val (v_move rfl) (Nat.le_of_ble_eq_true rfl) ?_
          refine q_guard_t rfl rfl (fun g1 => ?_) (fun g1 => ?_)
          · refine q_val (v_move rfl) (Nat.le_of_ble_eq_true rfl) ?_
            refine q_on rfl rfl ?_
            refine q_val (v_move rfl) (Nat.le_of_ble_eq_true rfl) ?_
            refine q_on rfl rfl ?_
            refine q_val ((by first | exact v_indexAddrN Tryd.underlying22 ti9 rfl rfl (by repeat (first | exact Has.here | exact Has.sl_apd | exact Has.sl_own | exact Has.r_blk | apply Has.there)) (by omega) | exact v_indexAddr Tryd.underlying22 ti9 rfl rfl (by repeat (first | exact Has.here | exact Has.sl_apd | exact Has.sl_own | exact Has.r_blk | apply Has.there)) (by omega))) (Nat.le_of_ble_eq_true rfl) ?_
            refine q_on rfl rfl ?_
            refine q_val (v_load_str lone9 rfl (by repeat (first | exact Elem.sl (List.getElem?_eq_getElem (by omega)) | exact Elem.own (List.getElem?_eq_getElem (by omega)) | apply Elem.there))) (Nat.le_of_ble_eq_true rfl) ?_
            refine q_on rfl rfl ?_
            refine q_val (v_move rfl) (Nat.le_of_ble_eq_true rfl) ?_
            refine q_on rfl rfl ?_
            refine q_val (v_move rfl) (Nat.le_of_ble_eq_true rfl) ?_
            refine q_on rfl rfl ?_
            refine q_val ((by first | exact v_indexAddrN Tryd.underlying22 ti9 rfl rfl (by repeat (first | exact Has.here | exact Has.sl_apd | exact Has.sl_own | exact Has.r_blk | apply Has.there)) (by omega) | exact v_indexAddr Tryd.underlying22 ti9 rfl rfl (by repeat (first | exact Has.here | exact Has.sl_apd | exact Has.sl_own | exact Has.r_blk | apply Has.there)) (by omega))) (Nat.le_of_ble_eq_true rfl) ?_
            refine q_on rfl rfl ?_
            refine q_val (v_load_str lone9 rfl (by repeat (first | exact Elem.sl (List.getElem?_eq_getElem (by omega)) | exact Elem.own (List.getElem?_eq_getElem (by omega)) | apply Elem.there))) (Nat.le_of_ble_eq_true rfl) ?_
            refine q_on rfl rfl ?_
            refine q_val (v_seq rfl rfl) (Nat.le_of_ble_eq_true rfl) ?_
            refine q_val (v_pick_t rfl rfl) (Nat.le_of_ble_eq_true rfl) ?_
            refine q_val (v_move rfl) (Nat.le_of_ble_eq_true rfl) ?_
            refine q_guard_f rfl rfl (fun _ => ?_) (fun h_ => absurd h_ (head_max hr1 (by omega) (by omega)))
            refine q_val (v_move rfl) (Nat.le_of_ble_eq_true rfl) ?_
            refine q_on rfl rfl ?_
            refine q_val (v_move rfl) (Nat.le_of_ble_eq_true rfl) ?_
            refine q_on rfl rfl ?_
            refine q_val ((by first | exact v_len_form Tryd.underlying22 rfl | exact v_len_sl Tryd.underlying22 rfl (by repeat (first | exact Has.here | exact Has.sl_apd | exact Has.sl_own | exact Has.r_blk | apply Has.there)))) (Nat.le_of_ble_eq_true rfl) ?_
            refine q_on rfl rfl ?_
            refine q_val (v_move rfl) (Nat.le_of_ble_eq_true rfl) ?_
            refine q_on rfl rfl ?_
            refine q_val ((by first | exact v_len_form Tryd.underlying22 rfl | exact v_len_sl Tryd.underlying22 rfl (by repeat (first | exact Has.here | exact Has.sl_apd | exact Has.sl_own | exact Has.r_blk | apply Has.there)))) (Nat.le_of_ble_eq_true rfl) ?_
            refine q_on rfl rfl ?_
            refine q_val (v_min rfl rfl) (Nat.le_of_ble_eq_true rfl) ?_
            refine q_on rfl rfl ?_
            refine q_val (v_lt rfl rfl) (Nat.le_of_ble_eq_true rfl) ?_
            refine q_on rfl rfl ?_
            refine q_val (v_move rfl) (Nat.le_of_ble_eq_true rfl) ?_
            refine q_guard_t rfl rfl (fun g2 => ?_) (fun g2 => ?_)
            · refine q_val (v_move rfl) (Nat.le_of_ble_eq_true rfl) ?_
              refine q_on rfl rfl ?_
              refine q_val (v_move rfl) (Nat.le_of_ble_eq_true rfl) ?_
              refine q_on rfl rfl ?_
              refine q_val ((by first | exact v_len_form Tryd.underlying22 rfl | exact v_len_sl Tryd.underlying22 rfl (by repeat (first | exact Has.here | exact Has.sl_apd | exact Has.sl_own | exact Has.r_blk | apply Has.there)))) (Nat.le_of_ble_eq_true rfl) ?_
              refine q_on rfl rfl ?_
              refine q_val ((by first | exact v_sub64 rfl rfl (by omega) | exact v_sub rfl rfl)) (Nat.le_of_ble_eq_true rfl) ?_
              refine q_on rfl rfl ?_
              refine q_val (v_move rfl) (Nat.le_of_ble_eq_true rfl) ?_
              refine q_on rfl rfl ?_
              refine q_val ((by first | exact v_sub64 rfl rfl (by omega) | exact v_sub rfl rfl)) (Nat.le_of_ble_eq_true rfl) ?_
              refine q_on rfl rfl ?_
              refine q_val ((by first | exact v_indexAddrN Tryd.underlying22 ti9 rfl rfl (by repeat (first | exact Has.here | exact Has.sl_apd | exact Has.sl_own | exact Has.r_blk | apply Has.there)) (by omega) | exact v_indexAddr Tryd.underlying22 ti9 rfl rfl (by repeat (first | exact Has.here | exact Has.sl_apd | exact Has.sl_own | exact Has.r_blk | apply Has.there)) (by omega))) (Nat.le_of_ble_eq_true rfl) ?_
              refine q_on rfl rfl ?_
              refine q_val (v_load_str lone9 rfl (by repeat (first | exact Elem.sl (List.getElem?_eq_getElem (by omega)) | exact Elem.own (List.getElem?_eq_getElem (by omega)) | apply Elem.there))) (Nat.le_of_ble_eq_true rfl) ?_
              refine q_on rfl rfl ?_
              refine q_val (v_move rfl) (Nat.le_of_ble_eq_true rfl) ?_
              refine q_on rfl rfl ?_
              refine q_val (v_move rfl) (Nat.le_of_ble_eq_true rfl) ?_
              refine q_on rfl rfl ?_
              refine q_val ((by first | exact v_len_form Tryd.underlying22 rfl | exact v_len_sl Tryd.underlying22 rfl (by repeat (first | exact Has.here | exact Has.sl_apd | exact Has.sl_own | exact Has.r_blk | apply Has.there)))) (Nat.le_of_ble_eq_true rfl) ?_
              refine q_on rfl rfl ?_
              refine q_val ((by first | exact v_sub64 rfl rfl (by omega) | exact v_sub rfl rfl)) (Nat.le_of_ble_eq_true rfl) ?_
              refine q_on rfl rfl ?_
              refine q_val (v_move rfl) (Nat.le_of_ble_eq_true rfl) ?_
              refine q_on rfl rfl ?_
              refine q_val ((by first | exact v_sub64 rfl rfl (by omega) | exact v_sub rfl rfl)) (Nat.le_of_ble_eq_true rfl) ?_
              refine q_on rfl rfl ?_
              refine q_val ((by first | exact v_indexAddrN Tryd.underlying22 ti9 rfl rfl (by repeat (first | exact Has.here | exact Has.sl_apd | exact Has.sl_own | exact Has.r_blk | apply Has.there)) (by omega) | exact v_indexAddr Tryd.underlying22 ti9 rfl rfl (by repeat (first | exact Has.here | exact Has.sl_apd | exact Has.sl_own | exact Has.r_blk | apply Has.there)) (by omega))) (Nat.le_of_ble_eq_true rfl) ?_
              refine q_on rfl rfl ?_
              refine q_val (v_load_str lone9 rfl (by repeat (first | exact Elem.sl (List.getElem?_eq_getElem (by omega)) | exact Elem.own (List.getElem?_eq_getElem (by omega)) | apply Elem.there))) (Nat.le_of_ble_eq_true rfl) ?_
              refine q_on rfl rfl ?_
              refine q_val (v_seq rfl rfl) (Nat.le_of_ble_eq_true rfl) ?_
              refine q_on rfl rfl ?_
              refine q_val (v_pick_t rfl rfl) (Nat.le_of_ble_eq_true rfl) ?_
              refine q_val (v_pick_f rfl rfl) (Nat.le_of_ble_eq_true rfl) ?_
              refine q_nil ?_
              have t1 : ((xs.length : Int) - 1 - (r2 : Int)).toNat = xs.length - 1 - r2 := by omega
              have t2 : ((ys.length : Int) - 1 - (r2 : Int)).toNat = ys.length - 1 - r2 := by omega
              refine c_cond_p rfl (fun hh => ?_) (fun hh => ?_)
              · skip
                exact absurd (by simpa only [t1, t2] using hh) (tail_max hr2 (by omega) (by omega))
              · refine c_skip ?_
                refine c_use (J () trivial) ⟨rfl, trivial⟩ (Picks.ent (by repeat (first | exact Picks.nil | (apply Picks.cons; · repeat (first | exact Pick.keep (Sl.isDup _ _ _) | exact Pick.keep (BlkR.isDup _ _ _) | exact Pick.here | exact Pick.own_sl | exact Pick.apd_sl | exact Pick.r_blk | exact Pick.sl_nil | exact Pick.own_nil | apply Pick.there)))))
            · refine q_off rfl rfl rfl (Nat.le_of_ble_eq_true rfl) ?_
              refine q_off rfl rfl rfl (Nat.le_of_ble_eq_true rfl) ?_
              refine q_off rfl rfl rfl (Nat.le_of_ble_eq_true rfl) ?_
              refine q_off rfl rfl rfl (Nat.le_of_ble_eq_true rfl) ?_
              refine q_off rfl rfl rfl (Nat.le_of_ble_eq_true rfl) ?_
              refine q_off rfl rfl rfl (Nat.le_of_ble_eq_true rfl) ?_
              refine q_off rfl rfl rfl (Nat.le_of_ble_eq_true rfl) ?_
              refine q_off rfl rfl rfl (Nat.le_of_ble_eq_true rfl) ?_
              refine q_off rfl rfl rfl (Nat.le_of_ble_eq_true rfl) ?_
              refine q_off rfl rfl rfl (Nat.le_of_ble_eq_true rfl) ?_
              refine q_off rfl rfl rfl (Nat.le_of_ble_eq_true rfl) ?_
              refine q_off rfl rfl rfl (Nat.le_of_ble_eq_true rfl) ?_
              refine q_off rfl rfl rfl (Nat.le_of_ble_eq_true rfl) ?_
              refine q_off rfl rfl rfl (Nat.le_of_ble_eq_true rfl) ?_
              refine q_off rfl rfl rfl (Nat.le_of_ble_eq_true rfl) ?_
              refine q_off rfl rfl rfl (Nat.le_of_ble_eq_true rfl) ?_
              refine q_off rfl rfl rfl (Nat.le_of_ble_eq_true rfl) ?_
              refine q_on rfl rfl ?_
              refine q_val (v_pick_f rfl rfl) (Nat.le_of_ble_eq_true rfl) ?_
              refine q_val (v_pick_f rfl rfl) (Nat.le_of_ble_eq_true rfl) ?_
              refine q_nil ?_
              refine c_cond_f rfl ?_
              refine c_skip ?_
              refine c_use (J () trivial) ⟨rfl, trivial⟩ (Picks.ent (by repeat (first | exact Picks.nil | (apply Picks.cons; · repeat (first | exact Pick.keep (Sl.isDup _ _ _) | exact Pick.keep (BlkR.isDup _ _ _) | exact Pick.here | exact Pick.own_sl | exact Pick.apd_sl | exact Pick.r_blk | exact Pick.sl_nil | exact Pick.own_nil | apply Pick.there)))))
          · refine q_off rfl rfl rfl (Nat.le_of_ble_eq_true rfl) ?_
            refine q_off rfl rfl rfl (Nat.le_of_ble_eq_true rfl) ?_
            refine q_off rfl rfl rfl (Nat.le_of_ble_eq_true rfl) ?_
            refine q_off rfl rfl rfl (Nat.le_of_ble_eq_true rfl) ?_
            refine q_off rfl rfl rfl (Nat.le_of_ble_eq_true rfl) ?_
            refine q_off rfl rfl rfl (Nat.le_of_ble_eq_true rfl) ?_
            refine q_off rfl rfl rfl (Nat.le_of_ble_eq_true rfl) ?_
            refine q_off rfl rfl rfl (Nat.le_of_ble_eq_true rfl) ?_
            refine q_off rfl rfl rfl (Nat.le_of_ble_eq_true rfl) ?_
            refine q_val (v_pick_f rfl rfl) (Nat.le_of_ble_eq_true rfl) ?_
            refine q_val (v_move rfl) (Nat.le_of_ble_eq_true rfl) ?_
            refine q_on rfl rfl ?_
            refine q_val (v_move rfl) (Nat.le_of_ble_eq_true rfl) ?_
            refine q_on rfl rfl ?_
            refine q_val (v_move rfl) (Nat.le_of_ble_eq_true rfl) ?_
            refine q_on rfl rfl ?_
            refine q_val ((by first | exact v_len_form Tryd.underlying22 rfl | exact v_len_sl Tryd.underlying22 rfl (by repeat (first | exact Has.here | exact Has.sl_apd | exact Has.sl_own | exact Has.r_blk | apply Has.there)))) (Nat.le_of_ble_eq_true rfl) ?_
            refine q_on rfl rfl ?_
            refine q_val (v_move rfl) (Nat.le_of_ble_eq_true rfl) ?_
            refine q_on rfl rfl ?_
            refine q_val ((by first | exact v_len_form Tryd.underlying22 rfl | exact v_len_sl Tryd.underlying22 rfl (by repeat (first | exact Has.here | exact Has.sl_apd | exact Has.sl_own | exact Has.r_blk | apply Has.there)))) (Nat.le_of_ble_eq_true rfl) ?_
            refine q_on rfl rfl ?_
            refine q_val (v_min rfl rfl) (Nat.le_of_ble_eq_true rfl) ?_
            refine q_on rfl rfl ?_
            refine q_val (v_lt rfl rfl) (Nat.le_of_ble_eq_true rfl) ?_
            refine q_on rfl rfl ?_
            refine q_val (v_move rfl) (Nat.le_of_ble_eq_true rfl) ?_
            refine q_guard_t rfl rfl (fun g2 => ?_) (fun g2 => ?_)
            · refine q_val (v_move rfl) (Nat.le_of_ble_eq_true rfl) ?_
              refine q_on rfl rfl ?_
              refine q_val (v_move rfl) (Nat.le_of_ble_eq_true rfl) ?_
              refine q_on rfl rfl ?_
              refine q_val ((by first | exact v_len_form Tryd.underlying22 rfl | exact v_len_sl Tryd.underlying22 rfl (by repeat (first | exact Has.here | exact Has.sl_apd | exact Has.sl_own | exact Has.r_blk | apply Has.there)))) (Nat.le_of_ble_eq_true rfl) ?_
              refine q_on rfl rfl ?_
              refine q_val ((by first | exact v_sub64 rfl rfl (by omega) | exact v_sub rfl rfl)) (Nat.le_of_ble_eq_true rfl) ?_
              refine q_on rfl rfl ?_
              refine q_val (v_move rfl) (Nat.le_of_ble_eq_true rfl) ?_
              refine q_on rfl rfl ?_
              refine q_val ((by first | exact v_sub64 rfl rfl (by omega) | exact v_sub rfl rfl)) (Nat.le_of_ble_eq_true rfl) ?_
              refine q_on rfl rfl ?_
              refine q_val ((by first | exact v_indexAddrN Tryd.underlying22 ti9 rfl rfl (by repeat (first | exact Has.here | exact Has.sl_apd | exact Has.sl_own | exact Has.r_blk | apply Has.there)) (by omega) | exact v_indexAddr Tryd.underlying22 ti9 rfl rfl (by repeat (first | exact Has.here | exact Has.sl_apd | exact Has.sl_own | exact Has.r_blk | apply Has.there)) (by omega))) (Nat.le_of_ble_eq_true rfl) ?_
              refine q_on rfl rfl ?_
              refine q_val (v_load_str lone9 rfl (by repeat (first | exact Elem.sl (List.getElem?_eq_getElem (by omega)) | exact Elem.own (List.getElem?_eq_getElem (by omega)) | apply Elem.there))) (Nat.le_of_ble_eq_true rfl) ?_
              refine q_on rfl rfl ?_
              refine q_val (v_move rfl) (Nat.le_of_ble_eq_true rfl) ?_
              refine q_on rfl rfl ?_
              refine q_val (v_move rfl) (Nat.le_of_ble_eq_true rfl) ?_
              refine q_on rfl rfl ?_
              refine q_val ((by first | exact v_len_form Tryd.underlying22 rfl | exact v_len_sl Tryd.underlying22 rfl (by repeat (first | exact Has.here | exact Has.sl_apd | exact Has.sl_own | exact Has.r_blk | apply Has.there)))) (Nat.le_of_ble_eq_true rfl) ?_
              refine q_on rfl rfl ?_
              refine q_val ((by first | exact v_sub64 rfl rfl (by omega) | exact v_sub rfl rfl)) (Nat.le_of_ble_eq_true rfl) ?_
              refine q_on rfl rfl ?_
              refine q_val (v_move rfl) (Nat.le_of_ble_eq_true rfl) ?_
              refine q_on rfl rfl ?_
              refine q_val ((by first | exact v_sub64 rfl rfl (by omega) | exact v_sub rfl rfl)) (Nat.le_of_ble_eq_true rfl) ?_
              refine q_on rfl rfl ?_
              refine q_val ((by first | exact v_indexAddrN Tryd.underlying22 ti9 rfl rfl (by repeat (first | exact Has.here | exact Has.sl_apd | exact Has.sl_own | exact Has.r_blk | apply Has.there)) (by omega) | exact v_indexAddr Tryd.underlying22 ti9 rfl rfl (by repeat (first | exact Has.here | exact Has.sl_apd | exact Has.sl_own | exact Has.r_blk | apply Has.there)) (by omega))) (Nat.le_of_ble_eq_true rfl) ?_
              refine q_on rfl rfl ?_
              refine q_val (v_load_str lone9 rfl (by repeat (first | exact Elem.sl (List.getElem?_eq_getElem (by omega)) | exact Elem.own (List.getElem?_eq_getElem (by omega)) | apply Elem.there))) (Nat.le_of_ble_eq_true rfl) ?_
              refine q_on rfl rfl ?_
              refine q_val (v_seq rfl rfl) (Nat.le_of_ble_eq_true rfl) ?_
              refine q_on rfl rfl ?_
              refine q_val (v_pick_t rfl rfl) (Nat.le_of_ble_eq_true rfl) ?_
              refine q_val (v_pick_f rfl rfl) (Nat.le_of_ble_eq_true rfl) ?_
              refine q_nil ?_
              have t1 : ((xs.length : Int) - 1 - (r2 : Int)).toNat = xs.length - 1 - r2 := by omega
              have t2 : ((ys.length : Int) - 1 - (r2 : Int)).toNat = ys.length - 1 - r2 := by omega
              refine c_cond_p rfl (fun hh => ?_) (fun hh => ?_)
              · skip
                exact absurd (by simpa only [t1, t2] using hh) (tail_max hr2 (by omega) (by omega))
              · refine c_skip ?_
                refine c_use (J () trivial) ⟨rfl, trivial⟩ (Picks.ent (by repeat (first | exact Picks.nil | (apply Picks.cons; · repeat (first | exact Pick.keep (Sl.isDup _ _ _) | exact Pick.keep (BlkR.isDup _ _ _) | exact Pick.here | exact Pick.own_sl | exact Pick.apd_sl | exact Pick.r_blk | exact Pick.sl_nil | exact Pick.own_nil | apply Pick.there)))))
            · refine q_off rfl rfl rfl (Nat.le_of_ble_eq_true rfl) ?_
              refine q_off rfl rfl rfl (Nat.le_of_ble_eq_true rfl) ?_
              refine q_off rfl rfl rfl (Nat.le_of_ble_eq_true rfl) ?_
              refine q_off rfl rfl rfl (Nat.le_of_ble_eq_true rfl) ?_
              refine q_off rfl rfl rfl (Nat.le_of_ble_eq_true rfl) ?_
              refine q_off rfl rfl rfl (Nat.le_of_ble_eq_true rfl) ?_
              refine q_off rfl rfl rfl (Nat.le_of_ble_eq_true rfl) ?_
              refine q_off rfl rfl rfl (Nat.le_of_ble_eq_true rfl) ?_
              refine q_off rfl rfl rfl (Nat.le_of_ble_eq_true rfl) ?_
              refine q_off rfl rfl rfl (Nat.le_of_ble_eq_true rfl) ?_
              refine q_off rfl rfl rfl (Nat.le_of_ble_eq_true rfl) ?_
              refine q_off rfl rfl rfl (Nat.le_of_ble_eq_true rfl) ?_
              refine q_off rfl rfl rfl (Nat.le_of_ble_eq_true rfl) ?_
              refine q_off rfl rfl rfl (Nat.le_of_ble_eq_true rfl) ?_
              refine q_off rfl rfl rfl (Nat.le_of_ble_eq_true rfl) ?_
              refine q_off rfl rfl rfl (Nat.le_of_ble_eq_true rfl) ?_
              refine q_off rfl rfl rfl (Nat.le_of_ble_eq_true rfl) ?_
              refine q_on rfl rfl ?_
              refine q_val (v_pick_f rfl rfl) (Nat.le_of_ble_eq_true rfl) ?_
              refine q_val (v_pick_f rfl rfl) (Nat.le_of_ble_eq_true rfl) ?_
              refine q_nil ?_
              refine c_cond_f rfl ?_
              refine c_skip ?_
              refine c_use (J () trivial) ⟨rfl, trivial⟩ (Picks.ent (by repeat (first | exact Picks.nil | (apply Picks.cons; · repeat (first | exact Pick.keep (Sl.isDup _ _ _) | exact Pick.keep (BlkR.isDup _ _ _) | exact Pick.here | exact Pick.own_sl | exact Pick.apd_sl | exact Pick.r_blk | exact Pick.sl_nil | exact Pick.own_nil | apply Pick.there)))))
  · refine o_off rfl rfl rfl (Nat.le_of_ble_eq_true rfl) ?_
    refine o_off rfl rfl rfl (Nat.le_of_ble_eq_true rfl) ?_
    refine o_off rfl rfl rfl (Nat.le_of_ble_eq_true rfl) ?_
    refine o_val (v_pick_t rfl rfl) (Nat.le_of_ble_eq_true rfl) ?_
    refine o_nil ?_
    refine c_cond_t rfl ?_
    refine c_seq ?_
    refine c_region ?_
    refine o_step (s_callf cl12 (alive_con m) rfl (Nat.le_of_ble_eq_true rfl) (by repeat (first | exact Picks.nil | (apply Picks.cons; · repeat (first | exact Pick.keep (Sl.isDup _ _ _) | exact Pick.keep (BlkR.isDup _ _ _) | exact Pick.here | exact Pick.own_sl | exact Pick.apd_sl | exact Pick.r_blk | exact Pick.sl_nil | exact Pick.own_nil | apply Pick.there)))) fun _ _ => ?_)
    refine o_val (v_assign rfl) (Nat.le_of_ble_eq_true rfl) ?_
    refine o_nil ?_
    refine c_ret1 Tryd.func10 rfl rfl fun w O hS => ?_
    exact ⟨(), rfl, trivial, trivial⟩
end Go.Proofs.YtgokinfjlollpaaDoor

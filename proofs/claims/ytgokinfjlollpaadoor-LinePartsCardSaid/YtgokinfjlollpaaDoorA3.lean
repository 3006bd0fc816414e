import Derived.Test.YtgokinfjlollpaaDoorA2
namespace Go.Proofs.YtgokinfjlollpaaDoor
open Go Go.SL L01
attribute [local irreducible] Cfg Kont StepK Val Con Qops Any Sl Own Blk BlkR Rd Pu ExA AllA Has Pick Ent Elem Beside Callable TI Lone

theorem head_step {xs ys : Ls} {i : Nat} (h1 : i < xs.length) (h2 : i < ys.length) (he : xs.take i = ys.take i) (e : xs[i] = ys[i]) : xs.take (i + 1) = ys.take (i + 1) := by
  rw [List.take_succ_eq_append_getElem h1, List.take_succ_eq_append_getElem h2, he, e]
theorem head_stop {xs ys : Ls} {i : Nat} (hi : i ≤ xs.length) (hj : i ≤ ys.length) (he : xs.take i = ys.take i) (h : ∀ (h1 : i < xs.length) (h2 : i < ys.length), xs[i] ≠ ys[i]) : IsHead xs ys i := by
  refine ⟨hi, hj, he, fun k h1 h2 h3 => ?_⟩
  rcases Nat.lt_or_ge i k with hk | hk
  · exfalso
    refine h (by omega) (by omega) ?_
    have : (xs.take k)[i]? = (ys.take k)[i]? := by rw [h3]
    rw [List.getElem?_take, List.getElem?_take, if_pos hk, if_pos hk, List.getElem?_eq_getElem (by omega), List.getElem?_eq_getElem (by omega)] at this
    exact Option.some.inj this
  · exact hk
theorem tail_step {xs ys : Ls} {i : Nat} (h1 : i < xs.length) (h2 : i < ys.length) (he : xs.drop (xs.length - i) = ys.drop (ys.length - i)) (e : xs[xs.length - 1 - i] = ys[ys.length - 1 - i]) :
    xs.drop (xs.length - (i + 1)) = ys.drop (ys.length - (i + 1)) := by
  rw [List.drop_eq_getElem_cons (show xs.length - (i + 1) < xs.length by omega), List.drop_eq_getElem_cons (show ys.length - (i + 1) < ys.length by omega)]
  rw [show xs.length - (i + 1) + 1 = xs.length - i by omega, show ys.length - (i + 1) + 1 = ys.length - i by omega, he]
  congr 1
  simp only [show xs.length - (i + 1) = xs.length - 1 - i by omega, show ys.length - (i + 1) = ys.length - 1 - i by omega]
  exact e
theorem tail_stop {xs ys : Ls} {i : Nat} (hi : i ≤ xs.length) (hj : i ≤ ys.length) (he : xs.drop (xs.length - i) = ys.drop (ys.length - i)) (h : ∀ (h1 : i < xs.length) (h2 : i < ys.length), xs[xs.length - 1 - i] ≠ ys[ys.length - 1 - i]) : IsTail xs ys i := by
  refine ⟨hi, hj, he, fun k h1 h2 h3 => ?_⟩
  rcases Nat.lt_or_ge i k with hk | hk
  · exfalso
    refine h (by omega) (by omega) ?_
    have : (xs.drop (xs.length - k))[k - 1 - i]? = (ys.drop (ys.length - k))[k - 1 - i]? := by rw [h3]
    rw [List.getElem?_drop, List.getElem?_drop, List.getElem?_eq_getElem (by omega), List.getElem?_eq_getElem (by omega)] at this
    have := Option.some.inj this
    simp only [show xs.length - k + (k - 1 - i) = xs.length - 1 - i by omega, show ys.length - k + (k - 1 - i) = ys.length - 1 - i by omega] at this
    exact this
  · exact hk

set_option maxRecDepth 100000 in
theorem head_con (v u : Value) (xs ys : Ls) (hx : xs.length ≤ 1000) (hy : ys.length ≤ 1000) :
    Con Tryd.prog 27 [v, u] [Sl eStr v xs, Sl eStr u ys] (γ := Nat) (fun r => .int .i64 r) (fun r => IsHead xs ys r) (fun _ => []) := by
  refine con_of Tryd.func27 rfl (Nat.le_of_ble_eq_true rfl) fun w0 O0 => ?_
  refine c_seq ?_
  refine c_region ?_
  refine o_val (v_assign rfl) (Nat.le_of_ble_eq_true rfl) ?_
  refine o_nil ?_
  refine c_seq ?_
  refine c_region ?_
  refine o_val (v_assign rfl) (Nat.le_of_ble_eq_true rfl) ?_
  refine o_nil ?_
  refine c_seq ?_
  refine c_block ?_
  refine c_loop (γ := Nat) (fun i => xs.length - i) (fun i => i ≤ xs.length ∧ i ≤ ys.length ∧ xs.take i = ys.take i) (fun i => [(5, .int .i64 i), (0, v), (1, u)]) (fun _ => [Sl eStr v xs, Sl eStr u ys]) 0 ⟨Nat.zero_le _, Nat.zero_le _, rfl⟩ ⟨rfl, rfl, rfl, trivial⟩ (Ent.refl _) ?_
  intro i ⟨hi, hj, he⟩ IH
  refine c_seq ?_
  refine c_seq ?_
  refine c_quiet rfl (by kernel_rfl) ?_
  refine q_val (v_move rfl) (Nat.le_of_ble_eq_true rfl) ?_
  refine q_val (v_move rfl) (Nat.le_of_ble_eq_true rfl) ?_
  refine q_val ((by first | exact v_len_form Tryd.underlying22 rfl | exact v_len_sl Tryd.underlying22 rfl (by repeat (first | exact Has.here | exact Has.sl_apd | exact Has.sl_own | exact Has.r_blk | apply Has.there)))) (Nat.le_of_ble_eq_true rfl) ?_
  refine q_val (v_move rfl) (Nat.le_of_ble_eq_true rfl) ?_
  refine q_val ((by first | exact v_len_form Tryd.underlying22 rfl | exact v_len_sl Tryd.underlying22 rfl (by repeat (first | exact Has.here | exact Has.sl_apd | exact Has.sl_own | exact Has.r_blk | apply Has.there)))) (Nat.le_of_ble_eq_true rfl) ?_
  refine q_val (v_min rfl rfl) (Nat.le_of_ble_eq_true rfl) ?_
  refine q_val (v_lt rfl rfl) (Nat.le_of_ble_eq_true rfl) ?_
  refine q_val (v_move rfl) (Nat.le_of_ble_eq_true rfl) ?_
  refine q_guard_t rfl rfl (fun hlt => ?_) (fun hlt => ?_)
  · refine q_val (v_move rfl) (Nat.le_of_ble_eq_true rfl) ?_
    refine q_on rfl rfl ?_
    refine q_val (v_move rfl) (Nat.le_of_ble_eq_true rfl) ?_
    refine q_on rfl rfl ?_
    refine q_val ((by first | exact v_indexAddrN Tryd.underlying22 ti9 rfl rfl (by repeat (first | exact Has.here | exact Has.sl_apd | exact Has.sl_own | exact Has.r_blk | apply Has.there)) (by omega) | exact v_indexAddr Tryd.underlying22 ti9 rfl rfl (by repeat (first | exact Has.here | exact Has.sl_apd | exact Has.sl_own | exact Has.r_blk | apply Has.there)) (by omega))) (Nat.le_of_ble_eq_true rfl) ?_
    refine q_on rfl rfl ?_
    refine q_val (v_load_str lone9 rfl (by repeat (first | exact Elem.sl (List.getElem?_eq_getElem (by omega)) | exact Elem.own (List.getElem?_eq_getElem (by omega)) | apply Elem.there))) (Nat.le_of_ble_eq_true rfl) ?_
    refine q_on rfl rfl ?_
    refine q_val (v_move rfl) (Nat.le_of_ble_eq_true rfl) ?_
    refine q_on rfl rfl ?_
    refine q_val (v_move rfl) (Nat.le_of_ble_eq_true rfl) ?_
    refine q_on rfl rfl ?_
    refine q_val ((by first | exact v_indexAddrN Tryd.underlying22 ti9 rfl rfl (by repeat (first | exact Has.here | exact Has.sl_apd | exact Has.sl_own | exact Has.r_blk | apply Has.there)) (by omega) | exact v_indexAddr Tryd.underlying22 ti9 rfl rfl (by repeat (first | exact Has.here | exact Has.sl_apd | exact Has.sl_own | exact Has.r_blk | apply Has.there)) (by omega))) (Nat.le_of_ble_eq_true rfl) ?_
    refine q_on rfl rfl ?_
    refine q_val (v_load_str lone9 rfl (by repeat (first | exact Elem.sl (List.getElem?_eq_getElem (by omega)) | exact Elem.own (List.getElem?_eq_getElem (by omega)) | apply Elem.there))) (Nat.le_of_ble_eq_true rfl) ?_
    refine q_on rfl rfl ?_
    refine q_val (v_seq rfl rfl) (Nat.le_of_ble_eq_true rfl) ?_
    refine q_val (v_pick_t rfl rfl) (Nat.le_of_ble_eq_true rfl) ?_
    refine q_nil ?_
    refine c_cond_p rfl (fun heq => ?_) (fun heq => ?_)
    · refine c_skip ?_
      refine c_block ?_
      refine c_region ?_
      refine o_val (v_move rfl) (Nat.le_of_ble_eq_true rfl) ?_
      refine o_val ((by first | exact v_add64 rfl rfl (by omega) | exact v_add rfl rfl)) (Nat.le_of_ble_eq_true rfl) ?_
      refine o_val (v_assign rfl) (Nat.le_of_ble_eq_true rfl) ?_
      refine o_nil ?_
      refine c_inBlock ?_
      exact c_use (IH (i + 1) (by omega) ⟨by omega, by omega, head_step (by omega) (by omega) he heq⟩) ⟨rfl, rfl, rfl, trivial⟩ (Ent.refl _)
    · refine c_exit rfl ?_
      refine c_seq ?_
      refine c_region ?_
      refine o_val (v_move rfl) (Nat.le_of_ble_eq_true rfl) ?_
      refine o_val (v_assign rfl) (Nat.le_of_ble_eq_true rfl) ?_
      refine o_nil ?_
      refine c_ret1 Tryd.func27 rfl rfl fun w O hS => ?_
      exact ⟨i, rfl, head_stop hi hj he (fun _ _ => heq), trivial⟩
  · refine q_off rfl rfl rfl (Nat.le_of_ble_eq_true rfl) ?_
    refine q_off rfl rfl rfl (Nat.le_of_ble_eq_true rfl) ?_
    refine q_off rfl rfl rfl (Nat.le_of_ble_eq_true rfl) ?_
    refine q_off rfl rfl rfl (Nat.le_of_ble_eq_true rfl) ?_
    refine q_off rfl rfl rfl (Nat.le_of_ble_eq_true rfl) ?_
    refine q_off rfl rfl rfl (Nat.le_of_ble_eq_true rfl) ?_
    refine q_off rfl rfl rfl (Nat.le_of_ble_eq_true rfl) ?_
    refine q_off rfl rfl rfl (Nat.le_of_ble_eq_true rfl) ?_
    refine q_off rfl rfl rfl (Nat.le_of_ble_eq_true rfl) ?_
    refine q_val (v_pick_f rfl rfl) (Nat.le_of_ble_eq_true rfl) ?_
    refine q_nil ?_
    refine c_cond_f rfl ?_
    refine c_exit rfl ?_
    refine c_seq ?_
    refine c_region ?_
    refine o_val (v_move rfl) (Nat.le_of_ble_eq_true rfl) ?_
    refine o_val (v_assign rfl) (Nat.le_of_ble_eq_true rfl) ?_
    refine o_nil ?_
    refine c_ret1 Tryd.func27 rfl rfl fun w O hS => ?_
    exact ⟨i, rfl, head_stop hi hj he (fun _ _ => by omega), trivial⟩

set_option maxRecDepth 100000 in
theorem tail_con (v u : Value) (xs ys : Ls) (hx : xs.length ≤ 1000) (hy : ys.length ≤ 1000) :
    Con Tryd.prog 29 [v, u] [Sl eStr v xs, Sl eStr u ys] (γ := Nat) (fun r => .int .i64 r) (fun r => IsTail xs ys r) (fun _ => []) := by
  refine con_of Tryd.func29 rfl (Nat.le_of_ble_eq_true rfl) fun w0 O0 => ?_
  refine c_seq ?_
  refine c_region ?_
  refine o_val (v_assign rfl) (Nat.le_of_ble_eq_true rfl) ?_
  refine o_nil ?_
  refine c_seq ?_
  refine c_region ?_
  refine o_val (v_assign rfl) (Nat.le_of_ble_eq_true rfl) ?_
  refine o_nil ?_
  refine c_seq ?_
  refine c_block ?_
  refine c_loop (γ := Nat) (fun i => xs.length - i) (fun i => i ≤ xs.length ∧ i ≤ ys.length ∧ xs.drop (xs.length - i) = ys.drop (ys.length - i)) (fun i => [(5, .int .i64 i), (0, v), (1, u)]) (fun _ => [Sl eStr v xs, Sl eStr u ys]) 0 ⟨Nat.zero_le _, Nat.zero_le _, by simp⟩ ⟨rfl, rfl, rfl, trivial⟩ (Ent.refl _) ?_
  intro i ⟨hi, hj, he⟩ IH
  refine c_seq ?_
  refine c_seq ?_
  refine c_quiet rfl (by kernel_rfl) ?_
  refine q_val (v_move rfl) (Nat.le_of_ble_eq_true rfl) ?_
  refine q_val (v_move rfl) (Nat.le_of_ble_eq_true rfl) ?_
  refine q_val ((by first | exact v_len_form Tryd.underlying22 rfl | exact v_len_sl Tryd.underlying22 rfl (by repeat (first | exact Has.here | exact Has.sl_apd | exact Has.sl_own | exact Has.r_blk | apply Has.there)))) (Nat.le_of_ble_eq_true rfl) ?_
  refine q_val (v_move rfl) (Nat.le_of_ble_eq_true rfl) ?_
  refine q_val ((by first | exact v_len_form Tryd.underlying22 rfl | exact v_len_sl Tryd.underlying22 rfl (by repeat (first | exact Has.here | exact Has.sl_apd | exact Has.sl_own | exact Has.r_blk | apply Has.there)))) (Nat.le_of_ble_eq_true rfl) ?_
  refine q_val (v_min rfl rfl) (Nat.le_of_ble_eq_true rfl) ?_
  refine q_val (v_lt rfl rfl) (Nat.le_of_ble_eq_true rfl) ?_
  refine q_val (v_move rfl) (Nat.le_of_ble_eq_true rfl) ?_
  refine q_guard_t rfl rfl (fun hlt => ?_) (fun hlt => ?_)
  · refine q_val (v_move rfl) (Nat.le_of_ble_eq_true rfl) ?_
    refine q_on rfl rfl ?_
    refine q_val (v_move rfl) (Nat.le_of_ble_eq_true rfl) ?_
    refine q_on rfl rfl ?_
    refine q_val ((by first | exact v_len_form Tryd.underlying22 rfl | exact v_len_sl Tryd.underlying22 rfl (by repeat (first | exact Has.here | exact Has.sl_apd | exact Has.sl_own | exact Has.r_blk | apply Has.there)))) (Nat.le_of_ble_eq_true rfl) ?_
    refine q_on rfl rfl ?_
    refine q_val ((by first | exact v_sub64 rfl rfl (by omega) | exact v_sub rfl rfl)) (Nat.le_of_ble_eq_true rfl) ?_
    refine q_on rfl rfl ?_
    refine q_val (v_move rfl) (Nat.le_of_ble_eq_true rfl) ?_
    refine q_on rfl rfl ?_
    refine q_val ((by first | exact v_sub64 rfl rfl (by omega) | exact v_sub rfl rfl)) (Nat.le_of_ble_eq_true rfl) ?_
    refine q_on rfl rfl ?_
    refine q_val ((by first | exact v_indexAddrN Tryd.underlying22 ti9 rfl rfl (by repeat (first | exact Has.here | exact Has.sl_apd | exact Has.sl_own | exact Has.r_blk | apply Has.there)) (by omega) | exact v_indexAddr Tryd.underlying22 ti9 rfl rfl (by repeat (first | exact Has.here | exact Has.sl_apd | exact Has.sl_own | exact Has.r_blk | apply Has.there)) (by omega))) (Nat.le_of_ble_eq_true rfl) ?_
    refine q_on rfl rfl ?_
    refine q_val (v_load_str lone9 rfl (by repeat (first | exact Elem.sl (List.getElem?_eq_getElem (by omega)) | exact Elem.own (List.getElem?_eq_getElem (by omega)) | apply Elem.there))) (Nat.le_of_ble_eq_true rfl) ?_
    refine q_on rfl rfl ?_
    refine q_val (v_move rfl) (Nat.le_of_ble_eq_true rfl) ?_
    refine q_on rfl rfl ?_
    refine q_val (v_move rfl) (Nat.le_of_ble_eq_true rfl) ?_
    refine q_on rfl rfl ?_
    refine q_val ((by first | exact v_len_form Tryd.underlying22 rfl | exact v_len_sl Tryd.underlying22 rfl (by repeat (first | exact Has.here | exact Has.sl_apd | exact Has.sl_own | exact Has.r_blk | apply Has.there)))) (Nat.le_of_ble_eq_true rfl) ?_
    refine q_on rfl rfl ?_
    refine q_val ((by first | exact v_sub64 rfl rfl (by omega) | exact v_sub rfl rfl)) (Nat.le_of_ble_eq_true rfl) ?_
    refine q_on rfl rfl ?_
    refine q_val (v_move rfl) (Nat.le_of_ble_eq_true rfl) ?_
    refine q_on rfl rfl ?_
    refine q_val ((by first | exact v_sub64 rfl rfl (by omega) | exact v_sub rfl rfl)) (Nat.le_of_ble_eq_true rfl) ?_
    refine q_on rfl rfl ?_
    refine q_val ((by first | exact v_indexAddrN Tryd.underlying22 ti9 rfl rfl (by repeat (first | exact Has.here | exact Has.sl_apd | exact Has.sl_own | exact Has.r_blk | apply Has.there)) (by omega) | exact v_indexAddr Tryd.underlying22 ti9 rfl rfl (by repeat (first | exact Has.here | exact Has.sl_apd | exact Has.sl_own | exact Has.r_blk | apply Has.there)) (by omega))) (Nat.le_of_ble_eq_true rfl) ?_
    refine q_on rfl rfl ?_
    refine q_val (v_load_str lone9 rfl (by repeat (first | exact Elem.sl (List.getElem?_eq_getElem (by omega)) | exact Elem.own (List.getElem?_eq_getElem (by omega)) | apply Elem.there))) (Nat.le_of_ble_eq_true rfl) ?_
    refine q_on rfl rfl ?_
    refine q_val (v_seq rfl rfl) (Nat.le_of_ble_eq_true rfl) ?_
    refine q_val (v_pick_t rfl rfl) (Nat.le_of_ble_eq_true rfl) ?_
    refine q_nil ?_
    have e1 : ((xs.length : Int) - 1 - (i : Int)).toNat = xs.length - 1 - i := by omega
    have e2 : ((ys.length : Int) - 1 - (i : Int)).toNat = ys.length - 1 - i := by omega
    refine c_cond_p rfl (fun heq => ?_) (fun heq => ?_)
    · refine c_skip ?_
      refine c_block ?_
      refine c_region ?_
      refine o_val (v_move rfl) (Nat.le_of_ble_eq_true rfl) ?_
      refine o_val ((by first | exact v_add64 rfl rfl (by omega) | exact v_add rfl rfl)) (Nat.le_of_ble_eq_true rfl) ?_
      refine o_val (v_assign rfl) (Nat.le_of_ble_eq_true rfl) ?_
      refine o_nil ?_
      refine c_inBlock ?_
      exact c_use (IH (i + 1) (by omega) ⟨by omega, by omega, tail_step (by omega) (by omega) he (by simpa only [e1, e2] using heq)⟩) ⟨rfl, rfl, rfl, trivial⟩ (Ent.refl _)
    · refine c_exit rfl ?_
      refine c_seq ?_
      refine c_region ?_
      refine o_val (v_move rfl) (Nat.le_of_ble_eq_true rfl) ?_
      refine o_val (v_assign rfl) (Nat.le_of_ble_eq_true rfl) ?_
      refine o_nil ?_
      refine c_ret1 Tryd.func29 rfl rfl fun w O hS => ?_
      exact ⟨i, rfl, tail_stop hi hj he (fun _ _ => by simpa only [e1, e2] using heq), trivial⟩
  · refine q_off rfl rfl rfl (Nat.le_of_ble_eq_true rfl) ?_
    refine q_off rfl rfl rfl (Nat.le_of_ble_eq_true rfl) ?_
    refine q_off rfl rfl rfl (Nat.le_of_ble_eq_true rfl) ?_
    refine q_off rfl rfl rfl (Nat.le_of_ble_eq_true rfl) ?_
    refine q_off rfl rfl rfl (Nat.le_of_ble_eq_true rfl) ?_
    refine q_off rfl rfl rfl (Nat.le_of_ble_eq_true rfl) ?_
    refine q_off rfl rfl rfl (Nat.le_of_ble_eq_true rfl) ?_
    refine q_off rfl rfl rfl (Nat.le_of_ble_eq_true rfl) ?_
    refine q_off rfl rfl rfl (Nat.le_of_ble_eq_true rfl) ?_
    refine q_off rfl rfl rfl (Nat.le_of_ble_eq_true rfl) ?_
    refine q_off rfl rfl rfl (Nat.le_of_ble_eq_true rfl) ?_
    refine q_off rfl rfl rfl (Nat.le_of_ble_eq_true rfl) ?_
    refine q_off rfl rfl rfl (Nat.le_of_ble_eq_true rfl) ?_
    refine q_off rfl rfl rfl (Nat.le_of_ble_eq_true rfl) ?_
    refine q_off rfl rfl rfl (Nat.le_of_ble_eq_true rfl) ?_
    refine q_off rfl rfl rfl (Nat.le_of_ble_eq_true rfl) ?_
    refine q_off rfl rfl rfl (Nat.le_of_ble_eq_true rfl) ?_
    refine q_val (v_pick_f rfl rfl) (Nat.le_of_ble_eq_true rfl) ?_
    refine q_nil ?_
    refine c_cond_f rfl ?_
    refine c_exit rfl ?_
    refine c_seq ?_
    refine c_region ?_
    refine o_val (v_move rfl) (Nat.le_of_ble_eq_true rfl) ?_
    refine o_val (v_assign rfl) (Nat.le_of_ble_eq_true rfl) ?_
    refine o_nil ?_
    refine c_ret1 Tryd.func29 rfl rfl fun w O hS => ?_
    exact ⟨i, rfl, tail_stop hi hj he (fun _ _ => by omega), trivial⟩

set_option maxRecDepth 100000 in
theorem head_ref_con (v u : Value) (xs ys : Ls) (hx : xs.length ≤ 1000) (hy : ys.length ≤ 1000) :
    Con Tryd.prog 28 [v, u] [Sl eStr v xs, Sl eStr u ys] (γ := Nat) (fun r => .int .i64 r) (fun r => IsHead xs ys r) (fun _ => []) := by
  refine Con.form (v := v) (xs := xs) (by repeat (first | exact Has.here | exact Has.sl_apd | exact Has.sl_own | exact Has.r_blk | apply Has.there)) ?_
  rintro a0 c0 rfl hc0 -
  refine Con.form (v := u) (xs := ys) (by repeat (first | exact Has.here | exact Has.sl_apd | exact Has.sl_own | exact Has.r_blk | apply Has.there)) ?_
  rintro a1 c1 rfl hc1 -
  refine con_of Tryd.func28 rfl (Nat.le_of_ble_eq_true rfl) fun w0 O0 => ?_
  refine c_seq ?_
  refine c_region ?_
  refine o_val (v_assign rfl) (Nat.le_of_ble_eq_true rfl) ?_
  refine o_nil ?_
  refine c_seq ?_
  refine c_region ?_
  refine o_val (v_assign rfl) (Nat.le_of_ble_eq_true rfl) ?_
  refine o_nil ?_
  refine c_seq ?_
  refine c_seq ?_
  refine c_region ?_
  refine o_val (v_assign rfl) (Nat.le_of_ble_eq_true rfl) ?_
  refine o_nil ?_
  refine c_block ?_
  refine c_loop (γ := Nat × Nat) (fun i => xs.length + 1 - i.1) (fun i => 1 ≤ i.1 ∧ i.1 ≤ 1001 ∧ i.2 < i.1 ∧ i.2 ≤ xs.length ∧ i.2 ≤ ys.length ∧ xs.take i.2 = ys.take i.2 ∧ ∀ k, i.2 < k → k < i.1 → k ≤ xs.length → k ≤ ys.length → xs.take k ≠ ys.take k) (fun i => [(6, .int .i64 i.1), (5, .int .i64 i.2), (0, .slice a0 xs.length c0), (1, .slice a1 ys.length c1)]) (fun _ => [Sl eStr (.slice a0 xs.length c0) xs, Sl eStr (.slice a1 ys.length c1) ys]) (1, 0) ⟨Nat.le_refl _, by omega, by omega, Nat.zero_le _, Nat.zero_le _, rfl, fun k h1 h2 => by dsimp at *; omega⟩ ⟨rfl, rfl, rfl, rfl, trivial⟩ (Ent.refl _) ?_
  rintro ⟨i, b⟩ ⟨h1, h2, h3, h4, h5, h6, h7⟩ IH
  dsimp only at *
  refine c_seq ?_
  refine c_seq ?_
  refine c_region ?_
  refine o_val (v_move rfl) (Nat.le_of_ble_eq_true rfl) ?_
  refine o_val (v_move rfl) (Nat.le_of_ble_eq_true rfl) ?_
  refine o_val ((by first | exact v_len_form Tryd.underlying22 rfl | exact v_len_sl Tryd.underlying22 rfl (by repeat (first | exact Has.here | exact Has.sl_apd | exact Has.sl_own | exact Has.r_blk | apply Has.there)))) (Nat.le_of_ble_eq_true rfl) ?_
  refine o_val (v_le rfl rfl) (Nat.le_of_ble_eq_true rfl) ?_
  refine o_val (v_move rfl) (Nat.le_of_ble_eq_true rfl) ?_
  have fin : ∀ (hk : ¬ ((i : Int) ≤ xs.length ∧ (i : Int) ≤ ys.length)), IsHead xs ys b := fun hk => ⟨h4, h5, h6, fun k g1 g2 g3 => by
    rcases Nat.lt_or_ge b k with hb | hb
    · exact absurd g3 (h7 k hb (by omega) g1 g2)
    · exact hb⟩
  refine o_guard_t rfl rfl (fun hlt => ?_) (fun hlt => ?_)
  · refine o_val (v_move rfl) (Nat.le_of_ble_eq_true rfl) ?_
    refine o_on rfl rfl ?_
    refine o_val (v_move rfl) (Nat.le_of_ble_eq_true rfl) ?_
    refine o_on rfl rfl ?_
    refine o_val ((by first | exact v_len_form Tryd.underlying22 rfl | exact v_len_sl Tryd.underlying22 rfl (by repeat (first | exact Has.here | exact Has.sl_apd | exact Has.sl_own | exact Has.r_blk | apply Has.there)))) (Nat.le_of_ble_eq_true rfl) ?_
    refine o_on rfl rfl ?_
    refine o_val (v_le rfl rfl) (Nat.le_of_ble_eq_true rfl) ?_
    refine o_val (v_pick_t rfl rfl) (Nat.le_of_ble_eq_true rfl) ?_
    refine o_nil ?_
    refine c_cond_p rfl (fun hle => ?_) (fun hle => ?_)
    · refine c_skip ?_
      refine c_seq ?_
      refine c_block ?_
      refine c_seq ?_
      refine c_quiet rfl (by kernel_rfl) ?_
      refine q_val (v_move rfl) (Nat.le_of_ble_eq_true rfl) ?_
      refine q_val (v_move rfl) (Nat.le_of_ble_eq_true rfl) ?_
      refine q_slice Tryd.underlying22 ti9 rfl (by repeat (first | exact Pick.keep (Sl.isDup _ _ _) | exact Pick.keep (BlkR.isDup _ _ _) | exact Pick.here | exact Pick.own_sl | exact Pick.apd_sl | exact Pick.r_blk | exact Pick.sl_nil | exact Pick.own_nil | apply Pick.there)) (.inl ⟨rfl, rfl⟩) (.inr ⟨_, _, _, rfl, rfl, by omega, rfl⟩) (.inl ⟨rfl, rfl⟩) (by omega) (by first | omega | exact Nat.le_refl _) (by omega) (by omega) (Nat.le_of_ble_eq_true rfl) (Picks.ent (by repeat (first | exact Picks.nil | (apply Picks.cons; · repeat (first | exact Pick.keep (Sl.isDup _ _ _) | exact Pick.keep (BlkR.isDup _ _ _) | exact Pick.here | exact Pick.own_sl | exact Pick.apd_sl | exact Pick.r_blk | exact Pick.sl_nil | exact Pick.own_nil | apply Pick.there))))) ?_
      refine q_val (v_move rfl) (Nat.le_of_ble_eq_true rfl) ?_
      refine q_val (v_move rfl) (Nat.le_of_ble_eq_true rfl) ?_
      refine q_slice Tryd.underlying22 ti9 rfl (by repeat (first | exact Pick.keep (Sl.isDup _ _ _) | exact Pick.keep (BlkR.isDup _ _ _) | exact Pick.here | exact Pick.own_sl | exact Pick.apd_sl | exact Pick.r_blk | exact Pick.sl_nil | exact Pick.own_nil | apply Pick.there)) (.inl ⟨rfl, rfl⟩) (.inr ⟨_, _, _, rfl, rfl, by omega, rfl⟩) (.inl ⟨rfl, rfl⟩) (by omega) (by first | omega | exact Nat.le_refl _) (by omega) (by omega) (Nat.le_of_ble_eq_true rfl) (Picks.ent (by repeat (first | exact Picks.nil | (apply Picks.cons; · repeat (first | exact Pick.keep (Sl.isDup _ _ _) | exact Pick.keep (BlkR.isDup _ _ _) | exact Pick.here | exact Pick.own_sl | exact Pick.apd_sl | exact Pick.r_blk | exact Pick.sl_nil | exact Pick.own_nil | apply Pick.there))))) ?_
      refine q_call cl24 (same_ref_con (cutV a0 0 i c0 1) (cutV a1 0 i c1 1) (xs.take i) (ys.take i) (by simp; omega) (by simp; omega)) (fun _ _ => rfl) rfl (Nat.le_of_ble_eq_true rfl) (by repeat (first | exact Picks.nil | (apply Picks.cons; · repeat (first | exact Pick.keep (Sl.isDup _ _ _) | exact Pick.keep (BlkR.isDup _ _ _) | exact Pick.here | exact Pick.own_sl | exact Pick.apd_sl | exact Pick.r_blk | exact Pick.sl_nil | exact Pick.own_nil | apply Pick.there)))) ?_
      refine q_nil ?_
      refine c_cond_p rfl (fun hs => ?_) (fun hs => ?_)
      · refine c_region ?_
        refine o_val (v_move rfl) (Nat.le_of_ble_eq_true rfl) ?_
        refine o_val (v_assign rfl) (Nat.le_of_ble_eq_true rfl) ?_
        refine o_nil ?_
        refine c_inBlock ?_
        refine c_region ?_
        refine o_val (v_move rfl) (Nat.le_of_ble_eq_true rfl) ?_
        refine o_val ((by first | exact v_add64 rfl rfl (by omega) | exact v_add rfl rfl)) (Nat.le_of_ble_eq_true rfl) ?_
        refine o_val (v_assign rfl) (Nat.le_of_ble_eq_true rfl) ?_
        refine o_nil ?_
        refine c_use (IH (i + 1, i) (by dsimp only; omega) ⟨by dsimp only; omega, by dsimp only; omega, by dsimp only; omega, by dsimp only; omega, by dsimp only; omega, by simpa using hs, fun k g1 g2 => by dsimp only at *; omega⟩) ⟨rfl, rfl, rfl, rfl, trivial⟩ (Picks.ent (by repeat (first | exact Picks.nil | (apply Picks.cons; · repeat (first | exact Pick.keep (Sl.isDup _ _ _) | exact Pick.keep (BlkR.isDup _ _ _) | exact Pick.here | exact Pick.own_sl | exact Pick.apd_sl | exact Pick.r_blk | exact Pick.sl_nil | exact Pick.own_nil | apply Pick.there)))))
      · refine c_skip ?_
        refine c_inBlock ?_
        refine c_region ?_
        refine o_val (v_move rfl) (Nat.le_of_ble_eq_true rfl) ?_
        refine o_val ((by first | exact v_add64 rfl rfl (by omega) | exact v_add rfl rfl)) (Nat.le_of_ble_eq_true rfl) ?_
        refine o_val (v_assign rfl) (Nat.le_of_ble_eq_true rfl) ?_
        refine o_nil ?_
        refine c_use (IH (i + 1, b) (by dsimp only; omega) ⟨by dsimp only; omega, by dsimp only; omega, by dsimp only; omega, h4, h5, h6, fun k g1 g2 g3 g4 g5 => ?_⟩) ⟨rfl, rfl, rfl, rfl, trivial⟩ (Picks.ent (by repeat (first | exact Picks.nil | (apply Picks.cons; · repeat (first | exact Pick.keep (Sl.isDup _ _ _) | exact Pick.keep (BlkR.isDup _ _ _) | exact Pick.here | exact Pick.own_sl | exact Pick.apd_sl | exact Pick.r_blk | exact Pick.sl_nil | exact Pick.own_nil | apply Pick.there)))))
        rcases Nat.lt_or_ge k i with hk | hk
        · exact h7 k g1 hk g3 g4 g5
        · obtain rfl : k = i := by dsimp only at *; omega
          exact hs g5
    · refine c_exit rfl ?_
      refine c_seq ?_
      refine c_region ?_
      refine o_val (v_move rfl) (Nat.le_of_ble_eq_true rfl) ?_
      refine o_val (v_assign rfl) (Nat.le_of_ble_eq_true rfl) ?_
      refine o_nil ?_
      refine c_ret1 Tryd.func28 rfl rfl fun w O hS => ?_
      exact ⟨b, rfl, fin (by omega), trivial⟩
  · refine o_off rfl rfl rfl (Nat.le_of_ble_eq_true rfl) ?_
    refine o_off rfl rfl rfl (Nat.le_of_ble_eq_true rfl) ?_
    refine o_off rfl rfl rfl (Nat.le_of_ble_eq_true rfl) ?_
    refine o_off rfl rfl rfl (Nat.le_of_ble_eq_true rfl) ?_
    refine o_val (v_pick_f rfl rfl) (Nat.le_of_ble_eq_true rfl) ?_
    refine o_nil ?_
    refine c_cond_f rfl ?_
    refine c_exit rfl ?_
    refine c_seq ?_
    refine c_region ?_
    refine o_val (v_move rfl) (Nat.le_of_ble_eq_true rfl) ?_
    refine o_val (v_assign rfl) (Nat.le_of_ble_eq_true rfl) ?_
    refine o_nil ?_
    refine c_ret1 Tryd.func28 rfl rfl fun w O hS => ?_
    exact ⟨b, rfl, fin (by omega), trivial⟩

set_option maxRecDepth 100000 in
theorem tail_ref_con (v u : Value) (xs ys : Ls) (hx : xs.length ≤ 1000) (hy : ys.length ≤ 1000) :
    Con Tryd.prog 30 [v, u] [Sl eStr v xs, Sl eStr u ys] (γ := Nat) (fun r => .int .i64 r) (fun r => IsTail xs ys r) (fun _ => []) := by
  refine Con.form (v := v) (xs := xs) (by repeat (first | exact Has.here | exact Has.sl_apd | exact Has.sl_own | exact Has.r_blk | apply Has.there)) ?_
  rintro a0 c0 rfl hc0 -
  refine Con.form (v := u) (xs := ys) (by repeat (first | exact Has.here | exact Has.sl_apd | exact Has.sl_own | exact Has.r_blk | apply Has.there)) ?_
  rintro a1 c1 rfl hc1 -
  refine con_of Tryd.func30 rfl (Nat.le_of_ble_eq_true rfl) fun w0 O0 => ?_
  refine c_seq ?_
  refine c_region ?_
  refine o_val (v_assign rfl) (Nat.le_of_ble_eq_true rfl) ?_
  refine o_nil ?_
  refine c_seq ?_
  refine c_region ?_
  refine o_val (v_assign rfl) (Nat.le_of_ble_eq_true rfl) ?_
  refine o_nil ?_
  refine c_seq ?_
  refine c_seq ?_
  refine c_region ?_
  refine o_val (v_assign rfl) (Nat.le_of_ble_eq_true rfl) ?_
  refine o_nil ?_
  refine c_block ?_
  refine c_loop (γ := Nat × Nat) (fun i => xs.length + 1 - i.1) (fun i => 1 ≤ i.1 ∧ i.1 ≤ 1001 ∧ i.2 < i.1 ∧ i.2 ≤ xs.length ∧ i.2 ≤ ys.length ∧ xs.drop (xs.length - i.2) = ys.drop (ys.length - i.2) ∧ ∀ k, i.2 < k → k < i.1 → k ≤ xs.length → k ≤ ys.length → xs.drop (xs.length - k) ≠ ys.drop (ys.length - k)) (fun i => [(6, .int .i64 i.1), (5, .int .i64 i.2), (0, .slice a0 xs.length c0), (1, .slice a1 ys.length c1)]) (fun _ => [Sl eStr (.slice a0 xs.length c0) xs, Sl eStr (.slice a1 ys.length c1) ys]) (1, 0) ⟨Nat.le_refl _, by omega, by omega, Nat.zero_le _, Nat.zero_le _, by simp, fun k h1 h2 => by dsimp at *; omega⟩ ⟨rfl, rfl, rfl, rfl, trivial⟩ (Ent.refl _) ?_
  rintro ⟨i, b⟩ ⟨h1, h2, h3, h4, h5, h6, h7⟩ IH
  dsimp only at *
  refine c_seq ?_
  refine c_seq ?_
  refine c_region ?_
  refine o_val (v_move rfl) (Nat.le_of_ble_eq_true rfl) ?_
  refine o_val (v_move rfl) (Nat.le_of_ble_eq_true rfl) ?_
  refine o_val ((by first | exact v_len_form Tryd.underlying22 rfl | exact v_len_sl Tryd.underlying22 rfl (by repeat (first | exact Has.here | exact Has.sl_apd | exact Has.sl_own | exact Has.r_blk | apply Has.there)))) (Nat.le_of_ble_eq_true rfl) ?_
  refine o_val (v_le rfl rfl) (Nat.le_of_ble_eq_true rfl) ?_
  refine o_val (v_move rfl) (Nat.le_of_ble_eq_true rfl) ?_
  have fin : ∀ (hk : ¬ ((i : Int) ≤ xs.length ∧ (i : Int) ≤ ys.length)), IsTail xs ys b := fun hk => ⟨h4, h5, h6, fun k g1 g2 g3 => by
    rcases Nat.lt_or_ge b k with hb | hb
    · exact absurd g3 (h7 k hb (by omega) g1 g2)
    · exact hb⟩
  refine o_guard_t rfl rfl (fun hlt => ?_) (fun hlt => ?_)
  · refine o_val (v_move rfl) (Nat.le_of_ble_eq_true rfl) ?_
    refine o_on rfl rfl ?_
    refine o_val (v_move rfl) (Nat.le_of_ble_eq_true rfl) ?_
    refine o_on rfl rfl ?_
    refine o_val ((by first | exact v_len_form Tryd.underlying22 rfl | exact v_len_sl Tryd.underlying22 rfl (by repeat (first | exact Has.here | exact Has.sl_apd | exact Has.sl_own | exact Has.r_blk | apply Has.there)))) (Nat.le_of_ble_eq_true rfl) ?_
    refine o_on rfl rfl ?_
    refine o_val (v_le rfl rfl) (Nat.le_of_ble_eq_true rfl) ?_
    refine o_val (v_pick_t rfl rfl) (Nat.le_of_ble_eq_true rfl) ?_
    refine o_nil ?_
    refine c_cond_p rfl (fun hle => ?_) (fun hle => ?_)
    · refine c_skip ?_
      refine c_seq ?_
      refine c_block ?_
      refine c_seq ?_
      refine c_quiet rfl (by kernel_rfl) ?_
      refine q_val (v_move rfl) (Nat.le_of_ble_eq_true rfl) ?_
      refine q_val (v_move rfl) (Nat.le_of_ble_eq_true rfl) ?_
      refine q_val ((by first | exact v_len_form Tryd.underlying22 rfl | exact v_len_sl Tryd.underlying22 rfl (by repeat (first | exact Has.here | exact Has.sl_apd | exact Has.sl_own | exact Has.r_blk | apply Has.there)))) (Nat.le_of_ble_eq_true rfl) ?_
      refine q_val (v_move rfl) (Nat.le_of_ble_eq_true rfl) ?_
      refine q_val ((by first | exact v_sub64 rfl rfl (by omega) | exact v_sub rfl rfl)) (Nat.le_of_ble_eq_true rfl) ?_
      refine q_slice Tryd.underlying22 ti9 rfl (by repeat (first | exact Pick.keep (Sl.isDup _ _ _) | exact Pick.keep (BlkR.isDup _ _ _) | exact Pick.here | exact Pick.own_sl | exact Pick.apd_sl | exact Pick.r_blk | exact Pick.sl_nil | exact Pick.own_nil | apply Pick.there)) (.inr ⟨_, _, _, rfl, rfl, by omega, rfl⟩) (.inl ⟨rfl, rfl, rfl⟩) (.inl ⟨rfl, rfl⟩) (by omega) (by first | omega | exact Nat.le_refl _) (by omega) (by omega) (Nat.le_of_ble_eq_true rfl) (Picks.ent (by repeat (first | exact Picks.nil | (apply Picks.cons; · repeat (first | exact Pick.keep (Sl.isDup _ _ _) | exact Pick.keep (BlkR.isDup _ _ _) | exact Pick.here | exact Pick.own_sl | exact Pick.apd_sl | exact Pick.r_blk | exact Pick.sl_nil | exact Pick.own_nil | apply Pick.there))))) ?_
      refine q_val (v_move rfl) (Nat.le_of_ble_eq_true rfl) ?_
      refine q_val (v_move rfl) (Nat.le_of_ble_eq_true rfl) ?_
      refine q_val ((by first | exact v_len_form Tryd.underlying22 rfl | exact v_len_sl Tryd.underlying22 rfl (by repeat (first | exact Has.here | exact Has.sl_apd | exact Has.sl_own | exact Has.r_blk | apply Has.there)))) (Nat.le_of_ble_eq_true rfl) ?_
      refine q_val (v_move rfl) (Nat.le_of_ble_eq_true rfl) ?_
      refine q_val ((by first | exact v_sub64 rfl rfl (by omega) | exact v_sub rfl rfl)) (Nat.le_of_ble_eq_true rfl) ?_
      refine q_slice Tryd.underlying22 ti9 rfl (by repeat (first | exact Pick.keep (Sl.isDup _ _ _) | exact Pick.keep (BlkR.isDup _ _ _) | exact Pick.here | exact Pick.own_sl | exact Pick.apd_sl | exact Pick.r_blk | exact Pick.sl_nil | exact Pick.own_nil | apply Pick.there)) (.inr ⟨_, _, _, rfl, rfl, by omega, rfl⟩) (.inl ⟨rfl, rfl, rfl⟩) (.inl ⟨rfl, rfl⟩) (by omega) (by first | omega | exact Nat.le_refl _) (by omega) (by omega) (Nat.le_of_ble_eq_true rfl) (Picks.ent (by repeat (first | exact Picks.nil | (apply Picks.cons; · repeat (first | exact Pick.keep (Sl.isDup _ _ _) | exact Pick.keep (BlkR.isDup _ _ _) | exact Pick.here | exact Pick.own_sl | exact Pick.apd_sl | exact Pick.r_blk | exact Pick.sl_nil | exact Pick.own_nil | apply Pick.there))))) ?_
      have e1 : ((xs.length : Int) - (i : Int)).toNat = xs.length - i := by omega
      have e2 : ((ys.length : Int) - (i : Int)).toNat = ys.length - i := by omega
      rw [e1, e2, List.take_length, List.take_length]
      refine q_call cl24 (same_ref_con (cutV a0 (xs.length - i) xs.length c0 1) (cutV a1 (ys.length - i) ys.length c1 1) (xs.drop (xs.length - i)) (ys.drop (ys.length - i)) (by simp; omega) (by simp; omega)) (fun _ _ => rfl) rfl (Nat.le_of_ble_eq_true rfl) (by repeat (first | exact Picks.nil | (apply Picks.cons; · repeat (first | exact Pick.keep (Sl.isDup _ _ _) | exact Pick.keep (BlkR.isDup _ _ _) | exact Pick.here | exact Pick.own_sl | exact Pick.apd_sl | exact Pick.r_blk | exact Pick.sl_nil | exact Pick.own_nil | apply Pick.there)))) ?_
      refine q_nil ?_
      refine c_cond_p rfl (fun hs => ?_) (fun hs => ?_)
      · refine c_region ?_
        refine o_val (v_move rfl) (Nat.le_of_ble_eq_true rfl) ?_
        refine o_val (v_assign rfl) (Nat.le_of_ble_eq_true rfl) ?_
        refine o_nil ?_
        refine c_inBlock ?_
        refine c_region ?_
        refine o_val (v_move rfl) (Nat.le_of_ble_eq_true rfl) ?_
        refine o_val ((by first | exact v_add64 rfl rfl (by omega) | exact v_add rfl rfl)) (Nat.le_of_ble_eq_true rfl) ?_
        refine o_val (v_assign rfl) (Nat.le_of_ble_eq_true rfl) ?_
        refine o_nil ?_
        refine c_use (IH (i + 1, i) (by dsimp only; omega) ⟨by dsimp only; omega, by dsimp only; omega, by dsimp only; omega, by dsimp only; omega, by dsimp only; omega, by simpa using hs, fun k g1 g2 => by dsimp only at *; omega⟩) ⟨rfl, rfl, rfl, rfl, trivial⟩ (Picks.ent (by repeat (first | exact Picks.nil | (apply Picks.cons; · repeat (first | exact Pick.keep (Sl.isDup _ _ _) | exact Pick.keep (BlkR.isDup _ _ _) | exact Pick.here | exact Pick.own_sl | exact Pick.apd_sl | exact Pick.r_blk | exact Pick.sl_nil | exact Pick.own_nil | apply Pick.there)))))
      · refine c_skip ?_
        refine c_inBlock ?_
        refine c_region ?_
        refine o_val (v_move rfl) (Nat.le_of_ble_eq_true rfl) ?_
        refine o_val ((by first | exact v_add64 rfl rfl (by omega) | exact v_add rfl rfl)) (Nat.le_of_ble_eq_true rfl) ?_
        refine o_val (v_assign rfl) (Nat.le_of_ble_eq_true rfl) ?_
        refine o_nil ?_
        refine c_use (IH (i + 1, b) (by dsimp only; omega) ⟨by dsimp only; omega, by dsimp only; omega, by dsimp only; omega, h4, h5, h6, fun k g1 g2 g3 g4 g5 => ?_⟩) ⟨rfl, rfl, rfl, rfl, trivial⟩ (Picks.ent (by repeat (first | exact Picks.nil | (apply Picks.cons; · repeat (first | exact Pick.keep (Sl.isDup _ _ _) | exact Pick.keep (BlkR.isDup _ _ _) | exact Pick.here | exact Pick.own_sl | exact Pick.apd_sl | exact Pick.r_blk | exact Pick.sl_nil | exact Pick.own_nil | apply Pick.there)))))
        rcases Nat.lt_or_ge k i with hk | hk
        · exact h7 k g1 hk g3 g4 g5
        · obtain rfl : k = i := by dsimp only at *; omega
          exact hs g5
    · refine c_exit rfl ?_
      refine c_seq ?_
      refine c_region ?_
      refine o_val (v_move rfl) (Nat.le_of_ble_eq_true rfl) ?_
      refine o_val (v_assign rfl) (Nat.le_of_ble_eq_true rfl) ?_
      refine o_nil ?_
      refine c_ret1 Tryd.func30 rfl rfl fun w O hS => ?_
      exact ⟨b, rfl, fin (by omega), trivial⟩
  · refine o_off rfl rfl rfl (Nat.le_of_ble_eq_true rfl) ?_
    refine o_off rfl rfl rfl (Nat.le_of_ble_eq_true rfl) ?_
    refine o_off rfl rfl rfl (Nat.le_of_ble_eq_true rfl) ?_
    refine o_off rfl rfl rfl (Nat.le_of_ble_eq_true rfl) ?_
    refine o_val (v_pick_f rfl rfl) (Nat.le_of_ble_eq_true rfl) ?_
    refine o_nil ?_
    refine c_cond_f rfl ?_
    refine c_exit rfl ?_
    refine c_seq ?_
    refine c_region ?_
    refine o_val (v_move rfl) (Nat.le_of_ble_eq_true rfl) ?_
    refine o_val (v_assign rfl) (Nat.le_of_ble_eq_true rfl) ?_
    refine o_nil ?_
    refine c_ret1 Tryd.func30 rfl rfl fun w O hS => ?_
    exact ⟨b, rfl, fin (by omega), trivial⟩
end Go.Proofs.YtgokinfjlollpaaDoor

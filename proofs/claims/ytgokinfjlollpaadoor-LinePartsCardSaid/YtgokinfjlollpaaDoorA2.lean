import Derived.Test.YtgokinfjlollpaaDoorA1
namespace Go.Proofs.YtgokinfjlollpaaDoor
open Go Go.SL L01
attribute [local irreducible] Cfg Kont StepK Val Con Qops Any Sl Own Blk BlkR Rd Pu ExA AllA Has Pick Ent Elem Beside Callable TI Lone

set_option maxRecDepth 100000 in
theorem splice_ref_con (v u t : Value) (xs ps ws : Ls) (k : Int) (hx : xs.length ≤ 1000) (hp : ps.length ≤ 1000) (hw : ws.length ≤ 1000) (hk : -9223372036854775808 ≤ k ∧ k ≤ 9223372036854775807) :
    Con Tryd.prog 23 [v, .int .i64 k, u, t] [Sl eStr v xs, Sl eStr u ps, Sl eStr t ws] (γ := Value) (fun r => .tuple #[r, .bool (decide (Stands xs k ps))]) (fun _ => True)
      (fun r => [Own eStr 9 r (if Stands xs k ps then xs.take k.toNat ++ ws ++ xs.drop (k.toNat + ps.length) else [])]) := by
  refine con_of Tryd.func23 rfl (Nat.le_of_ble_eq_true rfl) fun w0 O0 => ?_
  refine c_seq ?_
  refine c_region ?_
  refine o_val (v_assign rfl) (Nat.le_of_ble_eq_true rfl) ?_
  refine o_val (v_assign rfl) (Nat.le_of_ble_eq_true rfl) ?_
  refine o_nil ?_
  refine c_seq ?_
  refine c_seq ?_
  refine c_region ?_
  refine o_val (v_move rfl) (Nat.le_of_ble_eq_true rfl) ?_
  refine o_val (v_lt rfl rfl) (Nat.le_of_ble_eq_true rfl) ?_
  refine o_val (v_move rfl) (Nat.le_of_ble_eq_true rfl) ?_
  have no : ¬ Stands xs k ps → ∀ (w : World) (O : Perm), ∃ g, (Value.tuple #[Value.slice none 0 0, Value.bool false]) = .tuple #[g, .bool (decide (Stands xs k ps))] ∧ True ∧ Stars [Own eStr 9 g (if Stands xs k ps then xs.take k.toNat ++ ws ++ xs.drop (k.toNat + ps.length) else [])] w O := by
    intro h w O
    refine ⟨.slice none 0 0, by rw [decide_eq_false h], trivial, ?_⟩
    rw [if_neg h]
    exact stars_own_nil
  refine o_guard_f rfl rfl (fun h0 => ?_) (fun h0 => ?_)
  · refine o_val (v_move rfl) (Nat.le_of_ble_eq_true rfl) ?_
    refine o_on rfl rfl ?_
    refine o_val (v_move rfl) (Nat.le_of_ble_eq_true rfl) ?_
    refine o_on rfl rfl ?_
    refine o_val ((by first | exact v_len_form Tryd.underlying22 rfl | exact v_len_sl Tryd.underlying22 rfl (by repeat (first | exact Has.here | exact Has.sl_apd | exact Has.sl_own | exact Has.r_blk | apply Has.there)))) (Nat.le_of_ble_eq_true rfl) ?_
    refine o_on rfl rfl ?_
    refine o_val (v_gt rfl rfl) (Nat.le_of_ble_eq_true rfl) ?_
    refine o_val (v_pick_f rfl rfl) (Nat.le_of_ble_eq_true rfl) ?_
    refine o_val (v_move rfl) (Nat.le_of_ble_eq_true rfl) ?_
    refine o_guard_f rfl rfl (fun h1 => ?_) (fun h1 => ?_)
    · refine o_val (v_move rfl) (Nat.le_of_ble_eq_true rfl) ?_
      refine o_on rfl rfl ?_
      refine o_val ((by first | exact v_len_form Tryd.underlying22 rfl | exact v_len_sl Tryd.underlying22 rfl (by repeat (first | exact Has.here | exact Has.sl_apd | exact Has.sl_own | exact Has.r_blk | apply Has.there)))) (Nat.le_of_ble_eq_true rfl) ?_
      refine o_on rfl rfl ?_
      refine o_val (v_move rfl) (Nat.le_of_ble_eq_true rfl) ?_
      refine o_on rfl rfl ?_
      refine o_val ((by first | exact v_len_form Tryd.underlying22 rfl | exact v_len_sl Tryd.underlying22 rfl (by repeat (first | exact Has.here | exact Has.sl_apd | exact Has.sl_own | exact Has.r_blk | apply Has.there)))) (Nat.le_of_ble_eq_true rfl) ?_
      refine o_on rfl rfl ?_
      refine o_val (v_move rfl) (Nat.le_of_ble_eq_true rfl) ?_
      refine o_on rfl rfl ?_
      refine o_val ((by first | exact v_sub64 rfl rfl (by omega) | exact v_sub rfl rfl)) (Nat.le_of_ble_eq_true rfl) ?_
      refine o_on rfl rfl ?_
      refine o_val (v_gt rfl rfl) (Nat.le_of_ble_eq_true rfl) ?_
      refine o_val (v_pick_f rfl rfl) (Nat.le_of_ble_eq_true rfl) ?_
      refine o_nil ?_
      refine c_cond_p rfl (fun h2 => ?_) (fun h2 => ?_)
      · refine c_seq ?_
        refine c_region ?_
        refine o_val (v_assign rfl) (Nat.le_of_ble_eq_true rfl) ?_
        refine o_val (v_assign rfl) (Nat.le_of_ble_eq_true rfl) ?_
        refine o_nil ?_
        refine c_ret2 Tryd.func23 rfl rfl rfl fun w O hS => ?_
        exact no (by rintro ⟨g0, g1, _⟩; omega) w O
      · refine c_skip ?_
        refine c_seq ?_
        refine c_seq ?_
        refine c_region ?_
        refine o_val (v_assign rfl) (Nat.le_of_ble_eq_true rfl) ?_
        refine o_nil ?_
        refine c_block ?_
        refine c_loop (γ := Nat) (fun i => ps.length - i) (fun i => i ≤ ps.length ∧ (xs.drop k.toNat).take i = ps.take i) (fun i => [(10, .int .i64 i), (0, v), (1, .int .i64 k), (2, u), (3, t)]) (fun _ => [Sl eStr v xs, Sl eStr u ps, Sl eStr t ws]) 0 ⟨Nat.zero_le _, rfl⟩ ⟨rfl, rfl, rfl, rfl, rfl, trivial⟩ (Ent.refl _) ?_
        intro i ⟨hi, he⟩ IH
        refine c_seq ?_
        refine c_seq ?_
        refine c_region ?_
        refine o_val (v_move rfl) (Nat.le_of_ble_eq_true rfl) ?_
        refine o_val (v_move rfl) (Nat.le_of_ble_eq_true rfl) ?_
        refine o_val ((by first | exact v_len_form Tryd.underlying22 rfl | exact v_len_sl Tryd.underlying22 rfl (by repeat (first | exact Has.here | exact Has.sl_apd | exact Has.sl_own | exact Has.r_blk | apply Has.there)))) (Nat.le_of_ble_eq_true rfl) ?_
        refine o_val (v_lt rfl rfl) (Nat.le_of_ble_eq_true rfl) ?_
        refine o_nil ?_
        refine c_cond_p rfl (fun hlt => ?_) (fun hlt => ?_)
        · refine c_skip ?_
          refine c_seq ?_
          refine c_block ?_
          refine c_seq ?_
          refine c_quiet rfl (by kernel_rfl) ?_
          refine q_val (v_move rfl) (Nat.le_of_ble_eq_true rfl) ?_
          refine q_val (v_move rfl) (Nat.le_of_ble_eq_true rfl) ?_
          refine q_val (v_move rfl) (Nat.le_of_ble_eq_true rfl) ?_
          refine q_val ((by first | exact v_add64 rfl rfl (by omega) | exact v_add rfl rfl)) (Nat.le_of_ble_eq_true rfl) ?_
          refine q_val ((by first | exact v_indexAddrN Tryd.underlying22 ti9 rfl rfl (by repeat (first | exact Has.here | exact Has.sl_apd | exact Has.sl_own | exact Has.r_blk | apply Has.there)) (by omega) | exact v_indexAddr Tryd.underlying22 ti9 rfl rfl (by repeat (first | exact Has.here | exact Has.sl_apd | exact Has.sl_own | exact Has.r_blk | apply Has.there)) (by omega))) (Nat.le_of_ble_eq_true rfl) ?_
          refine q_val (v_load_str lone9 rfl (by repeat (first | exact Elem.sl (List.getElem?_eq_getElem (by omega)) | exact Elem.own (List.getElem?_eq_getElem (by omega)) | apply Elem.there))) (Nat.le_of_ble_eq_true rfl) ?_
          refine q_val (v_move rfl) (Nat.le_of_ble_eq_true rfl) ?_
          refine q_val (v_move rfl) (Nat.le_of_ble_eq_true rfl) ?_
          refine q_val ((by first | exact v_indexAddrN Tryd.underlying22 ti9 rfl rfl (by repeat (first | exact Has.here | exact Has.sl_apd | exact Has.sl_own | exact Has.r_blk | apply Has.there)) (by omega) | exact v_indexAddr Tryd.underlying22 ti9 rfl rfl (by repeat (first | exact Has.here | exact Has.sl_apd | exact Has.sl_own | exact Has.r_blk | apply Has.there)) (by omega))) (Nat.le_of_ble_eq_true rfl) ?_
          refine q_val (v_load_str lone9 rfl (by repeat (first | exact Elem.sl (List.getElem?_eq_getElem (by omega)) | exact Elem.own (List.getElem?_eq_getElem (by omega)) | apply Elem.there))) (Nat.le_of_ble_eq_true rfl) ?_
          refine q_val (v_sne rfl rfl) (Nat.le_of_ble_eq_true rfl) ?_
          refine q_nil ?_
          refine c_cond_p rfl (fun hne => ?_) (fun hne => ?_)
          · refine c_seq ?_
            refine c_region ?_
            refine o_val (v_assign rfl) (Nat.le_of_ble_eq_true rfl) ?_
            refine o_val (v_assign rfl) (Nat.le_of_ble_eq_true rfl) ?_
            refine o_nil ?_
            refine c_ret2 Tryd.func23 rfl rfl rfl fun w O hS => ?_
            refine no ?_ w O
            rintro ⟨g0, g1, g2⟩
            apply hne
            have e1 : (k + (i : Int)).toNat = k.toNat + i := by omega
            have e2 : (ps[i]'(by omega)) = xs[k.toNat + i]'(by omega) := by
              have : ps[i]? = xs[k.toNat + i]? := by
                rw [← g2, List.getElem?_take, if_pos (by omega), List.getElem?_drop]
              rw [List.getElem?_eq_getElem (by omega), List.getElem?_eq_getElem (by omega)] at this
              exact Option.some.inj this
            simp only [e1, e2]
          · refine c_skip ?_
            refine c_inBlock ?_
            refine c_region ?_
            refine o_val (v_move rfl) (Nat.le_of_ble_eq_true rfl) ?_
            refine o_val ((by first | exact v_add64 rfl rfl (by omega) | exact v_add rfl rfl)) (Nat.le_of_ble_eq_true rfl) ?_
            refine o_val (v_assign rfl) (Nat.le_of_ble_eq_true rfl) ?_
            refine o_nil ?_
            refine c_use (IH (i + 1) (by omega) ⟨by omega, ?_⟩) ⟨rfl, rfl, rfl, rfl, rfl, trivial⟩ (Ent.refl _)
            have e1 : (k + (i : Int)).toNat = k.toNat + i := by omega
            have e2 : (xs.drop k.toNat)[i]'(by simp; omega) = ps[i]'(by omega) := by
              rw [List.getElem_drop]
              have := Decidable.not_not.1 hne
              simp only [e1] at this
              exact this
            rw [List.take_succ_eq_append_getElem (by simp; omega), List.take_succ_eq_append_getElem (by omega), he, e2]
        · refine c_exit rfl ?_
          refine c_seq ?_
          refine c_region ?_
          have hst : Stands xs k ps := ⟨by omega, by omega, by rw [← show i = ps.length by omega, he, List.take_of_length_le (by omega)]⟩
          refine o_step (s_buildSlice Tryd.underlying22 ti9 rfl rfl rfl (by decide) (by decide) (beside_str []) rfl rfl (Nat.le_of_ble_eq_true rfl) fun v1 => ?_)
          refine o_val (v_move rfl) (Nat.le_of_ble_eq_true rfl) ?_
          refine o_val (v_move rfl) (Nat.le_of_ble_eq_true rfl) ?_
          refine o_step (s_slice Tryd.underlying22 ti9 rfl (by repeat (first | exact Pick.keep (Sl.isDup _ _ _) | exact Pick.keep (BlkR.isDup _ _ _) | exact Pick.here | exact Pick.own_sl | exact Pick.apd_sl | exact Pick.r_blk | exact Pick.sl_nil | exact Pick.own_nil | apply Pick.there)) rfl (.inl ⟨rfl, rfl⟩) (.inr ⟨_, _, _, rfl, rfl, by omega, rfl⟩) (by omega) (by omega) (Nat.le_of_ble_eq_true rfl) fun z1 => ?_)
          refine o_step (s_append Tryd.underlying22 ti9 rfl (by decide) rfl rfl (Nat.le_of_ble_eq_true rfl) (by repeat (first | exact Pick.here | exact Pick.own_nil | apply Pick.there)) (by repeat (first | exact Pick.keep (Sl.isDup _ _ _) | exact Pick.keep (BlkR.isDup _ _ _) | exact Pick.here | exact Pick.own_sl | exact Pick.apd_sl | exact Pick.r_blk | exact Pick.sl_nil | exact Pick.own_nil | apply Pick.there)) rfl (by (first | omega | (simp only [maxLen, List.length_append, List.length_drop, List.length_take, List.length_nil, List.length_cons]; omega))) (by (first | omega | (simp only [maxLen, List.length_append, List.length_drop, List.length_take, List.length_nil, List.length_cons]; omega))) fun v2 => ?_)
          refine o_val (v_assign rfl) (Nat.le_of_ble_eq_true rfl) ?_
          refine o_nil ?_
          refine c_seq ?_
          refine c_region ?_
          refine o_val (v_move rfl) (Nat.le_of_ble_eq_true rfl) ?_
          refine o_val (v_move rfl) (Nat.le_of_ble_eq_true rfl) ?_
          refine o_step (s_append Tryd.underlying22 ti9 rfl (by decide) rfl rfl (Nat.le_of_ble_eq_true rfl) (by repeat (first | exact Pick.here | exact Pick.own_nil | apply Pick.there)) (by repeat (first | exact Pick.keep (Sl.isDup _ _ _) | exact Pick.keep (BlkR.isDup _ _ _) | exact Pick.here | exact Pick.own_sl | exact Pick.apd_sl | exact Pick.r_blk | exact Pick.sl_nil | exact Pick.own_nil | apply Pick.there)) rfl (by (first | omega | (simp only [maxLen, List.length_append, List.length_drop, List.length_take, List.length_nil, List.length_cons]; omega))) (by (first | omega | (simp only [maxLen, List.length_append, List.length_drop, List.length_take, List.length_nil, List.length_cons]; omega))) fun v3 => ?_)
          refine o_val (v_assign rfl) (Nat.le_of_ble_eq_true rfl) ?_
          refine o_nil ?_
          refine c_seq ?_
          refine c_region ?_
          refine o_val (v_move rfl) (Nat.le_of_ble_eq_true rfl) ?_
          refine o_val (v_move rfl) (Nat.le_of_ble_eq_true rfl) ?_
          refine o_val (v_move rfl) (Nat.le_of_ble_eq_true rfl) ?_
          refine o_val (v_move rfl) (Nat.le_of_ble_eq_true rfl) ?_
          refine o_val ((by first | exact v_len_form Tryd.underlying22 rfl | exact v_len_sl Tryd.underlying22 rfl (by repeat (first | exact Has.here | exact Has.sl_apd | exact Has.sl_own | exact Has.r_blk | apply Has.there)))) (Nat.le_of_ble_eq_true rfl) ?_
          refine o_val ((by first | exact v_add64 rfl rfl (by omega) | exact v_add rfl rfl)) (Nat.le_of_ble_eq_true rfl) ?_
          refine o_step (s_slice Tryd.underlying22 ti9 rfl (by repeat (first | exact Pick.keep (Sl.isDup _ _ _) | exact Pick.keep (BlkR.isDup _ _ _) | exact Pick.here | exact Pick.own_sl | exact Pick.apd_sl | exact Pick.r_blk | exact Pick.sl_nil | exact Pick.own_nil | apply Pick.there)) rfl (.inr ⟨_, _, _, rfl, rfl, by omega, rfl⟩) (.inl ⟨rfl, rfl⟩) (by omega) (by omega) (Nat.le_of_ble_eq_true rfl) fun z2 => ?_)
          refine o_step (s_append Tryd.underlying22 ti9 rfl (by decide) rfl rfl (Nat.le_of_ble_eq_true rfl) (by repeat (first | exact Pick.here | exact Pick.own_nil | apply Pick.there)) (by repeat (first | exact Pick.keep (Sl.isDup _ _ _) | exact Pick.keep (BlkR.isDup _ _ _) | exact Pick.here | exact Pick.own_sl | exact Pick.apd_sl | exact Pick.r_blk | exact Pick.sl_nil | exact Pick.own_nil | apply Pick.there)) rfl (by (first | omega | (simp only [maxLen, List.length_append, List.length_drop, List.length_take, List.length_nil, List.length_cons]; omega))) (by (first | omega | (simp only [maxLen, List.length_append, List.length_drop, List.length_take, List.length_nil, List.length_cons]; omega))) fun v4 => ?_)
          refine o_val (v_assign rfl) (Nat.le_of_ble_eq_true rfl) ?_
          refine o_val (v_assign rfl) (Nat.le_of_ble_eq_true rfl) ?_
          refine o_nil ?_
          refine c_ret2 Tryd.func23 rfl rfl rfl fun w O hS => ?_
          refine ⟨v4, by rw [decide_eq_true hst], trivial, ?_⟩
          rw [if_pos hst]
          have e1 : (k + (ps.length : Int)).toNat = k.toNat + ps.length := by omega
          have e2 : (([] ++ (xs.take k.toNat).drop 0) ++ ws) ++ (xs.take xs.length).drop (k + (ps.length : Int)).toNat = xs.take k.toNat ++ ws ++ xs.drop (k.toNat + ps.length) := by
            rw [e1, List.take_length, List.nil_append, List.drop_zero]
          rw [← e2]
          exact Ent.get hS (Picks.ent (by repeat (first | exact Picks.nil | (apply Picks.cons; · repeat (first | exact Pick.keep (Sl.isDup _ _ _) | exact Pick.keep (BlkR.isDup _ _ _) | exact Pick.here | exact Pick.own_sl | exact Pick.apd_sl | exact Pick.r_blk | exact Pick.sl_nil | exact Pick.own_nil | apply Pick.there)))))
    · refine o_off rfl rfl rfl (Nat.le_of_ble_eq_true rfl) ?_
      refine o_off rfl rfl rfl (Nat.le_of_ble_eq_true rfl) ?_
      refine o_off rfl rfl rfl (Nat.le_of_ble_eq_true rfl) ?_
      refine o_off rfl rfl rfl (Nat.le_of_ble_eq_true rfl) ?_
      refine o_off rfl rfl rfl (Nat.le_of_ble_eq_true rfl) ?_
      refine o_off rfl rfl rfl (Nat.le_of_ble_eq_true rfl) ?_
      refine o_off rfl rfl rfl (Nat.le_of_ble_eq_true rfl) ?_
      refine o_val (v_pick_t rfl rfl) (Nat.le_of_ble_eq_true rfl) ?_
      refine o_nil ?_
      refine c_cond_t rfl ?_
      refine c_seq ?_
      refine c_region ?_
      refine o_val (v_assign rfl) (Nat.le_of_ble_eq_true rfl) ?_
      refine o_val (v_assign rfl) (Nat.le_of_ble_eq_true rfl) ?_
      refine o_nil ?_
      refine c_ret2 Tryd.func23 rfl rfl rfl fun w O hS => ?_
      exact no (by rintro ⟨g0, g1, _⟩; omega) w O
  · refine o_off rfl rfl rfl (Nat.le_of_ble_eq_true rfl) ?_
    refine o_off rfl rfl rfl (Nat.le_of_ble_eq_true rfl) ?_
    refine o_off rfl rfl rfl (Nat.le_of_ble_eq_true rfl) ?_
    refine o_off rfl rfl rfl (Nat.le_of_ble_eq_true rfl) ?_
    refine o_val (v_pick_t rfl rfl) (Nat.le_of_ble_eq_true rfl) ?_
    refine o_val (v_move rfl) (Nat.le_of_ble_eq_true rfl) ?_
    refine o_off rfl rfl rfl (Nat.le_of_ble_eq_true rfl) ?_
    refine o_off rfl rfl rfl (Nat.le_of_ble_eq_true rfl) ?_
    refine o_off rfl rfl rfl (Nat.le_of_ble_eq_true rfl) ?_
    refine o_off rfl rfl rfl (Nat.le_of_ble_eq_true rfl) ?_
    refine o_off rfl rfl rfl (Nat.le_of_ble_eq_true rfl) ?_
    refine o_off rfl rfl rfl (Nat.le_of_ble_eq_true rfl) ?_
    refine o_off rfl rfl rfl (Nat.le_of_ble_eq_true rfl) ?_
    refine o_val (v_pick_t rfl rfl) (Nat.le_of_ble_eq_true rfl) ?_
    refine o_nil ?_
    refine c_cond_t rfl ?_
    refine c_seq ?_
    refine c_region ?_
    refine o_val (v_assign rfl) (Nat.le_of_ble_eq_true rfl) ?_
    refine o_val (v_assign rfl) (Nat.le_of_ble_eq_true rfl) ?_
    refine o_nil ?_
    refine c_ret2 Tryd.func23 rfl rfl rfl fun w O hS => ?_
    exact no (by rintro ⟨g0, g1, _⟩; omega) w O

set_option maxRecDepth 100000 in
theorem find_con (v u : Value) (xs ps : Ls) (fr : Int) (hx : xs.length ≤ 1000) (hp : ps.length ≤ 1000) (hk : -9223372036854775808 ≤ fr ∧ fr ≤ 9223372036854775807) :
    Con Tryd.prog 25 [v, u, .int .i64 fr] [Sl eStr v xs, Sl eStr u ps] (γ := Int) (fun r => .int .i64 r) (fun r => IsFind xs ps fr r) (fun _ => []) := by
  refine con_of Tryd.func25 rfl (Nat.le_of_ble_eq_true rfl) fun w0 O0 => ?_
  refine c_seq ?_
  refine c_region ?_
  refine o_val (v_assign rfl) (Nat.le_of_ble_eq_true rfl) ?_
  refine o_nil ?_
  refine c_seq ?_
  refine c_seq ?_
  refine c_region ?_
  refine o_val (v_move rfl) (Nat.le_of_ble_eq_true rfl) ?_
  refine o_val (v_max rfl rfl) (Nat.le_of_ble_eq_true rfl) ?_
  refine o_val (v_assign rfl) (Nat.le_of_ble_eq_true rfl) ?_
  refine o_nil ?_
  refine c_block ?_
  refine c_loop (γ := Int) (fun a => (xs.length + 1 - a).toNat) (fun a => 0 ≤ a ∧ fr ≤ a ∧ a ≤ 9223372036854775807 ∧ ∀ b, fr ≤ b → b < a → ¬ Stands xs b ps) (fun a => [(7, .int .i64 a), (0, v), (1, u)]) (fun _ => [Sl eStr v xs, Sl eStr u ps]) (max fr 0) ⟨by omega, by omega, by omega, fun b h1 h2 hs => by have := hs.1; omega⟩ ⟨rfl, rfl, rfl, trivial⟩ (Ent.refl _) ?_
  intro a ⟨h0, h1, h3, hn⟩ IH
  refine c_seq ?_
  refine c_seq ?_
  refine c_region ?_
  refine o_val (v_move rfl) (Nat.le_of_ble_eq_true rfl) ?_
  refine o_val (v_move rfl) (Nat.le_of_ble_eq_true rfl) ?_
  refine o_val ((by first | exact v_len_form Tryd.underlying22 rfl | exact v_len_sl Tryd.underlying22 rfl (by repeat (first | exact Has.here | exact Has.sl_apd | exact Has.sl_own | exact Has.r_blk | apply Has.there)))) (Nat.le_of_ble_eq_true rfl) ?_
  refine o_val (v_move rfl) (Nat.le_of_ble_eq_true rfl) ?_
  refine o_val ((by first | exact v_len_form Tryd.underlying22 rfl | exact v_len_sl Tryd.underlying22 rfl (by repeat (first | exact Has.here | exact Has.sl_apd | exact Has.sl_own | exact Has.r_blk | apply Has.there)))) (Nat.le_of_ble_eq_true rfl) ?_
  refine o_val ((by first | exact v_sub64 rfl rfl (by omega) | exact v_sub rfl rfl)) (Nat.le_of_ble_eq_true rfl) ?_
  refine o_val (v_le rfl rfl) (Nat.le_of_ble_eq_true rfl) ?_
  refine o_nil ?_
  refine c_cond_p rfl (fun hle => ?_) (fun hle => ?_)
  · refine c_skip ?_
    refine c_seq ?_
    refine c_block ?_
    refine c_seq ?_
    refine c_region ?_
    refine o_val (v_move rfl) (Nat.le_of_ble_eq_true rfl) ?_
    refine o_val (v_move rfl) (Nat.le_of_ble_eq_true rfl) ?_
    refine o_val (v_move rfl) (Nat.le_of_ble_eq_true rfl) ?_
    refine o_step (s_callf cl41 (stands_con v u xs ps a (by omega) (by omega) (by omega)) rfl (Nat.le_of_ble_eq_true rfl) (by repeat (first | exact Picks.nil | (apply Picks.cons; · repeat (first | exact Pick.keep (Sl.isDup _ _ _) | exact Pick.keep (BlkR.isDup _ _ _) | exact Pick.here | exact Pick.own_sl | exact Pick.apd_sl | exact Pick.r_blk | exact Pick.sl_nil | exact Pick.own_nil | apply Pick.there)))) fun _ _ => ?_)
    refine o_nil ?_
    refine c_cond_p rfl (fun hs => ?_) (fun hs => ?_)
    · refine c_seq ?_
      refine c_region ?_
      refine o_val (v_move rfl) (Nat.le_of_ble_eq_true rfl) ?_
      refine o_val (v_assign rfl) (Nat.le_of_ble_eq_true rfl) ?_
      refine o_nil ?_
      refine c_ret1 Tryd.func25 rfl rfl fun w O hS => ?_
      exact ⟨a, rfl, .inr ⟨h1, hs, hn⟩, trivial⟩
    · refine c_skip ?_
      refine c_inBlock ?_
      refine c_region ?_
      refine o_val (v_move rfl) (Nat.le_of_ble_eq_true rfl) ?_
      refine o_val ((by first | exact v_add64 rfl rfl (by omega) | exact v_add rfl rfl)) (Nat.le_of_ble_eq_true rfl) ?_
      refine o_val (v_assign rfl) (Nat.le_of_ble_eq_true rfl) ?_
      refine o_nil ?_
      refine c_use (IH (a + 1) (by omega) ⟨by omega, by omega, by omega, fun b g1 g2 => ?_⟩) ⟨rfl, rfl, rfl, trivial⟩ (Picks.ent (by repeat (first | exact Picks.nil | (apply Picks.cons; · repeat (first | exact Pick.keep (Sl.isDup _ _ _) | exact Pick.keep (BlkR.isDup _ _ _) | exact Pick.here | exact Pick.own_sl | exact Pick.apd_sl | exact Pick.r_blk | exact Pick.sl_nil | exact Pick.own_nil | apply Pick.there)))))
      by_cases e : b = a
      · rw [e]; exact hs
      · exact hn b g1 (by omega)
  · refine c_exit rfl ?_
    refine c_seq ?_
    refine c_region ?_
    refine o_val (v_assign rfl) (Nat.le_of_ble_eq_true rfl) ?_
    refine o_nil ?_
    refine c_ret1 Tryd.func25 rfl rfl fun w O hS => ?_
    refine ⟨-1, rfl, .inl ⟨rfl, fun b g1 g2 => ?_⟩, trivial⟩
    by_cases e : b < a
    · exact hn b g1 e g2
    · have := g2.2.1; omega

set_option maxRecDepth 100000 in
theorem find_ref_con (v u : Value) (xs ps : Ls) (fr : Int) (hx : xs.length ≤ 1000) (hp : ps.length ≤ 1000) (hk : -9223372036854775808 ≤ fr ∧ fr ≤ 9223372036854775807) :
    Con Tryd.prog 26 [v, u, .int .i64 fr] [Sl eStr v xs, Sl eStr u ps] (γ := Int) (fun r => .int .i64 r) (fun r => IsFind xs ps fr r) (fun _ => []) := by
  refine con_of Tryd.func26 rfl (Nat.le_of_ble_eq_true rfl) fun w0 O0 => ?_
  refine c_seq ?_
  refine c_region ?_
  refine o_val (v_assign rfl) (Nat.le_of_ble_eq_true rfl) ?_
  refine o_nil ?_
  refine c_seq ?_
  refine c_seq ?_
  refine c_region ?_
  refine o_val (v_move rfl) (Nat.le_of_ble_eq_true rfl) ?_
  refine o_val (v_lt rfl rfl) (Nat.le_of_ble_eq_true rfl) ?_
  refine o_nil ?_
  refine c_join (γ := Int) (fun f => (fr ≤ f ∧ ∀ b, fr ≤ b → b < f → b < 0) ∧ f ≤ 9223372036854775807) (fun f => [(2, .int .i64 f), (0, v), (1, u)]) (fun _ => [Sl eStr v xs, Sl eStr u ps]) ?_ ?_
  · intro f ⟨⟨hf, hf2⟩, hf3⟩
    refine c_seq ?_
    refine c_seq ?_
    refine c_region ?_
    refine o_val (v_assign rfl) (Nat.le_of_ble_eq_true rfl) ?_
    refine o_nil ?_
    refine c_block ?_
    refine c_loop (γ := Nat) (fun a => xs.length + 1 - a) (fun a => ∀ b : Int, fr ≤ b → b < a → ¬ Stands xs b ps) (fun a => [(7, .int .i64 a), (2, .int .i64 f), (0, v), (1, u)]) (fun _ => [Sl eStr v xs, Sl eStr u ps]) 0 (fun b _ h2 hs => by have := hs.1; omega) ⟨rfl, rfl, rfl, rfl, trivial⟩ (Ent.refl _) ?_
    intro a hn IH
    refine c_seq ?_
    refine c_seq ?_
    refine c_region ?_
    refine o_val (v_move rfl) (Nat.le_of_ble_eq_true rfl) ?_
    refine o_val (v_move rfl) (Nat.le_of_ble_eq_true rfl) ?_
    refine o_val ((by first | exact v_len_form Tryd.underlying22 rfl | exact v_len_sl Tryd.underlying22 rfl (by repeat (first | exact Has.here | exact Has.sl_apd | exact Has.sl_own | exact Has.r_blk | apply Has.there)))) (Nat.le_of_ble_eq_true rfl) ?_
    refine o_val (v_le rfl rfl) (Nat.le_of_ble_eq_true rfl) ?_
    refine o_nil ?_
    refine c_cond_p rfl (fun hle => ?_) (fun hle => ?_)
    · refine c_skip ?_
      refine c_seq ?_
      refine c_block ?_
      refine c_seq ?_
      refine c_region ?_
      refine o_val (v_move rfl) (Nat.le_of_ble_eq_true rfl) ?_
      refine o_val (v_move rfl) (Nat.le_of_ble_eq_true rfl) ?_
      refine o_val (v_move rfl) (Nat.le_of_ble_eq_true rfl) ?_
      refine o_step (s_callf cl23 (splice_ref_con v u (.slice none 0 0) xs ps [] a (by omega) (by omega) (by decide) (by omega)) rfl (Nat.le_of_ble_eq_true rfl) (by repeat (first | exact Picks.nil | (apply Picks.cons; · repeat (first | exact Pick.keep (Sl.isDup _ _ _) | exact Pick.keep (BlkR.isDup _ _ _) | exact Pick.here | exact Pick.own_sl | exact Pick.apd_sl | exact Pick.r_blk | exact Pick.sl_nil | exact Pick.own_nil | apply Pick.there)))) fun r _ => ?_)
      refine o_val (v_move rfl) (Nat.le_of_ble_eq_true rfl) ?_
      refine o_val (v_extract rfl rfl) (Nat.le_of_ble_eq_true rfl) ?_
      refine o_val (v_extract rfl rfl) (Nat.le_of_ble_eq_true rfl) ?_
      refine o_val (v_assign rfl) (Nat.le_of_ble_eq_true rfl) ?_
      refine o_val (v_assign rfl) (Nat.le_of_ble_eq_true rfl) ?_
      refine o_nil ?_
      refine c_seq ?_
      refine c_region ?_
      refine o_val (v_move rfl) (Nat.le_of_ble_eq_true rfl) ?_
      refine o_val (v_move rfl) (Nat.le_of_ble_eq_true rfl) ?_
      refine o_val (v_ge rfl rfl) (Nat.le_of_ble_eq_true rfl) ?_
      refine o_val (v_move rfl) (Nat.le_of_ble_eq_true rfl) ?_
      refine o_guard_t rfl rfl (fun hge => ?_) (fun hge => ?_)
      · refine o_val (v_move rfl) (Nat.le_of_ble_eq_true rfl) ?_
        refine o_val (v_pick_t rfl rfl) (Nat.le_of_ble_eq_true rfl) ?_
        refine o_nil ?_
        refine c_cond_p rfl (fun hs => ?_) (fun hs => ?_)
        · refine c_seq ?_
          refine c_region ?_
          refine o_val (v_move rfl) (Nat.le_of_ble_eq_true rfl) ?_
          refine o_val (v_assign rfl) (Nat.le_of_ble_eq_true rfl) ?_
          refine o_nil ?_
          refine c_ret1 Tryd.func26 rfl rfl fun w O hS => ?_
          exact ⟨a, rfl, .inr ⟨by omega, hs, hn⟩, trivial⟩
        · refine c_skip ?_
          refine c_inBlock ?_
          refine c_region ?_
          refine o_val (v_move rfl) (Nat.le_of_ble_eq_true rfl) ?_
          refine o_val ((by first | exact v_add64 rfl rfl (by omega) | exact v_add rfl rfl)) (Nat.le_of_ble_eq_true rfl) ?_
          refine o_val (v_assign rfl) (Nat.le_of_ble_eq_true rfl) ?_
          refine o_nil ?_
          refine c_use (IH (a + 1) (by omega) (fun b g1 g2 => ?_)) ⟨rfl, rfl, rfl, rfl, trivial⟩ (Picks.ent (by repeat (first | exact Picks.nil | (apply Picks.cons; · repeat (first | exact Pick.keep (Sl.isDup _ _ _) | exact Pick.keep (BlkR.isDup _ _ _) | exact Pick.here | exact Pick.own_sl | exact Pick.apd_sl | exact Pick.r_blk | exact Pick.sl_nil | exact Pick.own_nil | apply Pick.there)))))
          by_cases e : b = a
          · rw [e]; exact hs
          · exact hn b g1 (by omega)
      · refine o_off rfl rfl rfl (Nat.le_of_ble_eq_true rfl) ?_
        refine o_val (v_pick_f rfl rfl) (Nat.le_of_ble_eq_true rfl) ?_
        refine o_nil ?_
        refine c_cond_f rfl ?_
        refine c_skip ?_
        refine c_inBlock ?_
        refine c_region ?_
        refine o_val (v_move rfl) (Nat.le_of_ble_eq_true rfl) ?_
        refine o_val ((by first | exact v_add64 rfl rfl (by omega) | exact v_add rfl rfl)) (Nat.le_of_ble_eq_true rfl) ?_
        refine o_val (v_assign rfl) (Nat.le_of_ble_eq_true rfl) ?_
        refine o_nil ?_
        refine c_use (IH (a + 1) (by omega) (fun b g1 g2 => ?_)) ⟨rfl, rfl, rfl, rfl, trivial⟩ (Picks.ent (by repeat (first | exact Picks.nil | (apply Picks.cons; · repeat (first | exact Pick.keep (Sl.isDup _ _ _) | exact Pick.keep (BlkR.isDup _ _ _) | exact Pick.here | exact Pick.own_sl | exact Pick.apd_sl | exact Pick.r_blk | exact Pick.sl_nil | exact Pick.own_nil | apply Pick.there)))))
        by_cases e : b < a
        · exact hn b g1 e
        · intro hs; have := hf2 b g1 (by omega); have := hs.1; omega
    · refine c_exit rfl ?_
      refine c_seq ?_
      refine c_region ?_
      refine o_val (v_assign rfl) (Nat.le_of_ble_eq_true rfl) ?_
      refine o_nil ?_
      refine c_ret1 Tryd.func26 rfl rfl fun w O hS => ?_
      refine ⟨-1, rfl, .inl ⟨rfl, fun b g1 g2 => ?_⟩, trivial⟩
      by_cases e : b < a
      · exact hn b g1 e g2
      · have := g2.2.1; omega
  · intro J
    refine c_cond_p rfl (fun hneg => ?_) (fun hneg => ?_)
    · refine c_region ?_
      refine o_val (v_assign rfl) (Nat.le_of_ble_eq_true rfl) ?_
      refine o_nil ?_
      exact c_use (J 0 ⟨⟨by omega, fun b _ h => h⟩, by omega⟩) ⟨rfl, rfl, rfl, trivial⟩ (Ent.refl _)
    · refine c_skip ?_
      exact c_use (J fr ⟨⟨by omega, fun b h1 h2 => by omega⟩, by omega⟩) ⟨rfl, rfl, rfl, trivial⟩ (Ent.refl _)
end Go.Proofs.YtgokinfjlollpaaDoor

import Derived.Test.YtgokinfjlollpaaDoorB5
namespace Go.Proofs.YtgokinfjlollpaaDoor
open Go Go.SL L01
attribute [local irreducible] Cfg Kont StepK Val Con Qops Any Sl Own Blk BlkR Rd Pu ExA AllA Has Pick Ent Elem Beside Callable TI Lone

set_option maxRecDepth 100000 in
theorem splices_con (m : Int) (v u t : Value) (xs ps ws : Ls) (k : Int) (hx : Lim xs) (hp : Lim ps) (hw : Lim ws) (hk : -9223372036854775808 ≤ k ∧ k ≤ 9223372036854775807) :
    Con Tryd.prog 5 [v, .int .i64 k, .agg #[u, t]] [GL m, Sl eStr v xs, Sl eStr u ps, Sl eStr t ws] (γ := Unit) (fun _ => .bool true) (fun _ => True) (fun _ => []) := by
  refine con_of Tryd.func5 rfl (Nat.le_of_ble_eq_true rfl) fun w0 O0 => ?_
  refine c_seq ?_
  refine c_region ?_
  refine o_step (s_box rfl (Nat.le_of_ble_eq_true rfl) fun b => ?_)
  refine o_val (v_assign rfl) (Nat.le_of_ble_eq_true rfl) ?_
  refine o_nil ?_
  refine c_seq ?_
  refine c_seq ?_
  refine c_region ?_
  refine o_val (v_move rfl) (Nat.le_of_ble_eq_true rfl) ?_
  refine o_val (v_fieldAddr Tryd.underlying32 rfl ti22 (by decide) rfl) (Nat.le_of_ble_eq_true rfl) ?_
  refine o_val (v_load lone22 rfl (by repeat (first | exact Has.here | exact Has.sl_apd | exact Has.sl_own | exact Has.r_blk | apply Has.there)) rfl) (Nat.le_of_ble_eq_true rfl) ?_
  refine o_val (v_fieldAddr Tryd.underlying32 rfl ti22 (by decide) rfl) (Nat.le_of_ble_eq_true rfl) ?_
  refine o_val (v_load lone22 rfl (by repeat (first | exact Has.here | exact Has.sl_apd | exact Has.sl_own | exact Has.r_blk | apply Has.there)) rfl) (Nat.le_of_ble_eq_true rfl) ?_
  refine o_step (s_buildSlice Tryd.underlying43 ti22 rfl rfl rfl (by decide) (by decide) (beside_sl3 v u t xs ps ws (by repeat (first | exact Picks.nil | (apply Picks.cons; · repeat (first | exact Pick.keep (Sl.isDup _ _ _) | exact Pick.keep (BlkR.isDup _ _ _) | exact Pick.here | exact Pick.own_sl | exact Pick.apd_sl | exact Pick.r_blk | exact Pick.sl_nil | exact Pick.own_nil | apply Pick.there))))) rfl rfl (Nat.le_of_ble_eq_true rfl) fun v1 => ?_)
  refine o_step (s_callf cl11 (few3_con v1 xs ps ws hx hp hw) rfl (Nat.le_of_ble_eq_true rfl) (by repeat (first | exact Picks.nil | (apply Picks.cons; · repeat (first | exact Pick.keep (Sl.isDup _ _ _) | exact Pick.keep (BlkR.isDup _ _ _) | exact Pick.here | exact Pick.own_sl | exact Pick.apd_sl | exact Pick.r_blk | exact Pick.sl_nil | exact Pick.own_nil | apply Pick.there)))) fun _ _ => ?_)
  refine o_val (v_not rfl) (Nat.le_of_ble_eq_true rfl) ?_
  refine o_nil ?_
  refine c_cond rfl (fun h => ?_) (fun h => ?_)
  · refine c_seq ?_
    refine c_region ?_
    refine o_step (s_callf cl12 (alive_con m) rfl (Nat.le_of_ble_eq_true rfl) (by repeat (first | exact Picks.nil | (apply Picks.cons; · repeat (first | exact Pick.keep (Sl.isDup _ _ _) | exact Pick.keep (BlkR.isDup _ _ _) | exact Pick.here | exact Pick.own_sl | exact Pick.apd_sl | exact Pick.r_blk | exact Pick.sl_nil | exact Pick.own_nil | apply Pick.there)))) fun _ _ => ?_)
    refine o_val (v_assign rfl) (Nat.le_of_ble_eq_true rfl) ?_
    refine o_nil ?_
    refine c_ret1 Tryd.func5 rfl rfl fun w O hS => ?_
    exact ⟨(), rfl, trivial, trivial⟩
  · refine c_skip ?_
    refine c_seq ?_
    refine c_region ?_
    have hf : bytesOf [xs, ps, ws] ≤ 6000 ∧ linesOf [xs, ps, ws] ≤ 300 := by simpa using h
    have h1 := few_len hf.2 (xs := xs) (by simp)
    have h2 := few_len hf.2 (xs := ps) (by simp)
    have h3 := few_len hf.2 (xs := ws) (by simp)
    refine o_step (s_buildSlice Tryd.underlying22 ti9 rfl rfl rfl (by decide) (by decide) (beside_str []) rfl rfl (Nat.le_of_ble_eq_true rfl) fun v2 => ?_)
    refine o_val (v_move rfl) (Nat.le_of_ble_eq_true rfl) ?_
    refine o_step (s_append Tryd.underlying22 ti9 rfl (by decide) rfl rfl (Nat.le_of_ble_eq_true rfl) (by repeat (first | exact Pick.here | exact Pick.own_nil | apply Pick.there)) (by repeat (first | exact Pick.keep (Sl.isDup _ _ _) | exact Pick.keep (BlkR.isDup _ _ _) | exact Pick.here | exact Pick.own_sl | exact Pick.apd_sl | exact Pick.r_blk | exact Pick.sl_nil | exact Pick.own_nil | apply Pick.there)) rfl (by (first | omega | (simp only [maxLen, List.length_append, List.length_drop, List.length_take, List.length_nil, List.length_cons]; omega))) (by (first | omega | (simp only [maxLen, List.length_append, List.length_drop, List.length_take, List.length_nil, List.length_cons]; omega))) fun v3 => ?_)
    refine o_step (s_buildSlice Tryd.underlying22 ti9 rfl rfl rfl (by decide) (by decide) (beside_str [⟨#[109, 111, 114, 101]⟩]) rfl rfl (Nat.le_of_ble_eq_true rfl) fun v4 => ?_)
    refine o_step (s_append Tryd.underlying22 ti9 rfl (by decide) rfl rfl (Nat.le_of_ble_eq_true rfl) (by repeat (first | exact Pick.here | exact Pick.own_nil | apply Pick.there)) (by repeat (first | exact Pick.keep (Sl.isDup _ _ _) | exact Pick.keep (BlkR.isDup _ _ _) | exact Pick.here | exact Pick.own_sl | exact Pick.apd_sl | exact Pick.r_blk | exact Pick.sl_nil | exact Pick.own_nil | apply Pick.there)) rfl (by (first | omega | (simp only [maxLen, List.length_append, List.length_drop, List.length_take, List.length_nil, List.length_cons]; omega))) (by (first | omega | (simp only [maxLen, List.length_append, List.length_drop, List.length_take, List.length_nil, List.length_cons]; omega))) fun v5 => ?_)
    refine o_val (v_move rfl) (Nat.le_of_ble_eq_true rfl) ?_
    refine o_val ((by first | exact v_len_form Tryd.underlying22 rfl | exact v_len_sl Tryd.underlying22 rfl (by repeat (first | exact Has.here | exact Has.sl_apd | exact Has.sl_own | exact Has.r_blk | apply Has.there)))) (Nat.le_of_ble_eq_true rfl) ?_
    rw [List.nil_append]
    have hlen : (xs ++ [(⟨#[109, 111, 114, 101]⟩ : ByteArray)]).length = xs.length + 1 := by simp
    refine o_fact ((by repeat (first | exact Has.here | exact Has.sl_apd | exact Has.sl_own | exact Has.r_blk | apply Has.there)) : Has _ (Own eStr 9 v5 (xs ++ [⟨#[109, 111, 114, 101]⟩]))) (fun w O h => Own.form h) ?_
    rintro hform
    obtain ⟨g, cap, rfl, hcap⟩ : ∃ g cap, v5 = .slice (some ⟨g, 0, none⟩) (xs ++ [(⟨#[109, 111, 114, 101]⟩ : ByteArray)]).length cap ∧ (xs ++ [(⟨#[109, 111, 114, 101]⟩ : ByteArray)]).length ≤ cap := by
      rcases hform with ⟨_, h⟩ | h
      · simp at h
      · exact h
    refine o_ent (L1 := [Sl eStr (.slice (some ⟨g, 0, none⟩) (xs ++ [(⟨#[109, 111, 114, 101]⟩ : ByteArray)]).length cap) (xs ++ [⟨#[109, 111, 114, 101]⟩]), Blk b 32 [u, t], GL m, Sl eStr v xs, Sl eStr u ps, Sl eStr t ws]) (Picks.ent (by repeat (first | exact Picks.nil | (apply Picks.cons; · repeat (first | exact Pick.keep (Sl.isDup _ _ _) | exact Pick.keep (BlkR.isDup _ _ _) | exact Pick.here | exact Pick.own_sl | exact Pick.apd_sl | exact Pick.r_blk | exact Pick.sl_nil | exact Pick.own_nil | apply Pick.there))))) ?_
    refine o_ent (Ent.share (by repeat (first | exact Pick.keep (Sl.isDup _ _ _) | exact Pick.keep (BlkR.isDup _ _ _) | exact Pick.here | exact Pick.own_sl | exact Pick.apd_sl | exact Pick.r_blk | exact Pick.sl_nil | exact Pick.own_nil | apply Pick.there)) (Sl.isDup eStr (.slice (some ⟨g, 0, none⟩) (xs ++ [(⟨#[109, 111, 114, 101]⟩ : ByteArray)]).length cap) (xs ++ [⟨#[109, 111, 114, 101]⟩])) fun _ _ h => Sl.cutV (lo := 0) (hi := xs.length) (c := cap) h (Nat.zero_le _) (by omega) (by omega) (Nat.le_refl _)) ?_
    rw [cutV_zero, List.take_left, List.drop_zero]
    refine o_val (v_slice Tryd.underlying22 ti9 rfl (.inl ⟨rfl, rfl⟩) (.inr ⟨_, _, _, rfl, rfl, by omega, rfl⟩) (.inl ⟨rfl, rfl⟩) (by omega) (by omega) (by omega)) (Nat.le_of_ble_eq_true rfl) ?_
    refine o_val (v_assign rfl) (Nat.le_of_ble_eq_true rfl) ?_
    refine o_nil ?_
    refine c_seq ?_
    refine c_region ?_
    refine o_val (v_move rfl) (Nat.le_of_ble_eq_true rfl) ?_
    refine o_val (v_move rfl) (Nat.le_of_ble_eq_true rfl) ?_
    refine o_val (v_fieldAddr Tryd.underlying32 rfl ti22 (by decide) rfl) (Nat.le_of_ble_eq_true rfl) ?_
    refine o_val (v_load lone22 rfl (by repeat (first | exact Has.here | exact Has.sl_apd | exact Has.sl_own | exact Has.r_blk | apply Has.there)) rfl) (Nat.le_of_ble_eq_true rfl) ?_
    refine o_val (v_fieldAddr Tryd.underlying32 rfl ti22 (by decide) rfl) (Nat.le_of_ble_eq_true rfl) ?_
    refine o_val (v_load lone22 rfl (by repeat (first | exact Has.here | exact Has.sl_apd | exact Has.sl_own | exact Has.r_blk | apply Has.there)) rfl) (Nat.le_of_ble_eq_true rfl) ?_
    rw [Int.toNat_natCast, cutV_zero]
    refine o_step (s_callf cl22 (splice_con (.slice (some ⟨g, 0, none⟩) xs.length cap) u t xs ps ws k (by omega) (by omega) (by omega) hk) rfl (Nat.le_of_ble_eq_true rfl) (by repeat (first | exact Picks.nil | (apply Picks.cons; · repeat (first | exact Pick.keep (Sl.isDup _ _ _) | exact Pick.keep (BlkR.isDup _ _ _) | exact Pick.here | exact Pick.own_sl | exact Pick.apd_sl | exact Pick.r_blk | exact Pick.sl_nil | exact Pick.own_nil | apply Pick.there)))) fun r1 _ => ?_)
    refine o_val (v_move rfl) (Nat.le_of_ble_eq_true rfl) ?_
    refine o_val (v_extract rfl rfl) (Nat.le_of_ble_eq_true rfl) ?_
    refine o_val (v_extract rfl rfl) (Nat.le_of_ble_eq_true rfl) ?_
    refine o_val (v_assign rfl) (Nat.le_of_ble_eq_true rfl) ?_
    refine o_val (v_assign rfl) (Nat.le_of_ble_eq_true rfl) ?_
    refine o_nil ?_
    refine c_seq ?_
    refine c_region ?_
    refine o_val (v_move rfl) (Nat.le_of_ble_eq_true rfl) ?_
    refine o_val (v_move rfl) (Nat.le_of_ble_eq_true rfl) ?_
    refine o_val (v_fieldAddr Tryd.underlying32 rfl ti22 (by decide) rfl) (Nat.le_of_ble_eq_true rfl) ?_
    refine o_val (v_load lone22 rfl (by repeat (first | exact Has.here | exact Has.sl_apd | exact Has.sl_own | exact Has.r_blk | apply Has.there)) rfl) (Nat.le_of_ble_eq_true rfl) ?_
    refine o_val (v_fieldAddr Tryd.underlying32 rfl ti22 (by decide) rfl) (Nat.le_of_ble_eq_true rfl) ?_
    refine o_val (v_load lone22 rfl (by repeat (first | exact Has.here | exact Has.sl_apd | exact Has.sl_own | exact Has.r_blk | apply Has.there)) rfl) (Nat.le_of_ble_eq_true rfl) ?_
    refine o_ent (L1 := [Sl eStr r1 (if Stands xs k ps then xs.take k.toNat ++ ws ++ xs.drop (k.toNat + ps.length) else []), Sl eStr (.slice (some ⟨g, 0, none⟩) xs.length cap) xs, Sl eStr (.slice (some ⟨g, 0, none⟩) (xs ++ [(⟨#[109, 111, 114, 101]⟩ : ByteArray)]).length cap) (xs ++ [⟨#[109, 111, 114, 101]⟩]), Blk b 32 [u, t], GL m, Sl eStr v xs, Sl eStr u ps, Sl eStr t ws]) (Picks.ent (by repeat (first | exact Picks.nil | (apply Picks.cons; · repeat (first | exact Pick.keep (Sl.isDup _ _ _) | exact Pick.keep (BlkR.isDup _ _ _) | exact Pick.here | exact Pick.own_sl | exact Pick.apd_sl | exact Pick.r_blk | exact Pick.sl_nil | exact Pick.own_nil | apply Pick.there))))) ?_
    refine o_step (s_callf cl23 (splice_ref_con v u t xs ps ws k (by omega) (by omega) (by omega) hk) rfl (Nat.le_of_ble_eq_true rfl) (by repeat (first | exact Picks.nil | (apply Picks.cons; · repeat (first | exact Pick.keep (Sl.isDup _ _ _) | exact Pick.keep (BlkR.isDup _ _ _) | exact Pick.here | exact Pick.own_sl | exact Pick.apd_sl | exact Pick.r_blk | exact Pick.sl_nil | exact Pick.own_nil | apply Pick.there)))) fun r2 _ => ?_)
    refine o_val (v_move rfl) (Nat.le_of_ble_eq_true rfl) ?_
    refine o_val (v_extract rfl rfl) (Nat.le_of_ble_eq_true rfl) ?_
    refine o_val (v_extract rfl rfl) (Nat.le_of_ble_eq_true rfl) ?_
    refine o_val (v_assign rfl) (Nat.le_of_ble_eq_true rfl) ?_
    refine o_val (v_assign rfl) (Nat.le_of_ble_eq_true rfl) ?_
    refine o_nil ?_
    refine c_seq ?_
    refine c_region ?_
    refine o_step (s_callf cl12 (alive_con m) rfl (Nat.le_of_ble_eq_true rfl) (by repeat (first | exact Picks.nil | (apply Picks.cons; · repeat (first | exact Pick.keep (Sl.isDup _ _ _) | exact Pick.keep (BlkR.isDup _ _ _) | exact Pick.here | exact Pick.own_sl | exact Pick.apd_sl | exact Pick.r_blk | exact Pick.sl_nil | exact Pick.own_nil | apply Pick.there)))) fun _ _ => ?_)
    refine o_val (v_move rfl) (Nat.le_of_ble_eq_true rfl) ?_
    refine o_guard rfl rfl (fun _ => ?_) (fun h_ => absurd ((show _ = true from rfl).symm.trans h_) (by decide))
    refine o_val (v_move rfl) (Nat.le_of_ble_eq_true rfl) ?_
    refine o_on rfl rfl ?_
    refine o_val (v_move rfl) (Nat.le_of_ble_eq_true rfl) ?_
    refine o_on rfl rfl ?_
    refine o_val (v_beq Tryd.underlying4 rfl rfl) (Nat.le_of_ble_eq_true rfl) ?_
    refine o_val (v_pick_t rfl rfl) (Nat.le_of_ble_eq_true rfl) ?_
    refine o_val (v_move rfl) (Nat.le_of_ble_eq_true rfl) ?_
    refine o_guard rfl rfl (fun _ => ?_) (fun h_ => absurd ((show _ = true from by simp).symm.trans h_) (by decide))
    refine o_val (v_move rfl) (Nat.le_of_ble_eq_true rfl) ?_
    refine o_on rfl rfl ?_
    refine o_val (v_move rfl) (Nat.le_of_ble_eq_true rfl) ?_
    refine o_on rfl rfl ?_
    refine o_ent (L1 := [Sl eStr r2 (if Stands xs k ps then xs.take k.toNat ++ ws ++ xs.drop (k.toNat + ps.length) else []), Sl eStr r1 (if Stands xs k ps then xs.take k.toNat ++ ws ++ xs.drop (k.toNat + ps.length) else []), Sl eStr (.slice (some ⟨g, 0, none⟩) xs.length cap) xs, Sl eStr (.slice (some ⟨g, 0, none⟩) (xs ++ [(⟨#[109, 111, 114, 101]⟩ : ByteArray)]).length cap) (xs ++ [⟨#[109, 111, 114, 101]⟩]), Sl eStr v xs]) (Picks.ent (by repeat (first | exact Picks.nil | (apply Picks.cons; · repeat (first | exact Pick.keep (Sl.isDup _ _ _) | exact Pick.keep (BlkR.isDup _ _ _) | exact Pick.here | exact Pick.own_sl | exact Pick.apd_sl | exact Pick.r_blk | exact Pick.sl_nil | exact Pick.own_nil | apply Pick.there))))) ?_
    have hlr : (if Stands xs k ps then xs.take k.toNat ++ ws ++ xs.drop (k.toNat + ps.length) else []).length ≤ 1000 := by
      split
      · simp only [List.length_append, List.length_take, List.length_drop]; omega
      · simp
    generalize (if Stands xs k ps then xs.take k.toNat ++ ws ++ xs.drop (k.toNat + ps.length) else []) = R at hlr ⊢
    refine o_step (s_callf cl24 (same_ref_con r1 r2 R R (by omega) (by omega)) rfl (Nat.le_of_ble_eq_true rfl) (by repeat (first | exact Picks.nil | (apply Picks.cons; · repeat (first | exact Pick.keep (Sl.isDup _ _ _) | exact Pick.keep (BlkR.isDup _ _ _) | exact Pick.here | exact Pick.own_sl | exact Pick.apd_sl | exact Pick.r_blk | exact Pick.sl_nil | exact Pick.own_nil | apply Pick.there)))) fun _ _ => ?_)
    refine o_val (v_pick_t rfl rfl) (Nat.le_of_ble_eq_true rfl) ?_
    refine o_val (v_move rfl) (Nat.le_of_ble_eq_true rfl) ?_
    refine o_guard rfl rfl (fun _ => ?_) (fun h_ => absurd ((show _ = true from by simp).symm.trans h_) (by decide))
    refine o_val (v_move rfl) (Nat.le_of_ble_eq_true rfl) ?_
    refine o_on rfl rfl ?_
    refine o_val (v_move rfl) (Nat.le_of_ble_eq_true rfl) ?_
    refine o_on rfl rfl ?_
    refine o_step (s_callf cl24 (same_ref_con (.slice (some ⟨g, 0, none⟩) xs.length cap) v xs xs (by omega) (by omega)) rfl (Nat.le_of_ble_eq_true rfl) (by repeat (first | exact Picks.nil | (apply Picks.cons; · repeat (first | exact Pick.keep (Sl.isDup _ _ _) | exact Pick.keep (BlkR.isDup _ _ _) | exact Pick.here | exact Pick.own_sl | exact Pick.apd_sl | exact Pick.r_blk | exact Pick.sl_nil | exact Pick.own_nil | apply Pick.there)))) fun _ _ => ?_)
    refine o_val (v_pick_t rfl rfl) (Nat.le_of_ble_eq_true rfl) ?_
    refine o_val (v_move rfl) (Nat.le_of_ble_eq_true rfl) ?_
    refine o_guard rfl rfl (fun _ => ?_) (fun h_ => absurd ((show _ = true from by simp).symm.trans h_) (by decide))
    refine o_val (v_move rfl) (Nat.le_of_ble_eq_true rfl) ?_
    refine o_on rfl rfl ?_
    refine o_val (v_move rfl) (Nat.le_of_ble_eq_true rfl) ?_
    refine o_on rfl rfl ?_
    refine o_val ((by first | exact v_len_form Tryd.underlying22 rfl | exact v_len_sl Tryd.underlying22 rfl (by repeat (first | exact Has.here | exact Has.sl_apd | exact Has.sl_own | exact Has.r_blk | apply Has.there)))) (Nat.le_of_ble_eq_true rfl) ?_
    refine o_on rfl rfl ?_
    refine o_val ((by first | exact v_add64 rfl rfl (by omega) | exact v_add rfl rfl)) (Nat.le_of_ble_eq_true rfl) ?_
    refine o_on rfl rfl ?_
    rw [hlen]
    refine o_val (v_slice Tryd.underlying22 ti9 rfl (.inl ⟨rfl, rfl⟩) (.inr ⟨_, _, _, rfl, rfl, by omega, rfl⟩) (.inl ⟨rfl, rfl⟩) (by omega) (by omega) (by omega)) (Nat.le_of_ble_eq_true rfl) ?_
    rw [cutV_zero, show ((xs.length : Int) + 1).toNat = xs.length + 1 from by omega, ← hlen]
    refine o_on rfl rfl ?_
    refine o_val (v_move rfl) (Nat.le_of_ble_eq_true rfl) ?_
    refine o_on rfl rfl ?_
    refine o_val ((by first | exact v_len_form Tryd.underlying22 rfl | exact v_len_sl Tryd.underlying22 rfl (by repeat (first | exact Has.here | exact Has.sl_apd | exact Has.sl_own | exact Has.r_blk | apply Has.there)))) (Nat.le_of_ble_eq_true rfl) ?_
    refine o_on rfl rfl ?_
    refine o_val ((by first | exact v_indexAddrN Tryd.underlying22 ti9 rfl rfl (by repeat (first | exact Has.here | exact Has.sl_apd | exact Has.sl_own | exact Has.r_blk | apply Has.there)) (by omega) | exact v_indexAddr Tryd.underlying22 ti9 rfl rfl (by repeat (first | exact Has.here | exact Has.sl_apd | exact Has.sl_own | exact Has.r_blk | apply Has.there)) (by omega))) (Nat.le_of_ble_eq_true rfl) ?_
    refine o_on rfl rfl ?_
    refine o_val (v_load_str lone9 rfl (by repeat (first | exact Elem.sl (List.getElem?_eq_getElem (by omega)) | exact Elem.own (List.getElem?_eq_getElem (by omega)) | apply Elem.there))) (Nat.le_of_ble_eq_true rfl) ?_
    refine o_on rfl rfl ?_
    refine o_val (v_seq rfl rfl) (Nat.le_of_ble_eq_true rfl) ?_
    refine o_val (v_pick_t rfl rfl) (Nat.le_of_ble_eq_true rfl) ?_
    refine o_val (v_assign rfl) (Nat.le_of_ble_eq_true rfl) ?_
    refine o_nil ?_
    refine c_ret1 Tryd.func5 rfl rfl fun w O hS => ?_
    exact ⟨(), congrArg Value.bool (by simp), trivial, trivial⟩
end Go.Proofs.YtgokinfjlollpaaDoor

import Derived.Test.YtgokinfjlollpaaDoorB6
namespace Go.Proofs.YtgokinfjlollpaaDoor
open Go Go.SL L01
attribute [local irreducible] Cfg Kont StepK Val Con Qops Any Sl Own Blk BlkR Rd Pu ExA AllA Has Pick Ent Elem Beside Callable TI Lone

theorem again_law {xs ps ws : Ls} {k : Int} (h : Stands xs k ps) :
    Stands (xs.take k.toNat ++ ws ++ xs.drop (k.toNat + ps.length)) k ws ∧
    (xs.take k.toNat ++ ws ++ xs.drop (k.toNat + ps.length)).take k.toNat ++ ps ++ (xs.take k.toNat ++ ws ++ xs.drop (k.toNat + ps.length)).drop (k.toNat + ws.length) = xs ∧
    (xs.take k.toNat ++ ws ++ xs.drop (k.toNat + ps.length)).length = xs.length - ps.length + ws.length := by
  obtain ⟨h0, h1, h2⟩ := h
  have hl : (xs.take k.toNat).length = k.toNat := by simp; omega
  have e1 : (xs.take k.toNat ++ ws ++ xs.drop (k.toNat + ps.length)).take k.toNat = xs.take k.toNat := by
    rw [List.append_assoc, List.take_append_of_le_length (by omega), List.take_of_length_le (by omega)]
  have e2 : (xs.take k.toNat ++ ws ++ xs.drop (k.toNat + ps.length)).drop (k.toNat + ws.length) = xs.drop (k.toNat + ps.length) := by
    rw [List.drop_append, List.drop_of_length_le (by simp; omega), List.nil_append]
    simp only [List.length_append, hl, Nat.sub_self, List.drop_zero]
  have e3 : (xs.take k.toNat ++ ws ++ xs.drop (k.toNat + ps.length)).length = xs.length - ps.length + ws.length := by
    simp only [List.length_append, hl, List.length_drop]; omega
  refine ⟨⟨h0, by rw [e3]; omega, ?_⟩, ?_, e3⟩
  · rw [List.append_assoc, List.drop_append, List.drop_of_length_le (by omega), hl, Nat.sub_self, List.nil_append, List.drop_zero, List.take_append_of_le_length (Nat.le_refl _), List.take_of_length_le (Nat.le_refl _)]
  · rw [e1, e2]
    conv => rhs; rw [← List.take_append_drop k.toNat xs]
    rw [List.append_assoc]
    congr 1
    conv => rhs; rw [← List.take_append_drop ps.length (xs.drop k.toNat), h2, List.drop_drop]

set_option maxRecDepth 100000 in
theorem again_con (m : Int) (v u t : Value) (xs ps ws : Ls) (k : Int) (hx : Lim xs) (hp : Lim ps) (hw : Lim ws) (hk : -9223372036854775808 ≤ k ∧ k ≤ 9223372036854775807) :
    Con Tryd.prog 6 [v, .int .i64 k, .agg #[u, t]] [GL m, Sl eStr v xs, Sl eStr u ps, Sl eStr t ws] (γ := Unit) (fun _ => .bool true) (fun _ => True) (fun _ => []) := by
  refine con_of Tryd.func6 rfl (Nat.le_of_ble_eq_true rfl) fun w0 O0 => ?_
  refine c_seq ?_
  refine c_region ?_
  refine o_step (s_box rfl (Nat.le_of_ble_eq_true rfl) fun b => ?_)
  refine o_val (v_assign rfl) (Nat.le_of_ble_eq_true rfl) ?_
  refine o_nil ?_
  refine c_seq ?_
  refine c_seq ?_
  refine c_region ?_
  refine o_val (v_move rfl) (Nat.le_of_ble_eq_true rfl) ?_
  refine o_val (v_fieldAddr Tryd.underlying32 rfl ti22 (by decide) rfl) (Nat.le_of_ble_eq_true rfl) ?_
  refine o_val (v_load lone22 rfl (by repeat (first | exact Has.here | exact Has.sl_apd | exact Has.sl_own | exact Has.r_blk | apply Has.there)) rfl) (Nat.le_of_ble_eq_true rfl) ?_
  refine o_val (v_fieldAddr Tryd.underlying32 rfl ti22 (by decide) rfl) (Nat.le_of_ble_eq_true rfl) ?_
  refine o_val (v_load lone22 rfl (by repeat (first | exact Has.here | exact Has.sl_apd | exact Has.sl_own | exact Has.r_blk | apply Has.there)) rfl) (Nat.le_of_ble_eq_true rfl) ?_
  refine o_step (s_buildSlice Tryd.underlying43 ti22 rfl rfl rfl (by decide) (by decide) (beside_sl3 v u t xs ps ws (by repeat (first | exact Picks.nil | (apply Picks.cons; · repeat (first | exact Pick.keep (Sl.isDup _ _ _) | exact Pick.keep (BlkR.isDup _ _ _) | exact Pick.here | exact Pick.own_sl | exact Pick.apd_sl | exact Pick.r_blk | exact Pick.sl_nil | exact Pick.own_nil | apply Pick.there))))) rfl rfl (Nat.le_of_ble_eq_true rfl) fun v1 => ?_)
  refine o_step (s_callf cl11 (few3_con v1 xs ps ws hx hp hw) rfl (Nat.le_of_ble_eq_true rfl) (by repeat (first | exact Picks.nil | (apply Picks.cons; · repeat (first | exact Pick.keep (Sl.isDup _ _ _) | exact Pick.keep (BlkR.isDup _ _ _) | exact Pick.here | exact Pick.own_sl | exact Pick.apd_sl | exact Pick.r_blk | exact Pick.sl_nil | exact Pick.own_nil | apply Pick.there)))) fun _ _ => ?_)
  refine o_val (v_not rfl) (Nat.le_of_ble_eq_true rfl) ?_
  refine o_nil ?_
  refine c_cond rfl (fun h => ?_) (fun h => ?_)
  · refine c_seq ?_
    refine c_region ?_
    refine o_step (s_callf cl12 (alive_con m) rfl (Nat.le_of_ble_eq_true rfl) (by repeat (first | exact Picks.nil | (apply Picks.cons; · repeat (first | exact Pick.keep (Sl.isDup _ _ _) | exact Pick.keep (BlkR.isDup _ _ _) | exact Pick.here | exact Pick.own_sl | exact Pick.apd_sl | exact Pick.r_blk | exact Pick.sl_nil | exact Pick.own_nil | apply Pick.there)))) fun _ _ => ?_)
    refine o_val (v_assign rfl) (Nat.le_of_ble_eq_true rfl) ?_
    refine o_nil ?_
    refine c_ret1 Tryd.func6 rfl rfl fun w O hS => ?_
    exact ⟨(), rfl, trivial, trivial⟩
  · refine c_skip ?_
    refine c_seq ?_
    refine c_region ?_
    refine o_val (v_move rfl) (Nat.le_of_ble_eq_true rfl) ?_
    refine o_val (v_move rfl) (Nat.le_of_ble_eq_true rfl) ?_
    refine o_val (v_fieldAddr Tryd.underlying32 rfl ti22 (by decide) rfl) (Nat.le_of_ble_eq_true rfl) ?_
    refine o_val (v_load lone22 rfl (by repeat (first | exact Has.here | exact Has.sl_apd | exact Has.sl_own | exact Has.r_blk | apply Has.there)) rfl) (Nat.le_of_ble_eq_true rfl) ?_
    refine o_val (v_fieldAddr Tryd.underlying32 rfl ti22 (by decide) rfl) (Nat.le_of_ble_eq_true rfl) ?_
    refine o_val (v_load lone22 rfl (by repeat (first | exact Has.here | exact Has.sl_apd | exact Has.sl_own | exact Has.r_blk | apply Has.there)) rfl) (Nat.le_of_ble_eq_true rfl) ?_
    have hf : bytesOf [xs, ps, ws] ≤ 6000 ∧ linesOf [xs, ps, ws] ≤ 300 := by simpa using h
    have h1 := few_len hf.2 (xs := xs) (by simp)
    have h2 := few_len hf.2 (xs := ps) (by simp)
    have h3 := few_len hf.2 (xs := ws) (by simp)
    refine o_step (s_callf cl22 (splice_con v u t xs ps ws k (by omega) (by omega) (by omega) hk) rfl (Nat.le_of_ble_eq_true rfl) (by repeat (first | exact Picks.nil | (apply Picks.cons; · repeat (first | exact Pick.keep (Sl.isDup _ _ _) | exact Pick.keep (BlkR.isDup _ _ _) | exact Pick.here | exact Pick.own_sl | exact Pick.apd_sl | exact Pick.r_blk | exact Pick.sl_nil | exact Pick.own_nil | apply Pick.there)))) fun r1 _ => ?_)
    refine o_val (v_move rfl) (Nat.le_of_ble_eq_true rfl) ?_
    refine o_val (v_extract rfl rfl) (Nat.le_of_ble_eq_true rfl) ?_
    refine o_val (v_extract rfl rfl) (Nat.le_of_ble_eq_true rfl) ?_
    refine o_val (v_assign rfl) (Nat.le_of_ble_eq_true rfl) ?_
    refine o_val (v_assign rfl) (Nat.le_of_ble_eq_true rfl) ?_
    refine o_nil ?_
    refine c_seq ?_
    refine c_seq ?_
    refine c_region ?_
    refine o_val (v_move rfl) (Nat.le_of_ble_eq_true rfl) ?_
    refine o_val (v_not rfl) (Nat.le_of_ble_eq_true rfl) ?_
    refine o_nil ?_
    refine c_ent (L' := [Sl eStr r1 (if Stands xs k ps then xs.take k.toNat ++ ws ++ xs.drop (k.toNat + ps.length) else []), Blk b 32 [u, t], GL m, Sl eStr v xs, Sl eStr u ps, Sl eStr t ws]) (Picks.ent (by repeat (first | exact Picks.nil | (apply Picks.cons; · repeat (first | exact Pick.keep (Sl.isDup _ _ _) | exact Pick.keep (BlkR.isDup _ _ _) | exact Pick.here | exact Pick.own_sl | exact Pick.apd_sl | exact Pick.r_blk | exact Pick.sl_nil | exact Pick.own_nil | apply Pick.there))))) ?_
    refine c_cond rfl (fun hs => ?_) (fun hs => ?_)
    · refine c_seq ?_
      refine c_region ?_
      have hn : ¬ Stands xs k ps := by simpa using hs
      rw [if_neg hn]
      refine o_step (s_callf cl12 (alive_con m) rfl (Nat.le_of_ble_eq_true rfl) (by repeat (first | exact Picks.nil | (apply Picks.cons; · repeat (first | exact Pick.keep (Sl.isDup _ _ _) | exact Pick.keep (BlkR.isDup _ _ _) | exact Pick.here | exact Pick.own_sl | exact Pick.apd_sl | exact Pick.r_blk | exact Pick.sl_nil | exact Pick.own_nil | apply Pick.there)))) fun _ _ => ?_)
      refine o_val (v_move rfl) (Nat.le_of_ble_eq_true rfl) ?_
      refine o_guard rfl rfl (fun _ => ?_) (fun h_ => absurd ((show _ = true from rfl).symm.trans h_) (by decide))
      refine o_val (v_move rfl) (Nat.le_of_ble_eq_true rfl) ?_
      refine o_on rfl rfl ?_
      refine o_val ((by first | exact v_len_form Tryd.underlying22 rfl | exact v_len_sl Tryd.underlying22 rfl (by repeat (first | exact Has.here | exact Has.sl_apd | exact Has.sl_own | exact Has.r_blk | apply Has.there)))) (Nat.le_of_ble_eq_true rfl) ?_
      refine o_on rfl rfl ?_
      refine o_val (v_eq rfl rfl) (Nat.le_of_ble_eq_true rfl) ?_
      refine o_val (v_pick_t rfl rfl) (Nat.le_of_ble_eq_true rfl) ?_
      refine o_val (v_assign rfl) (Nat.le_of_ble_eq_true rfl) ?_
      refine o_nil ?_
      refine c_ret1 Tryd.func6 rfl rfl fun w O hS => ?_
      exact ⟨(), rfl, trivial, trivial⟩
    · refine c_skip ?_
      refine c_seq ?_
      refine c_region ?_
      refine o_val (v_move rfl) (Nat.le_of_ble_eq_true rfl) ?_
      refine o_val (v_move rfl) (Nat.le_of_ble_eq_true rfl) ?_
      refine o_val (v_fieldAddr Tryd.underlying32 rfl ti22 (by decide) rfl) (Nat.le_of_ble_eq_true rfl) ?_
      refine o_val (v_load lone22 rfl (by repeat (first | exact Has.here | exact Has.sl_apd | exact Has.sl_own | exact Has.r_blk | apply Has.there)) rfl) (Nat.le_of_ble_eq_true rfl) ?_
      refine o_val (v_fieldAddr Tryd.underlying32 rfl ti22 (by decide) rfl) (Nat.le_of_ble_eq_true rfl) ?_
      refine o_val (v_load lone22 rfl (by repeat (first | exact Has.here | exact Has.sl_apd | exact Has.sl_own | exact Has.r_blk | apply Has.there)) rfl) (Nat.le_of_ble_eq_true rfl) ?_
      have hst : Stands xs k ps := by simpa using hs
      obtain ⟨a1, a2, a3⟩ := again_law (ws := ws) hst
      have hle : ps.length ≤ xs.length := by have := hst.2.1; omega
      rw [if_pos hst]
      refine o_step (s_callf cl22 (splice_con r1 t u (xs.take k.toNat ++ ws ++ xs.drop (k.toNat + ps.length)) ws ps k (by omega) (by omega) (by omega) hk) rfl (Nat.le_of_ble_eq_true rfl) (by repeat (first | exact Picks.nil | (apply Picks.cons; · repeat (first | exact Pick.keep (Sl.isDup _ _ _) | exact Pick.keep (BlkR.isDup _ _ _) | exact Pick.here | exact Pick.own_sl | exact Pick.apd_sl | exact Pick.r_blk | exact Pick.sl_nil | exact Pick.own_nil | apply Pick.there)))) fun r2 _ => ?_)
      refine o_val (v_move rfl) (Nat.le_of_ble_eq_true rfl) ?_
      refine o_val (v_extract rfl rfl) (Nat.le_of_ble_eq_true rfl) ?_
      refine o_val (v_extract rfl rfl) (Nat.le_of_ble_eq_true rfl) ?_
      refine o_val (v_assign rfl) (Nat.le_of_ble_eq_true rfl) ?_
      refine o_val (v_assign rfl) (Nat.le_of_ble_eq_true rfl) ?_
      refine o_nil ?_
      refine c_seq ?_
      refine c_region ?_
      rw [if_pos a1, a2]
      refine o_ent (L1 := [Sl eStr r2 xs, Sl eStr r1 (xs.take k.toNat ++ ws ++ xs.drop (k.toNat + ps.length)), Blk b 32 [u, t], GL m, Sl eStr v xs, Sl eStr u ps, Sl eStr t ws]) (Picks.ent (by repeat (first | exact Picks.nil | (apply Picks.cons; · repeat (first | exact Pick.keep (Sl.isDup _ _ _) | exact Pick.keep (BlkR.isDup _ _ _) | exact Pick.here | exact Pick.own_sl | exact Pick.apd_sl | exact Pick.r_blk | exact Pick.sl_nil | exact Pick.own_nil | apply Pick.there))))) ?_
      refine o_step (s_callf cl12 (alive_con m) rfl (Nat.le_of_ble_eq_true rfl) (by repeat (first | exact Picks.nil | (apply Picks.cons; · repeat (first | exact Pick.keep (Sl.isDup _ _ _) | exact Pick.keep (BlkR.isDup _ _ _) | exact Pick.here | exact Pick.own_sl | exact Pick.apd_sl | exact Pick.r_blk | exact Pick.sl_nil | exact Pick.own_nil | apply Pick.there)))) fun _ _ => ?_)
      refine o_val (v_move rfl) (Nat.le_of_ble_eq_true rfl) ?_
      refine o_guard rfl rfl (fun _ => ?_) (fun h_ => absurd ((show _ = true from rfl).symm.trans h_) (by decide))
      refine o_val (v_move rfl) (Nat.le_of_ble_eq_true rfl) ?_
      refine o_val (v_pick_t rfl rfl) (Nat.le_of_ble_eq_true rfl) ?_
      refine o_val (v_move rfl) (Nat.le_of_ble_eq_true rfl) ?_
      refine o_guard rfl rfl (fun _ => ?_) (fun h_ => absurd ((show _ = true from decide_eq_true a1).symm.trans h_) (by decide))
      refine o_val (v_move rfl) (Nat.le_of_ble_eq_true rfl) ?_
      refine o_on rfl rfl ?_
      refine o_val (v_move rfl) (Nat.le_of_ble_eq_true rfl) ?_
      refine o_on rfl rfl ?_
      refine o_step (s_callf cl24 (same_ref_con r2 v xs xs (by omega) (by omega)) rfl (Nat.le_of_ble_eq_true rfl) (by repeat (first | exact Picks.nil | (apply Picks.cons; · repeat (first | exact Pick.keep (Sl.isDup _ _ _) | exact Pick.keep (BlkR.isDup _ _ _) | exact Pick.here | exact Pick.own_sl | exact Pick.apd_sl | exact Pick.r_blk | exact Pick.sl_nil | exact Pick.own_nil | apply Pick.there)))) fun _ _ => ?_)
      refine o_val (v_pick_t rfl rfl) (Nat.le_of_ble_eq_true rfl) ?_
      refine o_val (v_move rfl) (Nat.le_of_ble_eq_true rfl) ?_
      refine o_guard rfl rfl (fun _ => ?_) (fun h_ => absurd ((show _ = true from by simp).symm.trans h_) (by decide))
      refine o_val (v_move rfl) (Nat.le_of_ble_eq_true rfl) ?_
      refine o_on rfl rfl ?_
      refine o_val ((by first | exact v_len_form Tryd.underlying22 rfl | exact v_len_sl Tryd.underlying22 rfl (by repeat (first | exact Has.here | exact Has.sl_apd | exact Has.sl_own | exact Has.r_blk | apply Has.there)))) (Nat.le_of_ble_eq_true rfl) ?_
      refine o_on rfl rfl ?_
      refine o_val (v_move rfl) (Nat.le_of_ble_eq_true rfl) ?_
      refine o_on rfl rfl ?_
      refine o_val ((by first | exact v_len_form Tryd.underlying22 rfl | exact v_len_sl Tryd.underlying22 rfl (by repeat (first | exact Has.here | exact Has.sl_apd | exact Has.sl_own | exact Has.r_blk | apply Has.there)))) (Nat.le_of_ble_eq_true rfl) ?_
      refine o_on rfl rfl ?_
      refine o_val (v_fieldAddr Tryd.underlying32 rfl ti22 (by decide) rfl) (Nat.le_of_ble_eq_true rfl) ?_
      refine o_on rfl rfl ?_
      refine o_val (v_load lone22 rfl (by repeat (first | exact Has.here | exact Has.sl_apd | exact Has.sl_own | exact Has.r_blk | apply Has.there)) rfl) (Nat.le_of_ble_eq_true rfl) ?_
      refine o_on rfl rfl ?_
      refine o_val ((by first | exact v_len_form Tryd.underlying22 rfl | exact v_len_sl Tryd.underlying22 rfl (by repeat (first | exact Has.here | exact Has.sl_apd | exact Has.sl_own | exact Has.r_blk | apply Has.there)))) (Nat.le_of_ble_eq_true rfl) ?_
      refine o_on rfl rfl ?_
      refine o_val ((by first | exact v_sub64 rfl rfl (by omega) | exact v_sub rfl rfl)) (Nat.le_of_ble_eq_true rfl) ?_
      refine o_on rfl rfl ?_
      refine o_val (v_fieldAddr Tryd.underlying32 rfl ti22 (by decide) rfl) (Nat.le_of_ble_eq_true rfl) ?_
      refine o_on rfl rfl ?_
      refine o_val (v_load lone22 rfl (by repeat (first | exact Has.here | exact Has.sl_apd | exact Has.sl_own | exact Has.r_blk | apply Has.there)) rfl) (Nat.le_of_ble_eq_true rfl) ?_
      refine o_on rfl rfl ?_
      refine o_val ((by first | exact v_len_form Tryd.underlying22 rfl | exact v_len_sl Tryd.underlying22 rfl (by repeat (first | exact Has.here | exact Has.sl_apd | exact Has.sl_own | exact Has.r_blk | apply Has.there)))) (Nat.le_of_ble_eq_true rfl) ?_
      refine o_on rfl rfl ?_
      refine o_val ((by first | exact v_add64 rfl rfl (by omega) | exact v_add rfl rfl)) (Nat.le_of_ble_eq_true rfl) ?_
      refine o_on rfl rfl ?_
      refine o_val (v_eq rfl rfl) (Nat.le_of_ble_eq_true rfl) ?_
      refine o_val (v_pick_t rfl rfl) (Nat.le_of_ble_eq_true rfl) ?_
      refine o_val (v_assign rfl) (Nat.le_of_ble_eq_true rfl) ?_
      refine o_nil ?_
      refine c_ret1 Tryd.func6 rfl rfl fun w O hS => ?_
      exact ⟨(), congrArg Value.bool (by rw [a3]; exact decide_eq_true (by omega)), trivial, trivial⟩

/-! ### LineBack, LineParts: what lines and texts come to -/
theorem cutGo_line {x l : List UInt8} (h : 10 ∉ x) : ∀ cur, cutGo cur (x ++ 10 :: l) = (cur ++ x) :: cutGo [] l := by
  induction x with
  | nil => intro cur; simp [cutGo]
  | cons b x ih =>
    intro cur
    rw [List.cons_append, cutGo, if_neg (fun e => h (by simp [e])), ih (fun e => h (by simp [e]))]
    simp
theorem cut_text : ∀ {xs : Ls}, (∀ x ∈ xs, 10 ∉ x.data.toList) → cutS (textS xs) = xs
  | [], _ => rfl
  | x :: xs, h => by
    have e : (textS (x :: xs)).data.toList = x.data.toList ++ 10 :: (textS xs).data.toList := by simp [textS, nl]
    have ih := cut_text (xs := xs) fun y hy => h y (by simp [hy])
    unfold cutS at ih ⊢
    rw [e, cutGo_line (h x (by simp)), List.map_cons, ih]
    simp
theorem text_append (xs ys : Ls) : (textS (xs ++ ys)).data.toList = (textS xs).data.toList ++ (textS ys).data.toList := by
  induction xs with
  | nil => simp [textS]
  | cons x xs ih => rw [List.cons_append, textS, textS]; simp [ih]
theorem text_cutGo : ∀ (l cur : List UInt8), (textS ((cutGo cur l).map fun l => ⟨l.toArray⟩)).data.toList = if l = [] ∧ cur = [] then [] else if [10] <:+ l then cur ++ l else cur ++ l ++ [10]
  | [], cur => by
    rw [cutGo]
    by_cases h : cur = []
    · simp [h, textS]
    · rw [if_neg h, if_neg (by simp [h]), if_neg (by simp)]
      simp [textS, nl]
  | b :: l, cur => by
    rw [cutGo, if_neg (show ¬ (b :: l = [] ∧ cur = []) from fun h => by cases h.1)]
    by_cases hb : b = 10
    · rw [if_pos hb, List.map_cons, textS]
      have ih := text_cutGo l []
      simp only [ByteArray.data_append, Array.toList_append, ih, and_true, List.nil_append]
      subst hb
      by_cases hl : l = []
      · subst hl; simp [nl]
      · rw [if_neg hl]
        have e : [10] <:+ (10 : UInt8) :: l ↔ [10] <:+ l := by
          rw [List.suffix_cons_iff]
          constructor
          · rintro (h | h)
            · exact absurd (List.cons.inj h).2.symm hl
            · exact h
          · exact .inr
        by_cases hs : [10] <:+ l
        · rw [if_pos hs, if_pos (e.2 hs)]; simp [nl]
        · rw [if_neg hs, if_neg (fun h => hs (e.1 h))]; simp [nl]
    · rw [if_neg hb, text_cutGo l (cur ++ [b]), if_neg (by simp)]
      have e : [10] <:+ b :: l ↔ [10] <:+ l := by
        rw [List.suffix_cons_iff]
        constructor
        · rintro (h | h)
          · exact absurd (List.cons.inj h).1.symm hb
          · exact h
        · exact .inr
      by_cases hs : [10] <:+ l
      · rw [if_pos hs, if_pos (e.2 hs)]; simp
      · rw [if_neg hs, if_neg (fun h => hs (e.1 h))]; simp
theorem text_cut (s : ByteArray) : textS (cutS s) = if s ≠ ByteArray.empty ∧ Lib.hasSuffix s.data.toList [10] = false then s ++ nl else s := by
  apply ByteArray.ext
  apply Array.toList_inj.1
  have h := text_cutGo s.data.toList []
  have e0 : s = ByteArray.empty ↔ s.data.toList = [] := ⟨fun e => by rw [e]; rfl, fun e => ByteArray.ext (Array.toList_inj.1 e)⟩
  unfold cutS
  rw [h]
  unfold Lib.hasSuffix
  by_cases h1 : s.data.toList = []
  · rw [if_pos ⟨h1, rfl⟩, if_neg (fun g => g.1 (e0.2 h1)), h1]
  · rw [if_neg (fun g => h1 g.1)]
    by_cases h2 : [10] <:+ s.data.toList
    · rw [if_pos h2, if_neg (fun g => by rw [List.isSuffixOf_iff_suffix.2 h2] at g; cases g.2)]; simp
    · rw [if_neg h2, if_pos ⟨fun g => h1 (e0.1 g), by rw [← Bool.not_eq_true]; exact fun g => h2 (List.isSuffixOf_iff_suffix.1 g)⟩]; simp [nl]
theorem cutGo_count : ∀ (l cur : List UInt8), (cutGo cur l).length = l.count 10 + if l = [] ∧ cur = [] then 0 else if [10] <:+ l then 0 else 1
  | [], cur => by
    rw [cutGo]
    by_cases h : cur = [] <;> simp [h]
  | b :: l, cur => by
    rw [cutGo, if_neg (show ¬ (b :: l = [] ∧ cur = []) from fun h => by cases h.1)]
    by_cases hb : b = 10
    · subst hb
      rw [if_pos rfl, List.length_cons, cutGo_count l [], List.count_cons_self]
      by_cases hl : l = []
      · subst hl; simp
      · have e : [10] <:+ (10 : UInt8) :: l ↔ [10] <:+ l := by
          rw [List.suffix_cons_iff]
          constructor
          · rintro (h | h)
            · exact absurd (List.cons.inj h).2.symm hl
            · exact h
          · exact .inr
        rw [if_neg (fun g => hl g.1)]
        by_cases hs : [10] <:+ l
        · rw [if_pos hs, if_pos (e.2 hs)]
        · rw [if_neg hs, if_neg (fun h => hs (e.1 h))]
    · have e : [10] <:+ b :: l ↔ [10] <:+ l := by
        rw [List.suffix_cons_iff]
        constructor
        · rintro (h | h)
          · exact absurd (List.cons.inj h).1.symm hb
          · exact h
        · exact .inr
      rw [if_neg hb, cutGo_count l (cur ++ [b]), if_neg (by simp), List.count_cons_of_ne (fun h => hb h)]
      by_cases hs : [10] <:+ l
      · rw [if_pos hs, if_pos (e.2 hs)]
      · rw [if_neg hs, if_neg (fun h => hs (e.1 h))]
theorem cut_count (s : ByteArray) : (cutS s).length = Lib.countByte s.data.toList 10 + if s ≠ ByteArray.empty ∧ Lib.hasSuffix s.data.toList [10] = false then 1 else 0 := by
  have h := cutGo_count s.data.toList []
  have e0 : s = ByteArray.empty ↔ s.data.toList = [] := ⟨fun e => by rw [e]; rfl, fun e => ByteArray.ext (Array.toList_inj.1 e)⟩
  unfold cutS Lib.countByte Lib.hasSuffix
  rw [List.length_map, h]
  congr 1
  by_cases h1 : s.data.toList = []
  · rw [if_pos ⟨h1, rfl⟩, if_neg (fun g => g.1 (e0.2 h1))]
  · rw [if_neg (fun g => h1 g.1)]
    by_cases h2 : [10] <:+ s.data.toList
    · rw [if_pos h2, if_neg (fun g => by rw [List.isSuffixOf_iff_suffix.2 h2] at g; cases g.2)]
    · rw [if_neg h2, if_pos ⟨fun g => h1 (e0.1 g), by rw [← Bool.not_eq_true]; exact fun g => h2 (List.isSuffixOf_iff_suffix.1 g)⟩]
end Go.Proofs.YtgokinfjlollpaaDoor

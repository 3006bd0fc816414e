import Derived.Test.YtgokinfjlollpaaDoorA3
import Derived.Test.YtgokinfjlollpaaDoorSh
import Derived.Lib.IndexAny
namespace Go.Proofs.YtgokinfjlollpaaDoor
open Go Go.SL L01
attribute [local irreducible] Cfg Kont StepK Val Con Qops Any Sl Own Blk BlkR Rd Pu ExA AllA Has Pick Ent Elem Beside Callable TI Lone

set_option maxRecDepth 100000 in
theorem clone_con (v : Value) (xs : Ls) (hx : xs.length ≤ 1000000) :
    Con Tryd.prog 42 [v] [Sl eStr v xs] (γ := Value) (fun r => r) (fun _ => True) (fun r => [Own eStr 9 r xs]) := by
  refine Con.form (v := v) (xs := xs) (by repeat (first | exact Has.here | exact Has.sl_apd | exact Has.sl_own | exact Has.r_blk | apply Has.there)) ?_
  rintro a0 c0 rfl hc0 -
  refine con_of Tryd.func42 rfl (Nat.le_of_ble_eq_true rfl) fun w0 O0 => ?_
  refine c_seq ?_
  refine c_region ?_
  refine o_val (v_assign rfl) (Nat.le_of_ble_eq_true rfl) ?_
  refine o_nil ?_
  refine c_seq ?_
  refine c_seq ?_
  refine c_region ?_
  refine o_val (v_move rfl) (Nat.le_of_ble_eq_true rfl) ?_
  refine o_val (v_eq_sl_nil Tryd.underlying22 rfl rfl) (Nat.le_of_ble_eq_true rfl) ?_
  refine o_nil ?_
  refine c_cond rfl (fun h => ?_) (fun h => ?_)
  · refine c_seq ?_
    refine c_region ?_
    refine o_val (v_assign rfl) (Nat.le_of_ble_eq_true rfl) ?_
    refine o_nil ?_
    refine c_ret1 Tryd.func42 rfl rfl fun w O hS => ?_
    have : xs = [] := by
      cases a0 with
      | none => obtain ⟨_, _, _, h1, _⟩ := hS; exact Sl.none_nil h1
      | some _ => cases h
    subst this
    exact ⟨.slice none 0 0, rfl, trivial, stars_own_nil⟩
  · refine c_skip ?_
    refine c_seq ?_
    refine c_region ?_
    refine o_step (s_buildSlice Tryd.underlying22 ti9 rfl rfl rfl (by decide) (by decide) (beside_str []) rfl rfl (Nat.le_of_ble_eq_true rfl) fun v1 => ?_)
    refine o_val (v_move rfl) (Nat.le_of_ble_eq_true rfl) ?_
    refine o_step (s_append Tryd.underlying22 ti9 rfl (by decide) rfl rfl (Nat.le_of_ble_eq_true rfl) (by repeat (first | exact Pick.here | exact Pick.own_nil | apply Pick.there)) (by repeat (first | exact Pick.keep (Sl.isDup _ _ _) | exact Pick.keep (BlkR.isDup _ _ _) | exact Pick.here | exact Pick.own_sl | exact Pick.apd_sl | exact Pick.r_blk | exact Pick.sl_nil | exact Pick.own_nil | apply Pick.there)) rfl (by (first | omega | (simp only [maxLen, List.length_append, List.length_drop, List.length_take, List.length_nil, List.length_cons]; omega))) (by (first | omega | (simp only [maxLen, List.length_append, List.length_drop, List.length_take, List.length_nil, List.length_cons]; omega))) fun v2 => ?_)
    refine o_val (v_assign rfl) (Nat.le_of_ble_eq_true rfl) ?_
    refine o_nil ?_
    refine c_ret1 Tryd.func42 rfl rfl fun w O hS => ?_
    exact ⟨v2, rfl, trivial, Ent.get hS (Picks.ent (by repeat (first | exact Picks.nil | (apply Picks.cons; · repeat (first | exact Pick.keep (Sl.isDup _ _ _) | exact Pick.keep (BlkR.isDup _ _ _) | exact Pick.here | exact Pick.own_sl | exact Pick.apd_sl | exact Pick.r_blk | exact Pick.sl_nil | exact Pick.own_nil | apply Pick.there)))))⟩

set_option maxRecDepth 100000 in
theorem splice_con (v u t : Value) (xs ps ws : Ls) (k : Int) (hx : xs.length ≤ 1000) (hp : ps.length ≤ 1000) (hw : ws.length ≤ 1000) (hk : -9223372036854775808 ≤ k ∧ k ≤ 9223372036854775807) :
    Con Tryd.prog 22 [v, .int .i64 k, u, t] [Sl eStr v xs, Sl eStr u ps, Sl eStr t ws] (γ := Value) (fun r => .tuple #[r, .bool (decide (Stands xs k ps))]) (fun _ => True)
      (fun r => [Own eStr 9 r (if Stands xs k ps then xs.take k.toNat ++ ws ++ xs.drop (k.toNat + ps.length) else [])]) := by
  refine Con.form (v := v) (xs := xs) (by repeat (first | exact Has.here | exact Has.sl_apd | exact Has.sl_own | exact Has.r_blk | apply Has.there)) ?_
  rintro a0 c0 rfl hc0 -
  refine con_of Tryd.func22 rfl (Nat.le_of_ble_eq_true rfl) fun w0 O0 => ?_
  refine c_seq ?_
  refine c_region ?_
  refine o_val (v_assign rfl) (Nat.le_of_ble_eq_true rfl) ?_
  refine o_val (v_assign rfl) (Nat.le_of_ble_eq_true rfl) ?_
  refine o_nil ?_
  refine c_seq ?_
  refine c_seq ?_
  refine c_region ?_
  refine o_val (v_move rfl) (Nat.le_of_ble_eq_true rfl) ?_
  refine o_val (v_move rfl) (Nat.le_of_ble_eq_true rfl) ?_
  refine o_val (v_move rfl) (Nat.le_of_ble_eq_true rfl) ?_
  refine o_step (s_callf cl41 (stands_con (.slice a0 xs.length c0) u xs ps k (by omega) (by omega) (by omega)) rfl (Nat.le_of_ble_eq_true rfl) (by repeat (first | exact Picks.nil | (apply Picks.cons; · repeat (first | exact Pick.keep (Sl.isDup _ _ _) | exact Pick.keep (BlkR.isDup _ _ _) | exact Pick.here | exact Pick.own_sl | exact Pick.apd_sl | exact Pick.r_blk | exact Pick.sl_nil | exact Pick.own_nil | apply Pick.there)))) fun _ _ => ?_)
  refine o_val (v_not rfl) (Nat.le_of_ble_eq_true rfl) ?_
  refine o_nil ?_
  refine c_cond rfl (fun hb => ?_) (fun hb => ?_)
  · refine c_seq ?_
    refine c_region ?_
    refine o_val (v_assign rfl) (Nat.le_of_ble_eq_true rfl) ?_
    refine o_val (v_assign rfl) (Nat.le_of_ble_eq_true rfl) ?_
    refine o_nil ?_
    refine c_ret2 Tryd.func22 rfl rfl rfl fun w O hS => ?_
    have hs : ¬ Stands xs k ps := by simpa using hb
    refine ⟨.slice none 0 0, by rw [decide_eq_false hs], trivial, ?_⟩
    rw [if_neg hs]
    exact stars_own_nil
  · refine c_skip ?_
    refine c_seq ?_
    have hs : Stands xs k ps := by simpa using hb
    have hst : Stands xs k ps := hs
    obtain ⟨g0, g1, g2⟩ := hst
    obtain ⟨n, rfl⟩ := Int.eq_ofNat_of_zero_le g0
    rw [Int.toNat_natCast] at g1 g2 ⊢
    refine c_ent (Ent.share (by repeat (first | exact Pick.keep (Sl.isDup _ _ _) | exact Pick.keep (BlkR.isDup _ _ _) | exact Pick.here | exact Pick.own_sl | exact Pick.apd_sl | exact Pick.r_blk | exact Pick.sl_nil | exact Pick.own_nil | apply Pick.there)) (Sl.isDup eStr (.slice a0 xs.length c0) xs) fun _ _ h => Sl.apdCut (E := 9) (k := n) h (by omega) hc0) ?_
    refine c_ent (Ent.share (by repeat (first | exact Pick.keep (Sl.isDup _ _ _) | exact Pick.keep (BlkR.isDup _ _ _) | exact Pick.here | exact Pick.own_sl | exact Pick.apd_sl | exact Pick.r_blk | exact Pick.sl_nil | exact Pick.own_nil | apply Pick.there)) (Sl.isDup eStr (.slice a0 xs.length c0) xs) fun _ _ h => Sl.cutV (lo := n + ps.length) (hi := xs.length) (c := c0) h (by omega) (Nat.le_refl _) hc0 (Nat.le_refl _)) ?_
    refine c_held [Sl eStr (.slice a0 xs.length c0) xs, Sl eStr u ps, Sl eStr t ws] rfl ?_
    refine a_take 0 rfl (by kernel_rfl) (by kernel_rfl) (by kernel_rfl) (v_move rfl) (Picks.ent (by repeat (first | exact Picks.nil | (apply Picks.cons; · repeat (first | exact Pick.keep (Sl.isDup _ _ _) | exact Pick.keep (BlkR.isDup _ _ _) | exact Pick.here | exact Pick.own_sl | exact Pick.apd_sl | exact Pick.r_blk | exact Pick.sl_nil | exact Pick.own_nil | apply Pick.there))))) (Nat.le_of_ble_eq_true rfl) ?_
    refine a_take 1 rfl (by kernel_rfl) (by kernel_rfl) (by kernel_rfl) (v_move rfl) (Picks.ent (by repeat (first | exact Picks.nil | (apply Picks.cons; · repeat (first | exact Pick.keep (Sl.isDup _ _ _) | exact Pick.keep (BlkR.isDup _ _ _) | exact Pick.here | exact Pick.own_sl | exact Pick.apd_sl | exact Pick.r_blk | exact Pick.sl_nil | exact Pick.own_nil | apply Pick.there))))) (Nat.le_of_ble_eq_true rfl) ?_
    refine a_take 2 rfl (by kernel_rfl) (by kernel_rfl) (by kernel_rfl) (v_move rfl) (Picks.ent (by repeat (first | exact Picks.nil | (apply Picks.cons; · repeat (first | exact Pick.keep (Sl.isDup _ _ _) | exact Pick.keep (BlkR.isDup _ _ _) | exact Pick.here | exact Pick.own_sl | exact Pick.apd_sl | exact Pick.r_blk | exact Pick.sl_nil | exact Pick.own_nil | apply Pick.there))))) (Nat.le_of_ble_eq_true rfl) ?_
    refine a_take 3 rfl (by kernel_rfl) (by kernel_rfl) (by kernel_rfl) (v_slice Tryd.underlying22 ti9 rfl (.inl ⟨rfl, rfl⟩) (.inr ⟨_, _, _, rfl, rfl, by omega, rfl⟩) (.inr ⟨_, _, _, rfl, rfl, by omega, rfl⟩) (by omega) (by omega) (by omega)) (Picks.ent (by repeat (first | exact Picks.nil | (apply Picks.cons; · repeat (first | exact Pick.keep (Sl.isDup _ _ _) | exact Pick.keep (BlkR.isDup _ _ _) | exact Pick.here | exact Pick.own_sl | exact Pick.apd_sl | exact Pick.r_blk | exact Pick.sl_nil | exact Pick.own_nil | apply Pick.there))))) (Nat.le_of_ble_eq_true rfl) ?_
    refine a_take 4 rfl (by kernel_rfl) (by kernel_rfl) (by kernel_rfl) (v_move rfl) (Picks.ent (by repeat (first | exact Picks.nil | (apply Picks.cons; · repeat (first | exact Pick.keep (Sl.isDup _ _ _) | exact Pick.keep (BlkR.isDup _ _ _) | exact Pick.here | exact Pick.own_sl | exact Pick.apd_sl | exact Pick.r_blk | exact Pick.sl_nil | exact Pick.own_nil | apply Pick.there))))) (Nat.le_of_ble_eq_true rfl) ?_
    refine a_take 6 rfl (by kernel_rfl) (by kernel_rfl) (by kernel_rfl) (v_move rfl) (Picks.ent (by repeat (first | exact Picks.nil | (apply Picks.cons; · repeat (first | exact Pick.keep (Sl.isDup _ _ _) | exact Pick.keep (BlkR.isDup _ _ _) | exact Pick.here | exact Pick.own_sl | exact Pick.apd_sl | exact Pick.r_blk | exact Pick.sl_nil | exact Pick.own_nil | apply Pick.there))))) (Nat.le_of_ble_eq_true rfl) ?_
    refine a_take 7 rfl (by kernel_rfl) (by kernel_rfl) (by kernel_rfl) (v_move rfl) (Picks.ent (by repeat (first | exact Picks.nil | (apply Picks.cons; · repeat (first | exact Pick.keep (Sl.isDup _ _ _) | exact Pick.keep (BlkR.isDup _ _ _) | exact Pick.here | exact Pick.own_sl | exact Pick.apd_sl | exact Pick.r_blk | exact Pick.sl_nil | exact Pick.own_nil | apply Pick.there))))) (Nat.le_of_ble_eq_true rfl) ?_
    refine a_take 8 rfl (by kernel_rfl) (by kernel_rfl) (by kernel_rfl) (v_move rfl) (Picks.ent (by repeat (first | exact Picks.nil | (apply Picks.cons; · repeat (first | exact Pick.keep (Sl.isDup _ _ _) | exact Pick.keep (BlkR.isDup _ _ _) | exact Pick.here | exact Pick.own_sl | exact Pick.apd_sl | exact Pick.r_blk | exact Pick.sl_nil | exact Pick.own_nil | apply Pick.there))))) (Nat.le_of_ble_eq_true rfl) ?_
    refine a_take 9 rfl (by kernel_rfl) (by kernel_rfl) (by kernel_rfl) ((by first | exact v_len_form Tryd.underlying22 rfl | exact v_len_sl Tryd.underlying22 rfl (by repeat (first | exact Has.here | exact Has.sl_apd | exact Has.sl_own | exact Has.r_blk | apply Has.there)))) (Picks.ent (by repeat (first | exact Picks.nil | (apply Picks.cons; · repeat (first | exact Pick.keep (Sl.isDup _ _ _) | exact Pick.keep (BlkR.isDup _ _ _) | exact Pick.here | exact Pick.own_sl | exact Pick.apd_sl | exact Pick.r_blk | exact Pick.sl_nil | exact Pick.own_nil | apply Pick.there))))) (Nat.le_of_ble_eq_true rfl) ?_
    refine a_take 10 rfl (by kernel_rfl) (by kernel_rfl) (by kernel_rfl) ((by first | exact v_add64 rfl rfl (by omega) | exact v_add rfl rfl)) (Picks.ent (by repeat (first | exact Picks.nil | (apply Picks.cons; · repeat (first | exact Pick.keep (Sl.isDup _ _ _) | exact Pick.keep (BlkR.isDup _ _ _) | exact Pick.here | exact Pick.own_sl | exact Pick.apd_sl | exact Pick.r_blk | exact Pick.sl_nil | exact Pick.own_nil | apply Pick.there))))) (Nat.le_of_ble_eq_true rfl) ?_
    refine a_take 11 rfl (by kernel_rfl) (by kernel_rfl) (by kernel_rfl) (v_slice Tryd.underlying22 ti9 rfl (.inr ⟨_, _, _, rfl, rfl, by omega, rfl⟩) (.inl ⟨rfl, rfl, rfl⟩) (.inl ⟨rfl, rfl⟩) (by omega) (by omega) (by omega)) (Picks.ent (by repeat (first | exact Picks.nil | (apply Picks.cons; · repeat (first | exact Pick.keep (Sl.isDup _ _ _) | exact Pick.keep (BlkR.isDup _ _ _) | exact Pick.here | exact Pick.own_sl | exact Pick.apd_sl | exact Pick.r_blk | exact Pick.sl_nil | exact Pick.own_nil | apply Pick.there))))) (Nat.le_of_ble_eq_true rfl) ?_
    refine a_one 5 rfl (by kernel_rfl) (s_append_apd Tryd.underlying22 ti9 rfl (by decide) rfl rfl (Nat.le_of_ble_eq_true rfl) (by repeat (first | exact Pick.here | exact Pick.own_nil | apply Pick.there)) (by repeat (first | exact Pick.keep (Sl.isDup _ _ _) | exact Pick.keep (BlkR.isDup _ _ _) | exact Pick.here | exact Pick.own_sl | exact Pick.apd_sl | exact Pick.r_blk | exact Pick.sl_nil | exact Pick.own_nil | apply Pick.there)) rfl (by (first | omega | (simp only [maxLen, List.length_append, List.length_drop, List.length_take, List.length_nil, List.length_cons]; omega))) (by (first | omega | (simp only [maxLen, List.length_append, List.length_drop, List.length_take, List.length_nil, List.length_cons]; omega))) fun v1 => a_on (Picks.ent (by repeat (first | exact Picks.nil | (apply Picks.cons; · repeat (first | exact Pick.keep (Sl.isDup _ _ _) | exact Pick.keep (BlkR.isDup _ _ _) | exact Pick.here | exact Pick.own_sl | exact Pick.apd_sl | exact Pick.r_blk | exact Pick.sl_nil | exact Pick.own_nil | apply Pick.there))))) ?_)
    refine a_one 12 rfl (by kernel_rfl) (s_append_apd Tryd.underlying22 ti9 rfl (by decide) rfl rfl (Nat.le_of_ble_eq_true rfl) (by repeat (first | exact Pick.here | exact Pick.own_nil | apply Pick.there)) (by repeat (first | exact Pick.keep (Sl.isDup _ _ _) | exact Pick.keep (BlkR.isDup _ _ _) | exact Pick.here | exact Pick.own_sl | exact Pick.apd_sl | exact Pick.r_blk | exact Pick.sl_nil | exact Pick.own_nil | apply Pick.there)) rfl (by (first | omega | (simp only [maxLen, List.length_append, List.length_drop, List.length_take, List.length_nil, List.length_cons]; omega))) (by (first | omega | (simp only [maxLen, List.length_append, List.length_drop, List.length_take, List.length_nil, List.length_cons]; omega))) fun v2 => a_on (Picks.ent (by repeat (first | exact Picks.nil | (apply Picks.cons; · repeat (first | exact Pick.keep (Sl.isDup _ _ _) | exact Pick.keep (BlkR.isDup _ _ _) | exact Pick.here | exact Pick.own_sl | exact Pick.apd_sl | exact Pick.r_blk | exact Pick.sl_nil | exact Pick.own_nil | apply Pick.there))))) ?_)
    refine a_one 13 rfl (by kernel_rfl) (s_callf cl42 (clone_con v2 ((xs.take n ++ ws) ++ (xs.take xs.length).drop (n + ps.length)) (by simp only [List.length_append, List.length_drop, List.length_take]; omega)) rfl (Nat.le_of_ble_eq_true rfl) (by repeat (first | exact Picks.nil | (apply Picks.cons; · repeat (first | exact Pick.keep (Sl.isDup _ _ _) | exact Pick.keep (BlkR.isDup _ _ _) | exact Pick.here | exact Pick.own_sl | exact Pick.apd_sl | exact Pick.r_blk | exact Pick.sl_nil | exact Pick.own_nil | apply Pick.there)))) fun v3 _ => a_on (Picks.ent (by repeat (first | exact Picks.nil | (apply Picks.cons; · repeat (first | exact Pick.keep (Sl.isDup _ _ _) | exact Pick.keep (BlkR.isDup _ _ _) | exact Pick.here | exact Pick.own_sl | exact Pick.apd_sl | exact Pick.r_blk | exact Pick.sl_nil | exact Pick.own_nil | apply Pick.there))))) ?_)
    refine a_take 14 rfl (by kernel_rfl) (by kernel_rfl) (by kernel_rfl) (v_assign rfl) (Picks.ent (by repeat (first | exact Picks.nil | (apply Picks.cons; · repeat (first | exact Pick.keep (Sl.isDup _ _ _) | exact Pick.keep (BlkR.isDup _ _ _) | exact Pick.here | exact Pick.own_sl | exact Pick.apd_sl | exact Pick.r_blk | exact Pick.sl_nil | exact Pick.own_nil | apply Pick.there))))) (Nat.le_of_ble_eq_true rfl) ?_
    refine a_take 15 rfl (by kernel_rfl) (by kernel_rfl) (by kernel_rfl) (v_assign rfl) (Picks.ent (by repeat (first | exact Picks.nil | (apply Picks.cons; · repeat (first | exact Pick.keep (Sl.isDup _ _ _) | exact Pick.keep (BlkR.isDup _ _ _) | exact Pick.here | exact Pick.own_sl | exact Pick.apd_sl | exact Pick.r_blk | exact Pick.sl_nil | exact Pick.own_nil | apply Pick.there))))) (Nat.le_of_ble_eq_true rfl) ?_
    refine a_done (by kernel_rfl) ?_ _
    refine c_ret2 Tryd.func22 rfl rfl rfl fun w O hS => ?_
    refine ⟨v3, by rw [decide_eq_true hs], trivial, ?_⟩
    rw [if_pos hs]
    have e2 : (xs.take n ++ ws) ++ (xs.take xs.length).drop (n + ps.length) = xs.take n ++ ws ++ xs.drop (n + ps.length) := by rw [List.take_length]
    rw [← e2]
    exact Ent.get hS (Picks.ent (by repeat (first | exact Picks.nil | (apply Picks.cons; · repeat (first | exact Pick.keep (Sl.isDup _ _ _) | exact Pick.keep (BlkR.isDup _ _ _) | exact Pick.here | exact Pick.own_sl | exact Pick.apd_sl | exact Pick.r_blk | exact Pick.sl_nil | exact Pick.own_nil | apply Pick.there)))))

/-! ### the document's Cut and Text -/
theorem ex_eq (s : ByteArray) (a b : Nat) : s.extract a b = ⟨((s.data.toList.take b).drop a).toArray⟩ := by
  apply ByteArray.ext
  apply Array.toList_inj.1
  simp [List.drop_take]
theorem sAt_byte {s : ByteArray} {i : Nat} {h : i < s.data.toList.length} (e : sAt s (i : Int) = 10) : s.data.toList[i] = 10 := by
  have h' : i < s.size := by rw [Lib.size_eq]; exact h
  rw [sAt_nat s i h'] at e
  apply UInt8.toNat_inj.1
  show _ = 10
  omega
theorem cutGo_stop {cur l : List UInt8} (h : 10 ∉ l) : cutGo cur l = if cur ++ l = [] then [] else [cur ++ l] := by
  induction l generalizing cur with
  | nil => simp [cutGo]
  | cons b l ih =>
    have h1 : b ≠ 10 := fun e => h (by simp [e])
    have h2 : 10 ∉ l := fun e => h (by simp [e])
    rw [cutGo, if_neg h1, ih h2]
    simp
set_option maxRecDepth 100000 in
theorem cut_ref_con (s : ByteArray) (hs : s.size ≤ 3000000) :
    Con Tryd.prog 15 [.string s] [] (γ := Value) (fun r => r) (fun _ => True) (fun r => [Own eStr 9 r (cutS s)]) := by
  have hsz : s.data.toList.length = s.size := (Lib.size_eq s).symm
  refine con_of Tryd.func15 rfl (Nat.le_of_ble_eq_true rfl) fun w0 O0 => ?_
  refine c_seq ?_
  refine c_region ?_
  refine o_val (v_assign rfl) (Nat.le_of_ble_eq_true rfl) ?_
  refine o_nil ?_
  refine c_seq ?_
  refine c_region ?_
  refine o_val (v_assign rfl) (Nat.le_of_ble_eq_true rfl) ?_
  refine o_nil ?_
  refine c_seq ?_
  refine c_region ?_
  refine o_val (v_assign rfl) (Nat.le_of_ble_eq_true rfl) ?_
  refine o_nil ?_
  refine c_seq ?_
  refine c_seq ?_
  refine c_region ?_
  refine o_val (v_assign rfl) (Nat.le_of_ble_eq_true rfl) ?_
  refine o_nil ?_
  refine c_block ?_
  refine c_ent (Ent.beside (b := Own eStr 9 (.slice none 0 0) ([] : Ls)) (fun w O _ => Own.nil eStr 9 w _)) ?_
  refine c_loop (γ := Value × Ls × Nat × Nat) (fun g => s.size - g.2.2.2) (fun g => g.2.2.1 ≤ g.2.2.2 ∧ g.2.2.2 ≤ s.size ∧ g.2.1.length ≤ g.2.2.2 ∧ cutS s = g.2.1 ++ (cutGo ((s.data.toList.take g.2.2.2).drop g.2.2.1) (s.data.toList.drop g.2.2.2)).map fun l => ⟨l.toArray⟩) (fun g => [(5, .int .i64 g.2.2.2), (4, .int .i64 g.2.2.1), (3, g.1), (0, .string s)]) (fun g => [Own eStr 9 g.1 g.2.1]) (.slice none 0 0, [], 0, 0) ⟨Nat.le_refl _, Nat.zero_le _, Nat.zero_le _, by simp [cutS]⟩ ⟨rfl, rfl, rfl, rfl, trivial⟩ (Ent.refl _) ?_
  rintro ⟨r, rs, a, i⟩ ⟨h1, h2, h3, h4⟩ IH
  dsimp only at *
  refine c_seq ?_
  refine c_seq ?_
  refine c_region ?_
  refine o_val (v_move rfl) (Nat.le_of_ble_eq_true rfl) ?_
  refine o_val (v_move rfl) (Nat.le_of_ble_eq_true rfl) ?_
  refine o_val (v_len_str Tryd.underlying9 rfl) (Nat.le_of_ble_eq_true rfl) ?_
  refine o_val (v_lt rfl rfl) (Nat.le_of_ble_eq_true rfl) ?_
  refine o_nil ?_
  refine c_cond_p rfl (fun hlt => ?_) (fun hlt => ?_)
  · refine c_skip ?_
    refine c_seq ?_
    refine c_block ?_
    refine c_seq ?_
    refine c_region ?_
    refine o_val (v_move rfl) (Nat.le_of_ble_eq_true rfl) ?_
    refine o_val (v_move rfl) (Nat.le_of_ble_eq_true rfl) ?_
    refine o_val (v_index_str Tryd.underlying9 rfl rfl (by omega)) (Nat.le_of_ble_eq_true rfl) ?_
    refine o_val (v_eq rfl rfl) (Nat.le_of_ble_eq_true rfl) ?_
    refine o_nil ?_
    have hget : s.data.toList.drop i = (s.data.toList[i]'(by omega)) :: s.data.toList.drop (i + 1) := List.drop_eq_getElem_cons (by omega)
    refine c_cond_p rfl (fun heq => ?_) (fun heq => ?_)
    · refine c_seq ?_
      refine c_region ?_
      refine o_val (v_move rfl) (Nat.le_of_ble_eq_true rfl) ?_
      refine o_val (v_move rfl) (Nat.le_of_ble_eq_true rfl) ?_
      refine o_val (v_move rfl) (Nat.le_of_ble_eq_true rfl) ?_
      refine o_val (v_move rfl) (Nat.le_of_ble_eq_true rfl) ?_
      refine o_val (v_cut Tryd.underlying9 rfl rfl rfl (by omega)) (Nat.le_of_ble_eq_true rfl) ?_
      refine o_step (s_buildSlice Tryd.underlying22 ti9 rfl rfl rfl (by decide) (by decide) (beside_str [s.extract a i]) rfl rfl (Nat.le_of_ble_eq_true rfl) fun v1 => ?_)
      refine o_step (s_append Tryd.underlying22 ti9 rfl (by decide) rfl rfl (Nat.le_of_ble_eq_true rfl) (by repeat (first | exact Pick.here | exact Pick.own_nil | apply Pick.there)) (by repeat (first | exact Pick.keep (Sl.isDup _ _ _) | exact Pick.keep (BlkR.isDup _ _ _) | exact Pick.here | exact Pick.own_sl | exact Pick.apd_sl | exact Pick.r_blk | exact Pick.sl_nil | exact Pick.own_nil | apply Pick.there)) rfl (by (first | omega | (simp only [maxLen, List.length_append, List.length_drop, List.length_take, List.length_nil, List.length_cons]; omega))) (by (first | omega | (simp only [maxLen, List.length_append, List.length_drop, List.length_take, List.length_nil, List.length_cons]; omega))) fun v2 => ?_)
      refine o_val (v_assign rfl) (Nat.le_of_ble_eq_true rfl) ?_
      refine o_nil ?_
      refine c_region ?_
      refine o_val (v_move rfl) (Nat.le_of_ble_eq_true rfl) ?_
      refine o_val ((by first | exact v_add64 rfl rfl (by omega) | exact v_add rfl rfl)) (Nat.le_of_ble_eq_true rfl) ?_
      refine o_val (v_assign rfl) (Nat.le_of_ble_eq_true rfl) ?_
      refine o_nil ?_
      refine c_inBlock ?_
      refine c_region ?_
      refine o_val (v_move rfl) (Nat.le_of_ble_eq_true rfl) ?_
      refine o_val ((by first | exact v_add64 rfl rfl (by omega) | exact v_add rfl rfl)) (Nat.le_of_ble_eq_true rfl) ?_
      refine o_val (v_assign rfl) (Nat.le_of_ble_eq_true rfl) ?_
      refine o_nil ?_
      refine c_use (IH (v2, rs ++ [s.extract a i], i + 1, i + 1) (by dsimp only; omega) ⟨by dsimp only; omega, by dsimp only; omega, by simp; omega, ?_⟩) ⟨rfl, rfl, rfl, rfl, trivial⟩ (Picks.ent (by repeat (first | exact Picks.nil | (apply Picks.cons; · repeat (first | exact Pick.keep (Sl.isDup _ _ _) | exact Pick.keep (BlkR.isDup _ _ _) | exact Pick.here | exact Pick.own_sl | exact Pick.apd_sl | exact Pick.r_blk | exact Pick.sl_nil | exact Pick.own_nil | apply Pick.there)))))
      have h10 : s.data.toList[i]'(by omega) = 10 := sAt_byte heq
      rw [h4, hget, cutGo, if_pos h10, List.drop_eq_nil_of_le (show (s.data.toList.take (i + 1)).length ≤ i + 1 by simp; omega)]
      simp [ex_eq]
    · refine c_skip ?_
      refine c_inBlock ?_
      refine c_region ?_
      refine o_val (v_move rfl) (Nat.le_of_ble_eq_true rfl) ?_
      refine o_val ((by first | exact v_add64 rfl rfl (by omega) | exact v_add rfl rfl)) (Nat.le_of_ble_eq_true rfl) ?_
      refine o_val (v_assign rfl) (Nat.le_of_ble_eq_true rfl) ?_
      refine o_nil ?_
      refine c_use (IH (r, rs, a, i + 1) (by dsimp only; omega) ⟨by dsimp only; omega, by dsimp only; omega, by dsimp only; omega, ?_⟩) ⟨rfl, rfl, rfl, rfl, trivial⟩ (Picks.ent (by repeat (first | exact Picks.nil | (apply Picks.cons; · repeat (first | exact Pick.keep (Sl.isDup _ _ _) | exact Pick.keep (BlkR.isDup _ _ _) | exact Pick.here | exact Pick.own_sl | exact Pick.apd_sl | exact Pick.r_blk | exact Pick.sl_nil | exact Pick.own_nil | apply Pick.there)))))
      have h10 : ¬ s.data.toList[i]'(by omega) = 10 := fun e => heq (by rw [sAt_nat s i (by omega), e]; rfl)
      rw [h4, hget, cutGo, if_neg h10, List.take_succ_eq_append_getElem (by omega), List.drop_append_of_le_length (by simp; omega)]
  · refine c_exit rfl ?_
    refine c_seq ?_
    refine c_seq ?_
    refine c_region ?_
    refine o_val (v_move rfl) (Nat.le_of_ble_eq_true rfl) ?_
    refine o_val (v_move rfl) (Nat.le_of_ble_eq_true rfl) ?_
    refine o_val (v_len_str Tryd.underlying9 rfl) (Nat.le_of_ble_eq_true rfl) ?_
    refine o_val (v_lt rfl rfl) (Nat.le_of_ble_eq_true rfl) ?_
    refine o_nil ?_
    have hnil : s.data.toList.drop i = [] := List.drop_eq_nil_of_le (by omega)
    have htk : s.data.toList.take i = s.data.toList := List.take_of_length_le (by omega)
    rw [hnil, htk, cutGo] at h4
    refine c_cond_p rfl (fun hlt2 => ?_) (fun hlt2 => ?_)
    · refine c_region ?_
      refine o_val (v_move rfl) (Nat.le_of_ble_eq_true rfl) ?_
      refine o_val (v_move rfl) (Nat.le_of_ble_eq_true rfl) ?_
      refine o_val (v_move rfl) (Nat.le_of_ble_eq_true rfl) ?_
      refine o_val (v_cut_from Tryd.underlying9 rfl rfl (by omega)) (Nat.le_of_ble_eq_true rfl) ?_
      refine o_step (s_buildSlice Tryd.underlying22 ti9 rfl rfl rfl (by decide) (by decide) (beside_str [s.extract a s.size]) rfl rfl (Nat.le_of_ble_eq_true rfl) fun v1 => ?_)
      refine o_step (s_append Tryd.underlying22 ti9 rfl (by decide) rfl rfl (Nat.le_of_ble_eq_true rfl) (by repeat (first | exact Pick.here | exact Pick.own_nil | apply Pick.there)) (by repeat (first | exact Pick.keep (Sl.isDup _ _ _) | exact Pick.keep (BlkR.isDup _ _ _) | exact Pick.here | exact Pick.own_sl | exact Pick.apd_sl | exact Pick.r_blk | exact Pick.sl_nil | exact Pick.own_nil | apply Pick.there)) rfl (by (first | omega | (simp only [maxLen, List.length_append, List.length_drop, List.length_take, List.length_nil, List.length_cons]; omega))) (by (first | omega | (simp only [maxLen, List.length_append, List.length_drop, List.length_take, List.length_nil, List.length_cons]; omega))) fun v2 => ?_)
      refine o_val (v_assign rfl) (Nat.le_of_ble_eq_true rfl) ?_
      refine o_nil ?_
      refine c_seq ?_
      refine c_region ?_
      refine o_val (v_move rfl) (Nat.le_of_ble_eq_true rfl) ?_
      refine o_val (v_assign rfl) (Nat.le_of_ble_eq_true rfl) ?_
      refine o_nil ?_
      refine c_ret1 Tryd.func15 rfl rfl fun w O hS => ?_
      have hne : ¬ s.data.toList.drop a = [] := fun e => by have := congrArg List.length e; simp at this; omega
      rw [if_neg hne] at h4
      have e2 : cutS s = rs ++ [s.extract a s.size] := by rw [h4, ex_eq, List.take_of_length_le (by omega)]; rfl
      refine ⟨v2, rfl, trivial, ?_⟩
      rw [e2]
      exact Ent.get hS (Picks.ent (by repeat (first | exact Picks.nil | (apply Picks.cons; · repeat (first | exact Pick.keep (Sl.isDup _ _ _) | exact Pick.keep (BlkR.isDup _ _ _) | exact Pick.here | exact Pick.own_sl | exact Pick.apd_sl | exact Pick.r_blk | exact Pick.sl_nil | exact Pick.own_nil | apply Pick.there)))))
    · refine c_skip ?_
      refine c_seq ?_
      refine c_region ?_
      refine o_val (v_move rfl) (Nat.le_of_ble_eq_true rfl) ?_
      refine o_val (v_assign rfl) (Nat.le_of_ble_eq_true rfl) ?_
      refine o_nil ?_
      refine c_ret1 Tryd.func15 rfl rfl fun w O hS => ?_
      have hne : s.data.toList.drop a = [] := List.drop_eq_nil_of_le (by omega)
      rw [if_pos hne] at h4
      refine ⟨r, rfl, trivial, ?_⟩
      rw [h4, List.map_nil, List.append_nil]
      exact Ent.get hS (Picks.ent (by repeat (first | exact Picks.nil | (apply Picks.cons; · repeat (first | exact Pick.keep (Sl.isDup _ _ _) | exact Pick.keep (BlkR.isDup _ _ _) | exact Pick.here | exact Pick.own_sl | exact Pick.apd_sl | exact Pick.r_blk | exact Pick.sl_nil | exact Pick.own_nil | apply Pick.there)))))

theorem textS_take {xs : Ls} {i : Nat} (h : i < xs.length) : textS (xs.take (i + 1)) = textS (xs.take i) ++ xs[i] ++ nl := by
  rw [List.take_succ_eq_append_getElem h]
  generalize xs.take i = ys
  induction ys with
  | nil => apply ByteArray.ext; simp [textS]
  | cons y ys ih => rw [List.cons_append, textS, ih, textS]; apply ByteArray.ext; simp
theorem textS_size : ∀ xs : Ls, (textS xs).size = (xs.map (·.size)).sum + xs.length
  | [] => rfl
  | x :: xs => by
    rw [textS, ByteArray.size_append, ByteArray.size_append, textS_size xs, List.map_cons, List.sum_cons, List.length_cons]
    have : nl.size = 1 := rfl
    omega
theorem sum_take_le (l : List Nat) (k : Nat) : (l.take k).sum ≤ l.sum := by
  have := congrArg List.sum (List.take_append_drop k l)
  rw [List.sum_append] at this
  omega
theorem size_le_sum {xs : Ls} {x : ByteArray} (h : x ∈ xs) : x.size ≤ (xs.map (·.size)).sum := by
  induction xs with
  | nil => cases h
  | cons y ys ih =>
    rw [List.map_cons, List.sum_cons]
    rcases List.mem_cons.1 h with rfl | h
    · omega
    · have := ih h; omega

set_option maxRecDepth 100000 in
theorem text_ref_con (v : Value) (xs : Ls) (hx : xs.length ≤ 1000000) (hs : (xs.map (·.size)).sum ≤ 1000000) :
    Con Tryd.prog 17 [v] [Sl eStr v xs] (γ := Unit) (fun _ => .string (textS xs)) (fun _ => True) (fun _ => []) := by
  refine con_of Tryd.func17 rfl (Nat.le_of_ble_eq_true rfl) fun w0 O0 => ?_
  refine c_seq ?_
  refine c_region ?_
  refine o_val (v_assign rfl) (Nat.le_of_ble_eq_true rfl) ?_
  refine o_nil ?_
  refine c_seq ?_
  refine c_region ?_
  refine o_val (v_assign rfl) (Nat.le_of_ble_eq_true rfl) ?_
  refine o_nil ?_
  refine c_seq ?_
  refine c_seq ?_
  refine c_region ?_
  refine o_val (v_assign rfl) (Nat.le_of_ble_eq_true rfl) ?_
  refine o_nil ?_
  refine c_block ?_
  refine c_loop (γ := Nat) (fun i => xs.length - i) (fun i => i ≤ xs.length) (fun i => [(4, .int .i64 i), (3, .string (textS (xs.take i))), (0, v)]) (fun _ => [Sl eStr v xs]) 0 (Nat.zero_le _) ⟨rfl, rfl, rfl, trivial⟩ (Ent.refl _) ?_
  intro i hi IH
  refine c_seq ?_
  refine c_seq ?_
  refine c_region ?_
  refine o_val (v_move rfl) (Nat.le_of_ble_eq_true rfl) ?_
  refine o_val (v_move rfl) (Nat.le_of_ble_eq_true rfl) ?_
  refine o_val ((by first | exact v_len_form Tryd.underlying22 rfl | exact v_len_sl Tryd.underlying22 rfl (by repeat (first | exact Has.here | exact Has.sl_apd | exact Has.sl_own | exact Has.r_blk | apply Has.there)))) (Nat.le_of_ble_eq_true rfl) ?_
  refine o_val (v_lt rfl rfl) (Nat.le_of_ble_eq_true rfl) ?_
  refine o_nil ?_
  refine c_cond_p rfl (fun hlt => ?_) (fun hlt => ?_)
  · refine c_skip ?_
    refine c_seq ?_
    refine c_block ?_
    have g1 : (textS (xs.take i)).size ≤ 2000000 := by
      rw [textS_size]
      have := sum_take_le (xs.map (·.size)) i
      rw [List.map_take, List.length_take]
      omega
    have g2 : (xs[i]'(by omega)).size ≤ 1000000 := by
      have := size_le_sum (List.getElem_mem (show i < xs.length by omega))
      omega
    have g3 : (⟨[10].toArray⟩ : ByteArray).size = 1 := rfl
    refine c_held [Sl eStr v xs] rfl ?_
    refine a_take 0 rfl (by kernel_rfl) (by kernel_rfl) (by kernel_rfl) (v_move rfl) (Picks.ent (by repeat (first | exact Picks.nil | (apply Picks.cons; · repeat (first | exact Pick.keep (Sl.isDup _ _ _) | exact Pick.keep (BlkR.isDup _ _ _) | exact Pick.here | exact Pick.own_sl | exact Pick.apd_sl | exact Pick.r_blk | exact Pick.sl_nil | exact Pick.own_nil | apply Pick.there))))) (Nat.le_of_ble_eq_true rfl) ?_
    refine a_take 1 rfl (by kernel_rfl) (by kernel_rfl) (by kernel_rfl) (v_move rfl) (Picks.ent (by repeat (first | exact Picks.nil | (apply Picks.cons; · repeat (first | exact Pick.keep (Sl.isDup _ _ _) | exact Pick.keep (BlkR.isDup _ _ _) | exact Pick.here | exact Pick.own_sl | exact Pick.apd_sl | exact Pick.r_blk | exact Pick.sl_nil | exact Pick.own_nil | apply Pick.there))))) (Nat.le_of_ble_eq_true rfl) ?_
    refine a_take 2 rfl (by kernel_rfl) (by kernel_rfl) (by kernel_rfl) (v_move rfl) (Picks.ent (by repeat (first | exact Picks.nil | (apply Picks.cons; · repeat (first | exact Pick.keep (Sl.isDup _ _ _) | exact Pick.keep (BlkR.isDup _ _ _) | exact Pick.here | exact Pick.own_sl | exact Pick.apd_sl | exact Pick.r_blk | exact Pick.sl_nil | exact Pick.own_nil | apply Pick.there))))) (Nat.le_of_ble_eq_true rfl) ?_
    refine a_take 3 rfl (by kernel_rfl) (by kernel_rfl) (by kernel_rfl) ((by first | exact v_indexAddrN Tryd.underlying22 ti9 rfl rfl (by repeat (first | exact Has.here | exact Has.sl_apd | exact Has.sl_own | exact Has.r_blk | apply Has.there)) (by omega) | exact v_indexAddr Tryd.underlying22 ti9 rfl rfl (by repeat (first | exact Has.here | exact Has.sl_apd | exact Has.sl_own | exact Has.r_blk | apply Has.there)) (by omega))) (Picks.ent (by repeat (first | exact Picks.nil | (apply Picks.cons; · repeat (first | exact Pick.keep (Sl.isDup _ _ _) | exact Pick.keep (BlkR.isDup _ _ _) | exact Pick.here | exact Pick.own_sl | exact Pick.apd_sl | exact Pick.r_blk | exact Pick.sl_nil | exact Pick.own_nil | apply Pick.there))))) (Nat.le_of_ble_eq_true rfl) ?_
    refine a_take 4 rfl (by kernel_rfl) (by kernel_rfl) (by kernel_rfl) (v_load_str lone9 rfl (by repeat (first | exact Elem.sl (List.getElem?_eq_getElem (by omega)) | exact Elem.own (List.getElem?_eq_getElem (by omega)) | apply Elem.there))) (Picks.ent (by repeat (first | exact Picks.nil | (apply Picks.cons; · repeat (first | exact Pick.keep (Sl.isDup _ _ _) | exact Pick.keep (BlkR.isDup _ _ _) | exact Pick.here | exact Pick.own_sl | exact Pick.apd_sl | exact Pick.r_blk | exact Pick.sl_nil | exact Pick.own_nil | apply Pick.there))))) (Nat.le_of_ble_eq_true rfl) ?_
    refine a_take 5 rfl (by kernel_rfl) (by kernel_rfl) (by kernel_rfl) (v_cat rfl rfl (by first | omega | (simp only [ByteArray.size_append]; omega))) (Picks.ent (by repeat (first | exact Picks.nil | (apply Picks.cons; · repeat (first | exact Pick.keep (Sl.isDup _ _ _) | exact Pick.keep (BlkR.isDup _ _ _) | exact Pick.here | exact Pick.own_sl | exact Pick.apd_sl | exact Pick.r_blk | exact Pick.sl_nil | exact Pick.own_nil | apply Pick.there))))) (Nat.le_of_ble_eq_true rfl) ?_
    refine a_one 6 rfl (by kernel_rfl) (s_buildSlice Tryd.underlying47 ti5 rfl rfl rfl (by decide) (by decide) (beside_byte [10]) rfl rfl (Nat.le_of_ble_eq_true rfl) fun v1 => a_on (Picks.ent (by repeat (first | exact Picks.nil | (apply Picks.cons; · repeat (first | exact Pick.keep (Sl.isDup _ _ _) | exact Pick.keep (BlkR.isDup _ _ _) | exact Pick.here | exact Pick.own_sl | exact Pick.apd_sl | exact Pick.r_blk | exact Pick.sl_nil | exact Pick.own_nil | apply Pick.there))))) ?_)
    refine a_one 7 rfl (by kernel_rfl) (s_val (v_conv_bytes Tryd.underlying47 Tryd.underlying5 Tryd.underlying9 rfl (by repeat (first | exact Has.here | exact Has.sl_apd | exact Has.sl_own | exact Has.r_blk | apply Has.there))) (Nat.le_of_ble_eq_true rfl) (a_on (Picks.ent (by repeat (first | exact Picks.nil | (apply Picks.cons; · repeat (first | exact Pick.keep (Sl.isDup _ _ _) | exact Pick.keep (BlkR.isDup _ _ _) | exact Pick.here | exact Pick.own_sl | exact Pick.apd_sl | exact Pick.r_blk | exact Pick.sl_nil | exact Pick.own_nil | apply Pick.there))))) ?_))
    refine a_take 8 rfl (by kernel_rfl) (by kernel_rfl) (by kernel_rfl) (v_cat rfl rfl (by first | omega | (simp only [ByteArray.size_append]; omega))) (Picks.ent (by repeat (first | exact Picks.nil | (apply Picks.cons; · repeat (first | exact Pick.keep (Sl.isDup _ _ _) | exact Pick.keep (BlkR.isDup _ _ _) | exact Pick.here | exact Pick.own_sl | exact Pick.apd_sl | exact Pick.r_blk | exact Pick.sl_nil | exact Pick.own_nil | apply Pick.there))))) (Nat.le_of_ble_eq_true rfl) ?_
    refine a_take 9 rfl (by kernel_rfl) (by kernel_rfl) (by kernel_rfl) (v_assign rfl) (Picks.ent (by repeat (first | exact Picks.nil | (apply Picks.cons; · repeat (first | exact Pick.keep (Sl.isDup _ _ _) | exact Pick.keep (BlkR.isDup _ _ _) | exact Pick.here | exact Pick.own_sl | exact Pick.apd_sl | exact Pick.r_blk | exact Pick.sl_nil | exact Pick.own_nil | apply Pick.there))))) (Nat.le_of_ble_eq_true rfl) ?_
    refine a_done (by kernel_rfl) ?_ _
    refine c_inBlock ?_
    refine c_region ?_
    refine o_val (v_move rfl) (Nat.le_of_ble_eq_true rfl) ?_
    refine o_val ((by first | exact v_add64 rfl rfl (by omega) | exact v_add rfl rfl)) (Nat.le_of_ble_eq_true rfl) ?_
    refine o_val (v_assign rfl) (Nat.le_of_ble_eq_true rfl) ?_
    refine o_nil ?_
    refine c_use (IH (i + 1) (by omega) (by omega)) ⟨rfl, ?_, rfl, trivial⟩ (Picks.ent (by repeat (first | exact Picks.nil | (apply Picks.cons; · repeat (first | exact Pick.keep (Sl.isDup _ _ _) | exact Pick.keep (BlkR.isDup _ _ _) | exact Pick.here | exact Pick.own_sl | exact Pick.apd_sl | exact Pick.r_blk | exact Pick.sl_nil | exact Pick.own_nil | apply Pick.there)))))
    rw [textS_take (show i < xs.length by omega)]
    rfl
  · refine c_exit rfl ?_
    refine c_seq ?_
    refine c_region ?_
    refine o_val (v_move rfl) (Nat.le_of_ble_eq_true rfl) ?_
    refine o_val (v_assign rfl) (Nat.le_of_ble_eq_true rfl) ?_
    refine o_nil ?_
    refine c_ret1 Tryd.func17 rfl rfl fun w O hS => ?_
    refine ⟨(), ?_, trivial, trivial⟩
    rw [List.take_of_length_le (by omega)]

/-! ### line.Right, line.All -/
theorem indexByte_mem (l : List UInt8) (c : UInt8) : 0 ≤ Lib.indexByte l c ↔ c ∈ l := by
  have := Lib.contains_iff_indexByte l c
  rw [← List.contains_iff_mem, this, decide_eq_true_iff]
theorem contains_con (s : ByteArray) : Con Tryd.prog 31 [.string s, .string nl] [] (γ := Unit) (fun _ => .bool (decide (10 ∈ s.data.toList))) (fun _ => True) (fun _ => []) :=
  con_pure fun w _ _ => (Tryd.strings_Contains_one s 10 w).mono fun e w' ⟨he, hw⟩ => ⟨by rw [he]; congr 2; exact decide_eq_decide.2 (indexByte_mem _ _), hw⟩
set_option maxRecDepth 100000 in
theorem right_con (s : ByteArray) :
    Con Tryd.prog 18 [.string s] [] (γ := Unit) (fun _ => .bool (decide (RightS s))) (fun _ => True) (fun _ => []) := by
  refine con_of Tryd.func18 rfl (Nat.le_of_ble_eq_true rfl) fun w0 O0 => ?_
  refine c_seq ?_
  refine c_region ?_
  refine o_val (v_assign rfl) (Nat.le_of_ble_eq_true rfl) ?_
  refine o_nil ?_
  refine c_seq ?_
  refine c_region ?_
  refine o_val (v_move rfl) (Nat.le_of_ble_eq_true rfl) ?_
  refine o_val (v_len_str Tryd.underlying9 rfl) (Nat.le_of_ble_eq_true rfl) ?_
  refine o_val (v_le rfl rfl) (Nat.le_of_ble_eq_true rfl) ?_
  refine o_val (v_move rfl) (Nat.le_of_ble_eq_true rfl) ?_
  refine o_guard_t rfl rfl (fun h => ?_) (fun h => ?_)
  · refine o_val (v_move rfl) (Nat.le_of_ble_eq_true rfl) ?_
    refine o_on rfl rfl ?_
    refine o_step (s_callf cl31 (contains_con s) rfl (Nat.le_of_ble_eq_true rfl) (by repeat (first | exact Picks.nil | (apply Picks.cons; · repeat (first | exact Pick.keep (Sl.isDup _ _ _) | exact Pick.keep (BlkR.isDup _ _ _) | exact Pick.here | exact Pick.own_sl | exact Pick.apd_sl | exact Pick.r_blk | exact Pick.sl_nil | exact Pick.own_nil | apply Pick.there)))) fun _ _ => ?_)
    refine o_on rfl rfl ?_
    refine o_val (v_not rfl) (Nat.le_of_ble_eq_true rfl) ?_
    refine o_val (v_pick_t rfl rfl) (Nat.le_of_ble_eq_true rfl) ?_
    refine o_val (v_assign rfl) (Nat.le_of_ble_eq_true rfl) ?_
    refine o_nil ?_
    refine c_ret1 Tryd.func18 rfl rfl fun w O hS => ?_
    refine ⟨(), ?_, trivial, trivial⟩
    have : decide (RightS s) = !decide (10 ∈ s.data.toList) := by
      rw [← decide_not]
      exact decide_eq_decide.2 ⟨fun h => h.1, fun g => ⟨g, by omega⟩⟩
    rw [this]
  · refine o_off rfl rfl rfl (Nat.le_of_ble_eq_true rfl) ?_
    refine o_off rfl rfl rfl (Nat.le_of_ble_eq_true rfl) ?_
    refine o_off rfl rfl rfl (Nat.le_of_ble_eq_true rfl) ?_
    refine o_val (v_pick_f rfl rfl) (Nat.le_of_ble_eq_true rfl) ?_
    refine o_val (v_assign rfl) (Nat.le_of_ble_eq_true rfl) ?_
    refine o_nil ?_
    refine c_ret1 Tryd.func18 rfl rfl fun w O hS => ?_
    refine ⟨(), ?_, trivial, trivial⟩
    rw [decide_eq_false (fun g : RightS s => h (by have := g.2; omega))]
set_option maxRecDepth 100000 in
theorem notright_con (s : ByteArray) :
    Con Tryd.prog 40 [.string s] [] (γ := Unit) (fun _ => .bool (!decide (RightS s))) (fun _ => True) (fun _ => []) := by
  refine con_of Tryd.func40 rfl (Nat.le_of_ble_eq_true rfl) fun w0 O0 => ?_
  refine c_seq ?_
  refine c_region ?_
  refine o_val (v_assign rfl) (Nat.le_of_ble_eq_true rfl) ?_
  refine o_nil ?_
  refine c_seq ?_
  refine c_region ?_
  refine o_val (v_move rfl) (Nat.le_of_ble_eq_true rfl) ?_
  refine o_step (s_callf cl18 (right_con s) rfl (Nat.le_of_ble_eq_true rfl) (by repeat (first | exact Picks.nil | (apply Picks.cons; · repeat (first | exact Pick.keep (Sl.isDup _ _ _) | exact Pick.keep (BlkR.isDup _ _ _) | exact Pick.here | exact Pick.own_sl | exact Pick.apd_sl | exact Pick.r_blk | exact Pick.sl_nil | exact Pick.own_nil | apply Pick.there)))) fun _ _ => ?_)
  refine o_val (v_not rfl) (Nat.le_of_ble_eq_true rfl) ?_
  refine o_val (v_assign rfl) (Nat.le_of_ble_eq_true rfl) ?_
  refine o_nil ?_
  refine c_ret1 Tryd.func40 rfl rfl fun w O hS => ?_
  exact ⟨(), rfl, trivial, trivial⟩
set_option maxRecDepth 100000 in
theorem indexf_con (v : Value) (xs : Ls) (hx : xs.length ≤ 1000000) :
    Con Tryd.prog 50 [v, .func (.func 40) #[] #[]] [Sl eStr v xs] (γ := Int) (fun r => .int .i64 r) (fun r => 0 ≤ r ↔ ∃ x ∈ xs, ¬ RightS x) (fun _ => []) := by
  refine con_of Tryd.func50 rfl (Nat.le_of_ble_eq_true rfl) fun w0 O0 => ?_
  refine c_seq ?_
  refine c_region ?_
  refine o_val (v_assign rfl) (Nat.le_of_ble_eq_true rfl) ?_
  refine o_nil ?_
  refine c_seq ?_
  refine c_seq ?_
  refine c_region ?_
  refine o_val (v_move rfl) (Nat.le_of_ble_eq_true rfl) ?_
  refine o_val ((by first | exact v_len_form Tryd.underlying22 rfl | exact v_len_sl Tryd.underlying22 rfl (by repeat (first | exact Has.here | exact Has.sl_apd | exact Has.sl_own | exact Has.r_blk | apply Has.there)))) (Nat.le_of_ble_eq_true rfl) ?_
  refine o_val (v_move rfl) (Nat.le_of_ble_eq_true rfl) ?_
  refine o_nil ?_
  refine c_block ?_
  refine c_loop (γ := Nat) (fun i => xs.length - i) (fun i => i ≤ xs.length ∧ ∀ x ∈ xs.take i, RightS x) (fun i => [(8, .int .i64 i), (7, .int .i64 xs.length), (0, v), (1, .func (.func 40) #[] #[])]) (fun _ => [Sl eStr v xs]) 0 ⟨Nat.zero_le _, by simp⟩ ⟨rfl, rfl, rfl, rfl, trivial⟩ (Ent.refl _) ?_
  intro i ⟨hi, hr⟩ IH
  refine c_seq ?_
  refine c_region ?_
  refine o_val (v_lt rfl rfl) (Nat.le_of_ble_eq_true rfl) ?_
  refine o_nil ?_
  refine c_seq ?_
  refine c_cond_p rfl (fun hlt => ?_) (fun hlt => ?_)
  · refine c_skip ?_
    refine c_seq ?_
    refine c_block ?_
    refine c_seq ?_
    refine c_region ?_
    refine o_val (v_move rfl) (Nat.le_of_ble_eq_true rfl) ?_
    refine o_val (v_assign rfl) (Nat.le_of_ble_eq_true rfl) ?_
    refine o_nil ?_
    refine c_seq ?_
    refine c_region ?_
    refine o_val (v_move rfl) (Nat.le_of_ble_eq_true rfl) ?_
    refine o_val (v_move rfl) (Nat.le_of_ble_eq_true rfl) ?_
    refine o_val (v_move rfl) (Nat.le_of_ble_eq_true rfl) ?_
    refine o_val ((by first | exact v_indexAddrN Tryd.underlying22 ti9 rfl rfl (by repeat (first | exact Has.here | exact Has.sl_apd | exact Has.sl_own | exact Has.r_blk | apply Has.there)) (by omega) | exact v_indexAddr Tryd.underlying22 ti9 rfl rfl (by repeat (first | exact Has.here | exact Has.sl_apd | exact Has.sl_own | exact Has.r_blk | apply Has.there)) (by omega))) (Nat.le_of_ble_eq_true rfl) ?_
    refine o_val (v_load_str lone9 rfl (by repeat (first | exact Elem.sl (List.getElem?_eq_getElem (by omega)) | exact Elem.own (List.getElem?_eq_getElem (by omega)) | apply Elem.there))) (Nat.le_of_ble_eq_true rfl) ?_
    refine o_step (s_call cl40 (notright_con (xs[i]'(by omega))) (first := []) (cap := []) rfl rfl (by rfl) (Nat.le_of_ble_eq_true rfl) (by repeat (first | exact Picks.nil | (apply Picks.cons; · repeat (first | exact Pick.keep (Sl.isDup _ _ _) | exact Pick.keep (BlkR.isDup _ _ _) | exact Pick.here | exact Pick.own_sl | exact Pick.apd_sl | exact Pick.r_blk | exact Pick.sl_nil | exact Pick.own_nil | apply Pick.there)))) fun _ _ => ?_)
    refine o_nil ?_
    refine c_cond rfl (fun hb => ?_) (fun hb => ?_)
    · refine c_seq ?_
      refine c_region ?_
      refine o_val (v_move rfl) (Nat.le_of_ble_eq_true rfl) ?_
      refine o_val (v_assign rfl) (Nat.le_of_ble_eq_true rfl) ?_
      refine o_nil ?_
      refine c_ret1 Tryd.func50 rfl rfl fun w O hS => ?_
      have hn : ¬ RightS (xs[i]'(by omega)) := by simpa using hb
      exact ⟨i, rfl, ⟨fun _ => ⟨_, List.getElem_mem (by omega), hn⟩, fun _ => by omega⟩, trivial⟩
    · refine c_skip ?_
      refine c_inBlock ?_
      refine c_region ?_
      refine o_val ((by first | exact v_add64 rfl rfl (by omega) | exact v_add rfl rfl)) (Nat.le_of_ble_eq_true rfl) ?_
      refine o_val (v_move rfl) (Nat.le_of_ble_eq_true rfl) ?_
      refine o_nil ?_
      have hn : RightS (xs[i]'(by omega)) := by simpa using hb
      refine c_use (IH (i + 1) (by omega) ⟨by omega, fun x hx => ?_⟩) ⟨rfl, rfl, rfl, rfl, trivial⟩ (Picks.ent (by repeat (first | exact Picks.nil | (apply Picks.cons; · repeat (first | exact Pick.keep (Sl.isDup _ _ _) | exact Pick.keep (BlkR.isDup _ _ _) | exact Pick.here | exact Pick.own_sl | exact Pick.apd_sl | exact Pick.r_blk | exact Pick.sl_nil | exact Pick.own_nil | apply Pick.there)))))
      rw [List.take_succ_eq_append_getElem (by omega)] at hx
      rcases List.mem_append.1 hx with hx | hx
      · exact hr x hx
      · rw [List.mem_singleton.1 hx]; exact hn
  · refine c_exit rfl ?_
    refine c_seq ?_
    refine c_region ?_
    refine o_val (v_assign rfl) (Nat.le_of_ble_eq_true rfl) ?_
    refine o_nil ?_
    refine c_ret1 Tryd.func50 rfl rfl fun w O hS => ?_
    rw [List.take_of_length_le (by omega)] at hr
    exact ⟨-1, rfl, ⟨fun h => by omega, fun ⟨x, hx, hn⟩ => absurd (hr x hx) hn⟩, trivial⟩
set_option maxRecDepth 100000 in
theorem containsf_con (v : Value) (xs : Ls) (hx : xs.length ≤ 1000000) :
    Con Tryd.prog 39 [v, .func (.func 40) #[] #[]] [Sl eStr v xs] (γ := Unit) (fun _ => .bool (!decide (∀ x ∈ xs, RightS x))) (fun _ => True) (fun _ => []) := by
  refine con_of Tryd.func39 rfl (Nat.le_of_ble_eq_true rfl) fun w0 O0 => ?_
  refine c_seq ?_
  refine c_region ?_
  refine o_val (v_assign rfl) (Nat.le_of_ble_eq_true rfl) ?_
  refine o_nil ?_
  refine c_seq ?_
  refine c_region ?_
  refine o_val (v_move rfl) (Nat.le_of_ble_eq_true rfl) ?_
  refine o_val (v_move rfl) (Nat.le_of_ble_eq_true rfl) ?_
  refine o_step (s_callf cl50 (indexf_con v xs hx) rfl (Nat.le_of_ble_eq_true rfl) (by repeat (first | exact Picks.nil | (apply Picks.cons; · repeat (first | exact Pick.keep (Sl.isDup _ _ _) | exact Pick.keep (BlkR.isDup _ _ _) | exact Pick.here | exact Pick.own_sl | exact Pick.apd_sl | exact Pick.r_blk | exact Pick.sl_nil | exact Pick.own_nil | apply Pick.there)))) fun r hr => ?_)
  refine o_val (v_ge rfl rfl) (Nat.le_of_ble_eq_true rfl) ?_
  refine o_val (v_assign rfl) (Nat.le_of_ble_eq_true rfl) ?_
  refine o_nil ?_
  refine c_ret1 Tryd.func39 rfl rfl fun w O hS => ?_
  refine ⟨(), ?_, trivial, trivial⟩
  congr 1
  rw [← decide_not]
  refine decide_eq_decide.2 (Iff.trans ?_ (hr.trans ?_))
  · exact Iff.rfl
  · exact ⟨fun ⟨x, h1, h2⟩ h => h2 (h x h1), fun h => Classical.byContradiction fun g => h fun x hx => Classical.byContradiction fun k => g ⟨x, hx, k⟩⟩
set_option maxRecDepth 100000 in
theorem all_con (v : Value) (xs : Ls) (hx : xs.length ≤ 1000000) :
    Con Tryd.prog 20 [v] [Sl eStr v xs] (γ := Unit) (fun _ => .bool (decide (∀ x ∈ xs, RightS x))) (fun _ => True) (fun _ => []) := by
  refine con_of Tryd.func20 rfl (Nat.le_of_ble_eq_true rfl) fun w0 O0 => ?_
  refine c_seq ?_
  refine c_region ?_
  refine o_val (v_assign rfl) (Nat.le_of_ble_eq_true rfl) ?_
  refine o_nil ?_
  refine c_seq ?_
  refine c_region ?_
  refine o_val (v_move rfl) (Nat.le_of_ble_eq_true rfl) ?_
  refine o_step (s_callf cl39 (containsf_con v xs hx) rfl (Nat.le_of_ble_eq_true rfl) (by repeat (first | exact Picks.nil | (apply Picks.cons; · repeat (first | exact Pick.keep (Sl.isDup _ _ _) | exact Pick.keep (BlkR.isDup _ _ _) | exact Pick.here | exact Pick.own_sl | exact Pick.apd_sl | exact Pick.r_blk | exact Pick.sl_nil | exact Pick.own_nil | apply Pick.there)))) fun _ _ => ?_)
  refine o_val (v_not rfl) (Nat.le_of_ble_eq_true rfl) ?_
  refine o_val (v_assign rfl) (Nat.le_of_ble_eq_true rfl) ?_
  refine o_nil ?_
  refine c_ret1 Tryd.func20 rfl rfl fun w O hS => ?_
  exact ⟨(), by rw [Bool.not_not], trivial, trivial⟩
end Go.Proofs.YtgokinfjlollpaaDoor

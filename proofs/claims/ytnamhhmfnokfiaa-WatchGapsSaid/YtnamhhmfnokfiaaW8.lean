import Derived.Test.YtnamhhmfnokfiaaW7
namespace Go.Proofs.Ytnamhhmfnokfiaa
open Go Go.SL

/-- Notes that tell all events, but for some in a row, in whose place one note of losing stands. -/
def Cov : List Nt → List Nt → Prop
  | [], all => all = []
  | n :: g, all => if n.2.2 = false then ∃ a, all = n :: a ∧ Cov g a else n.2.1 = [] ∧ ∃ e x a, all = e ++ x :: a ∧ 1 ≤ e.length ∧ x.1 = n.1 ∧ Cov g a
theorem cov_snoc {n : Nt} (hn : n.2.2 = false) : ∀ {g all : List Nt}, Cov g all → Cov (g ++ [n]) (all ++ [n])
  | [], all, h => by
    have h' : all = [] := h
    subst h'
    show Cov [n] [n]
    unfold Cov
    rw [if_pos hn]
    exact ⟨[], rfl, rfl⟩
  | m :: g, all, h => by
    unfold Cov at h
    show Cov (m :: (g ++ [n])) _
    unfold Cov
    split at h
    · rename_i hm
      obtain ⟨a, rfl, h2⟩ := h
      rw [if_pos hm]
      exact ⟨a ++ [n], rfl, cov_snoc hn h2⟩
    · rename_i hm
      obtain ⟨h1, e, x, a, rfl, h2, h3, h4⟩ := h
      rw [if_neg hm]
      exact ⟨h1, e, x, a ++ [n], by simp, h2, h3, cov_snoc hn h4⟩
theorem cov_last {l ev : Nt} : ∀ {g all : List Nt}, Cov (g ++ [l]) all → Cov (g ++ [(ev.1, [], true)]) (all ++ [ev])
  | [], all, h => by
    have h' : Cov [l] all := h
    unfold Cov at h'
    show Cov [(ev.1, [], true)] _
    unfold Cov
    rw [if_neg (by simp)]
    refine ⟨rfl, all, ev, [], by simp, ?_, rfl, rfl⟩
    split at h'
    · obtain ⟨a, rfl, h2⟩ := h'
      simp
    · obtain ⟨h1, e, x, a, rfl, h2, h3, h4⟩ := h'
      simp; omega
  | m :: g, all, h => by
    have h' : Cov (m :: (g ++ [l])) all := h
    unfold Cov at h'
    show Cov (m :: (g ++ [(ev.1, [], true)])) _
    unfold Cov
    split at h'
    · rename_i hm
      obtain ⟨a, rfl, h2⟩ := h'
      rw [if_pos hm]
      exact ⟨a ++ [ev], rfl, cov_last h2⟩
    · rename_i hm
      obtain ⟨h1, e, x, a, rfl, h2, h3, h4⟩ := h'
      rw [if_neg hm]
      exact ⟨h1, e, x, a ++ [ev], by simp, h2, h3, cov_last h4⟩
theorem cov_note {g q all : List Nt} {ver : Int} {t : List ByteArray} (hq : q.length ≤ 4) (h : Cov (g ++ q) all) : Cov (g ++ noteW ver t q) (all ++ [(ver, t, false)]) := by
  unfold noteW
  split
  · rw [← List.append_assoc]
    exact cov_snoc rfl h
  · have h4 : q.length = 4 := by omega
    have e : q = q.take 3 ++ [q[3]] := by
      conv => lhs; rw [← List.take_append_drop 3 q, List.drop_eq_getElem_cons (by omega : 3 < q.length), List.drop_of_length_le (by omega : q.length ≤ 3 + 1)]
    rw [e, ← List.append_assoc] at h
    have := cov_last (ev := (ver, t, false)) h
    rw [List.append_assoc] at this
    exact this
theorem drop_cons_at {all : List Nt} {k : Nat} {n : Nt} {a : List Nt} (h : all.drop k = n :: a) : ∃ hk : k < all.length, all[k] = n ∧ all.drop (k + 1) = a := by
  have hk : k < all.length := by
    rcases Nat.lt_or_ge k all.length with h1 | h1
    · exact h1
    · rw [List.drop_of_length_le h1] at h; cases h
  rw [List.drop_eq_getElem_cons hk, List.cons.injEq] at h
  exact ⟨hk, h.1, h.2⟩
theorem drop_run {all : List Nt} {k : Nat} {e : List Nt} {x : Nt} {a : List Nt} (h : all.drop k = e ++ x :: a) : ∃ hk : k + e.length < all.length, all[k + e.length] = x ∧ all.drop (k + e.length + 1) = a := by
  refine drop_cons_at ?_
  rw [← List.drop_drop, h, List.drop_left]
attribute [local irreducible] Cfg Kont StepK Val Con Qops Any Sl Own Blk BlkR Rd Pu ExA AllA Has Pick Ent Elem Beside Callable TI Lone

set_option maxRecDepth 100000 in
theorem covers_con (gv av : Value) (got all : List Nt) (hc : Cov got all) (hr : all.Pairwise fun a b => a.1 < b.1) (hg : got.length ≤ 100000) (ha : all.length ≤ 100000) (hn : ∀ x ∈ all, x.2.1.length ≤ 8796093021952) :
    Con Try.prog 27 [gv, av] [Sl eNt gv got, Sl eNt av all] (γ := Unit) (fun _ => .bool true) (fun _ => True) (fun _ => []) := by
  refine Con.form (v := av) (xs := all) (by repeat (first | exact Has.here | exact Has.sl_apd | exact Has.sl_own | exact Has.r_blk | apply Has.there)) ?_
  rintro a0 c0 rfl hc0 -
  refine con_of Try.func27 rfl (Nat.le_of_ble_eq_true rfl) fun w0 O0 => ?_
  refine c_seq ?_
  refine c_region ?_
  refine o_val (v_assign rfl) (Nat.le_of_ble_eq_true rfl) ?_
  refine o_nil ?_
  refine c_seq ?_
  refine c_region ?_
  refine o_val (v_assign rfl) (Nat.le_of_ble_eq_true rfl) ?_
  refine o_nil ?_
  refine c_seq ?_
  refine c_seq ?_
  refine c_region ?_
  refine o_val (v_move rfl) (Nat.le_of_ble_eq_true rfl) ?_
  refine o_val ((by first | exact v_len_form Try.underlying37 rfl | exact v_len_sl Try.underlying37 rfl (by repeat (first | exact Has.here | exact Has.sl_apd | exact Has.sl_own | exact Has.r_blk | apply Has.there)))) (Nat.le_of_ble_eq_true rfl) ?_
  refine o_val (v_move rfl) (Nat.le_of_ble_eq_true rfl) ?_
  refine o_nil ?_
  refine c_block ?_
  refine c_loopR (γ := Nat × Nat) [(1, _), (4, _), (9, _), (10, _)] (fun g => got.length - g.1) (fun g => g.1 ≤ got.length ∧ g.2 ≤ all.length ∧ Cov (got.drop g.1) (all.drop g.2)) (fun g => [(11, .int .i64 g.1), (5, .int .i64 g.2)]) (fun _ => [Sl eNt gv got, Sl eNt (.slice a0 all.length c0) all]) ((0, 0)) (⟨Nat.zero_le _, Nat.zero_le _, hc⟩) (by repeat (first | exact trivial | refine ⟨rfl, ?_⟩)) (Picks.ent (by repeat (first | exact Picks.nil | (apply Picks.cons; · repeat (first | exact Pick.keep (Sl.isDup _ _ _) | exact Pick.keep (BlkR.isDup _ _ _) | exact Pick.keep (FldCell.isDup _ _) | exact Pick.here | exact Pick.own_sl | exact Pick.apd_sl | exact Pick.r_blk | exact Pick.sl_nil | exact Pick.own_nil | exact Pick.map_itO _ | apply Pick.there))))) ?_
  rintro ⟨i, k⟩ ⟨hi, hk, hcov⟩ IH
  dsimp only at hi hk hcov ⊢
  try dsimp only [List.cons_append, List.nil_append]
  refine c_seq ?_
  refine c_region ?_
  refine o_val (v_lt rfl rfl) (Nat.le_of_ble_eq_true rfl) ?_
  refine o_nil ?_
  refine c_seq ?_
  refine c_cond_p rfl (fun hlt => ?_) (fun hlt => ?_)
  · have hi' : i < got.length := by omega
    rw [List.drop_eq_getElem_cons hi'] at hcov
    unfold Cov at hcov
    refine c_skip ?_
    refine c_seq ?_
    refine c_block ?_
    refine c_seq ?_
    refine c_region ?_
    refine o_val ((by first | exact v_indexAddrN Try.underlying37 ti56 rfl rfl (by repeat (first | exact Has.here | exact Has.sl_apd | exact Has.sl_own | exact Has.r_blk | apply Has.there)) (by omega) | exact v_indexAddr Try.underlying37 ti56 rfl rfl (by repeat (first | exact Has.here | exact Has.sl_apd | exact Has.sl_own | exact Has.r_blk | apply Has.there)) (by omega))) (Nat.le_of_ble_eq_true rfl) ?_
    refine o_step (s_load_shape ⟨_, Try.underlying56⟩ ti56 rfl (Nat.le_of_ble_eq_true rfl) (by repeat (first | exact Elem.sl (List.getElem?_eq_getElem (by omega)) | exact Elem.own (List.getElem?_eq_getElem (by omega)) | apply Elem.there)) (nt_open) (fun c => ?_))
    refine o_step (s_alloc ti56 (Nat.le_of_ble_eq_true rfl) (fun b7 => ?_))
    refine o_step (s_store_all ti56 rfl rfl (by first | exact CellsV.lit rfl | exact CellsV.one (by first | exact OneC.lit rfl | exact OneC.sl (by repeat (first | exact Has.here | exact Has.sl_apd | exact Has.sl_own | exact Has.r_blk | apply Has.there)) )) (by repeat (first | exact OneAll.nil | (refine OneAll.cons ?_ ?_; · first | exact OneC.lit rfl | exact OneC.sl (by repeat (first | exact Has.here | exact Has.sl_apd | exact Has.sl_own | exact Has.r_blk | apply Has.there)) ) | exact OneAll.rd (by repeat (first | exact Has.here | exact Has.sl_apd | exact Has.sl_own | exact Has.r_blk | apply Has.there)))) rfl (by repeat (first | exact Pick.here | exact Pick.own_nil | apply Pick.there)) rfl (?_))
    refine o_nil ?_
    refine c_seq ?_
    refine c_seq ?_
    refine c_region ?_
    refine o_val (v_fieldAddrC 2 Try.underlying56 rfl ti4 (by decide) rfl) (Nat.le_of_ble_eq_true rfl) ?_
    refine o_val (v_load lone4 rfl (by repeat (first | exact Has.here | exact Has.sl_apd | exact Has.sl_own | exact Has.r_blk | apply Has.there)) rfl) (Nat.le_of_ble_eq_true rfl) ?_
    refine o_val (v_not rfl) (Nat.le_of_ble_eq_true rfl) ?_
    refine o_nil ?_
    refine c_cond rfl (fun hnl => ?_) (fun hnl => ?_)
    · have hl : got[i].2.2 = false := by simpa using hnl
      rw [if_pos hl] at hcov
      obtain ⟨a, hd, hcov2⟩ := hcov
      obtain ⟨hka, hk1, hkd⟩ := drop_cons_at hd
      have hng : got[i].2.1.length ≤ 8796093021952 := by rw [← hk1]; exact hn _ (List.getElem_mem hka)
      refine c_ent (Ent.share (by repeat (first | exact Pick.keep (Sl.isDup _ _ _) | exact Pick.keep (BlkR.isDup _ _ _) | exact Pick.keep (FldCell.isDup _ _) | exact Pick.here | exact Pick.own_sl | exact Pick.apd_sl | exact Pick.r_blk | exact Pick.sl_nil | exact Pick.own_nil | exact Pick.map_itO _ | apply Pick.there)) (Sl.isDup eNt (.slice a0 all.length c0) all) fun _ _ h => Sl.cutV (lo := k) (hi := k + 1) (c := c0) h (by omega) (by omega) (by omega) (Nat.le_refl _)) ?_
      have e1 : List.drop k (all.take (k + 1)) = [got[i]] := by
        rw [List.take_succ_eq_append_getElem hka, List.drop_left' (by simp; omega), hk1]
      rw [e1]
      refine c_seq ?_
      refine c_seq ?_
      refine c_held [Sl eNt (.slice a0 all.length c0) all, BlkR b7 56 [.int .i64 got[i].1, c, .bool got[i].2.2], Sl eStr c got[i].2.1] rfl ?_
      refine a_take 0 rfl (by kernel_rfl) (by kernel_rfl) (by kernel_rfl) (v_move rfl) (Picks.ent (by repeat (first | exact Picks.nil | (apply Picks.cons; · repeat (first | exact Pick.keep (Sl.isDup _ _ _) | exact Pick.keep (BlkR.isDup _ _ _) | exact Pick.keep (FldCell.isDup _ _) | exact Pick.here | exact Pick.own_sl | exact Pick.apd_sl | exact Pick.r_blk | exact Pick.sl_nil | exact Pick.own_nil | exact Pick.map_itO _ | apply Pick.there))))) (Nat.le_of_ble_eq_true rfl) ?_
      refine a_take 1 rfl (by kernel_rfl) (by kernel_rfl) (by kernel_rfl) (v_move rfl) (Picks.ent (by repeat (first | exact Picks.nil | (apply Picks.cons; · repeat (first | exact Pick.keep (Sl.isDup _ _ _) | exact Pick.keep (BlkR.isDup _ _ _) | exact Pick.keep (FldCell.isDup _ _) | exact Pick.here | exact Pick.own_sl | exact Pick.apd_sl | exact Pick.r_blk | exact Pick.sl_nil | exact Pick.own_nil | exact Pick.map_itO _ | apply Pick.there))))) (Nat.le_of_ble_eq_true rfl) ?_
      refine a_take 2 rfl (by kernel_rfl) (by kernel_rfl) (by kernel_rfl) ((by first | exact v_len_form Try.underlying37 rfl | exact v_len_sl Try.underlying37 rfl (by repeat (first | exact Has.here | exact Has.sl_apd | exact Has.sl_own | exact Has.r_blk | apply Has.there)))) (Picks.ent (by repeat (first | exact Picks.nil | (apply Picks.cons; · repeat (first | exact Pick.keep (Sl.isDup _ _ _) | exact Pick.keep (BlkR.isDup _ _ _) | exact Pick.keep (FldCell.isDup _ _) | exact Pick.here | exact Pick.own_sl | exact Pick.apd_sl | exact Pick.r_blk | exact Pick.sl_nil | exact Pick.own_nil | exact Pick.map_itO _ | apply Pick.there))))) (Nat.le_of_ble_eq_true rfl) ?_
      refine a_take 3 rfl (by kernel_rfl) (by kernel_rfl) (by kernel_rfl) (v_ge rfl rfl) (Picks.ent (by repeat (first | exact Picks.nil | (apply Picks.cons; · repeat (first | exact Pick.keep (Sl.isDup _ _ _) | exact Pick.keep (BlkR.isDup _ _ _) | exact Pick.keep (FldCell.isDup _ _) | exact Pick.here | exact Pick.own_sl | exact Pick.apd_sl | exact Pick.r_blk | exact Pick.sl_nil | exact Pick.own_nil | exact Pick.map_itO _ | apply Pick.there))))) (Nat.le_of_ble_eq_true rfl) ?_
      refine a_take 4 rfl (by kernel_rfl) (by kernel_rfl) (by kernel_rfl) (v_move rfl) (Picks.ent (by repeat (first | exact Picks.nil | (apply Picks.cons; · repeat (first | exact Pick.keep (Sl.isDup _ _ _) | exact Pick.keep (BlkR.isDup _ _ _) | exact Pick.keep (FldCell.isDup _ _) | exact Pick.here | exact Pick.own_sl | exact Pick.apd_sl | exact Pick.r_blk | exact Pick.sl_nil | exact Pick.own_nil | exact Pick.map_itO _ | apply Pick.there))))) (Nat.le_of_ble_eq_true rfl) ?_
      refine a_know (s := 22) rfl (show _ = Value.bool false from congrArg Value.bool (decide_eq_false (by omega))) ?_
      refine a_take_on 5 rfl rfl rfl (by kernel_rfl) (by kernel_rfl) (by kernel_rfl) (v_load_all ⟨_, Try.underlying56⟩ ti56 rfl (by repeat (first | exact Has.here | exact Has.sl_apd | exact Has.sl_own | exact Has.r_blk | apply Has.there)) rfl) (Picks.ent (by repeat (first | exact Picks.nil | (apply Picks.cons; · repeat (first | exact Pick.keep (Sl.isDup _ _ _) | exact Pick.keep (BlkR.isDup _ _ _) | exact Pick.keep (FldCell.isDup _ _) | exact Pick.here | exact Pick.own_sl | exact Pick.apd_sl | exact Pick.r_blk | exact Pick.sl_nil | exact Pick.own_nil | exact Pick.map_itO _ | apply Pick.there))))) (Nat.le_of_ble_eq_true rfl) ?_
      refine a_take_on 7 rfl rfl rfl (by kernel_rfl) (by kernel_rfl) (by kernel_rfl) (v_move rfl) (Picks.ent (by repeat (first | exact Picks.nil | (apply Picks.cons; · repeat (first | exact Pick.keep (Sl.isDup _ _ _) | exact Pick.keep (BlkR.isDup _ _ _) | exact Pick.keep (FldCell.isDup _ _) | exact Pick.here | exact Pick.own_sl | exact Pick.apd_sl | exact Pick.r_blk | exact Pick.sl_nil | exact Pick.own_nil | exact Pick.map_itO _ | apply Pick.there))))) (Nat.le_of_ble_eq_true rfl) ?_
      refine a_take_on 8 rfl rfl rfl (by kernel_rfl) (by kernel_rfl) (by kernel_rfl) (v_move rfl) (Picks.ent (by repeat (first | exact Picks.nil | (apply Picks.cons; · repeat (first | exact Pick.keep (Sl.isDup _ _ _) | exact Pick.keep (BlkR.isDup _ _ _) | exact Pick.keep (FldCell.isDup _ _) | exact Pick.here | exact Pick.own_sl | exact Pick.apd_sl | exact Pick.r_blk | exact Pick.sl_nil | exact Pick.own_nil | exact Pick.map_itO _ | apply Pick.there))))) (Nat.le_of_ble_eq_true rfl) ?_
      refine a_take_on 9 rfl rfl rfl (by kernel_rfl) (by kernel_rfl) (by kernel_rfl) (v_move rfl) (Picks.ent (by repeat (first | exact Picks.nil | (apply Picks.cons; · repeat (first | exact Pick.keep (Sl.isDup _ _ _) | exact Pick.keep (BlkR.isDup _ _ _) | exact Pick.keep (FldCell.isDup _ _) | exact Pick.here | exact Pick.own_sl | exact Pick.apd_sl | exact Pick.r_blk | exact Pick.sl_nil | exact Pick.own_nil | exact Pick.map_itO _ | apply Pick.there))))) (Nat.le_of_ble_eq_true rfl) ?_
      refine a_take_on 10 rfl rfl rfl (by kernel_rfl) (by kernel_rfl) (by kernel_rfl) ((by first | exact v_add64 rfl rfl (by omega) | exact v_add rfl rfl)) (Picks.ent (by repeat (first | exact Picks.nil | (apply Picks.cons; · repeat (first | exact Pick.keep (Sl.isDup _ _ _) | exact Pick.keep (BlkR.isDup _ _ _) | exact Pick.keep (FldCell.isDup _ _) | exact Pick.here | exact Pick.own_sl | exact Pick.apd_sl | exact Pick.r_blk | exact Pick.sl_nil | exact Pick.own_nil | exact Pick.map_itO _ | apply Pick.there))))) (Nat.le_of_ble_eq_true rfl) ?_
      refine a_take_on 11 rfl rfl rfl (by kernel_rfl) (by kernel_rfl) (by kernel_rfl) (v_slice Try.underlying37 ti56 rfl (.inr ⟨_, _, _, rfl, rfl, by omega, rfl⟩) (.inr ⟨_, _, _, rfl, rfl, by omega, rfl⟩) (.inl ⟨rfl, rfl⟩) (by omega) (by omega) (by omega)) (Picks.ent (by repeat (first | exact Picks.nil | (apply Picks.cons; · repeat (first | exact Pick.keep (Sl.isDup _ _ _) | exact Pick.keep (BlkR.isDup _ _ _) | exact Pick.keep (FldCell.isDup _ _) | exact Pick.here | exact Pick.own_sl | exact Pick.apd_sl | exact Pick.r_blk | exact Pick.sl_nil | exact Pick.own_nil | exact Pick.map_itO _ | apply Pick.there))))) (Nat.le_of_ble_eq_true rfl) ?_
      refine a_one_on 6 rfl rfl rfl (by kernel_rfl) (s_buildSlice Try.underlying37 ti56 rfl rfl rfl (by decide) (by decide) (beside_agg1 (beside_of (z := got[i]) (Lp := [Sl eStr c got[i].2.1]) (by repeat (first | exact Picks.nil | (apply Picks.cons; · repeat (first | exact Pick.keep (Sl.isDup _ _ _) | exact Pick.keep (BlkR.isDup _ _ _) | exact Pick.keep (FldCell.isDup _ _) | exact Pick.here | exact Pick.own_sl | exact Pick.apd_sl | exact Pick.r_blk | exact Pick.sl_nil | exact Pick.own_nil | exact Pick.map_itO _ | apply Pick.there)))) (fun w O h => nt_rd w O h))) rfl rfl (Nat.le_of_ble_eq_true rfl) (fun v1 => a_on (Picks.ent (by repeat (first | exact Picks.nil | (apply Picks.cons; · repeat (first | exact Pick.keep (Sl.isDup _ _ _) | exact Pick.keep (BlkR.isDup _ _ _) | exact Pick.keep (FldCell.isDup _ _) | exact Pick.here | exact Pick.own_sl | exact Pick.apd_sl | exact Pick.r_blk | exact Pick.sl_nil | exact Pick.own_nil | exact Pick.map_itO _ | apply Pick.there))))) ?_))
      refine a_one_on 12 rfl rfl rfl (by kernel_rfl) (s_callf cl28 (same_con v1 _ [got[i]] [got[i]] (by simp) (by simp) (by simp; omega)) rfl (Nat.le_of_ble_eq_true rfl) (by repeat (first | exact Picks.nil | (apply Picks.cons; · repeat (first | exact Pick.keep (Sl.isDup _ _ _) | exact Pick.keep (BlkR.isDup _ _ _) | exact Pick.keep (FldCell.isDup _ _) | exact Pick.here | exact Pick.own_sl | exact Pick.apd_sl | exact Pick.r_blk | exact Pick.sl_nil | exact Pick.own_nil | exact Pick.map_itO _ | apply Pick.there)))) (fun _ _ => a_on (Picks.ent (by repeat (first | exact Picks.nil | (apply Picks.cons; · repeat (first | exact Pick.keep (Sl.isDup _ _ _) | exact Pick.keep (BlkR.isDup _ _ _) | exact Pick.keep (FldCell.isDup _ _) | exact Pick.here | exact Pick.own_sl | exact Pick.apd_sl | exact Pick.r_blk | exact Pick.sl_nil | exact Pick.own_nil | exact Pick.map_itO _ | apply Pick.there))))) ?_))
      refine a_take_on 13 rfl rfl rfl (by kernel_rfl) (by kernel_rfl) (by kernel_rfl) (v_not rfl) (Picks.ent (by repeat (first | exact Picks.nil | (apply Picks.cons; · repeat (first | exact Pick.keep (Sl.isDup _ _ _) | exact Pick.keep (BlkR.isDup _ _ _) | exact Pick.keep (FldCell.isDup _ _) | exact Pick.here | exact Pick.own_sl | exact Pick.apd_sl | exact Pick.r_blk | exact Pick.sl_nil | exact Pick.own_nil | exact Pick.map_itO _ | apply Pick.there))))) (Nat.le_of_ble_eq_true rfl) ?_
      refine a_take 14 rfl (by kernel_rfl) (by kernel_rfl) (by kernel_rfl) (v_pick_f rfl rfl) (Picks.ent (by repeat (first | exact Picks.nil | (apply Picks.cons; · repeat (first | exact Pick.keep (Sl.isDup _ _ _) | exact Pick.keep (BlkR.isDup _ _ _) | exact Pick.keep (FldCell.isDup _ _) | exact Pick.here | exact Pick.own_sl | exact Pick.apd_sl | exact Pick.r_blk | exact Pick.sl_nil | exact Pick.own_nil | exact Pick.map_itO _ | apply Pick.there))))) (Nat.le_of_ble_eq_true rfl) ?_
      refine a_done (by kernel_rfl) ?_ _
      rw [show decide ([got[i]] = [got[i]]) = true from decide_eq_true rfl]
      refine c_cond_f rfl ?_
      refine c_skip ?_
      refine c_seq ?_
      refine c_region ?_
      refine o_val (v_move rfl) (Nat.le_of_ble_eq_true rfl) ?_
      refine o_val ((by first | exact v_add64 rfl rfl (by omega) | exact v_add rfl rfl)) (Nat.le_of_ble_eq_true rfl) ?_
      refine o_val (v_assign rfl) (Nat.le_of_ble_eq_true rfl) ?_
      refine o_nil ?_
      refine c_exit rfl ?_
      refine c_region ?_
      refine o_val ((by first | exact v_add64 rfl rfl (by omega) | exact v_add rfl rfl)) (Nat.le_of_ble_eq_true rfl) ?_
      refine o_val (v_move rfl) (Nat.le_of_ble_eq_true rfl) ?_
      refine o_nil ?_
      refine c_use (IH ((i + 1, k + 1)) (by first | omega | (dsimp only; omega)) (⟨by dsimp only; omega, by dsimp only; omega, by dsimp only; rw [hkd]; exact hcov2⟩)) (by repeat (first | exact trivial | refine ⟨rfl, ?_⟩)) (Picks.ent (by repeat (first | exact Picks.nil | (apply Picks.cons; · repeat (first | exact Pick.keep (Sl.isDup _ _ _) | exact Pick.keep (BlkR.isDup _ _ _) | exact Pick.keep (FldCell.isDup _ _) | exact Pick.here | exact Pick.own_sl | exact Pick.apd_sl | exact Pick.r_blk | exact Pick.sl_nil | exact Pick.own_nil | exact Pick.map_itO _ | apply Pick.there)))))
    · have hl : ¬ got[i].2.2 = false := by simpa using hnl
      rw [if_neg hl] at hcov
      obtain ⟨hnm, e, x, a, hd, he, hx1, hcov2⟩ := hcov
      obtain ⟨hkl, hxk, hkd⟩ := drop_run hd
      obtain ⟨kf, hkf⟩ : ∃ kf, kf = k + e.length + 1 := ⟨_, rfl⟩
      rw [← hkf] at hkd
      have hpw := List.pairwise_iff_getElem.1 hr
      refine c_skip ?_
      refine c_seq ?_
      refine c_region ?_
      refine o_val (v_move rfl) (Nat.le_of_ble_eq_true rfl) ?_
      refine o_val (v_assign rfl) (Nat.le_of_ble_eq_true rfl) ?_
      refine o_nil ?_
      refine c_seq ?_
      refine c_block ?_
      refine c_loopR (γ := Nat) [(1, _), (4, _), (7, _), (8, _), (9, _), (10, _), (11, _), (12, _), (13, _), (14, _), (15, _), (16, _), (17, _), (35, _)] (fun j => kf - j) (fun j => k ≤ j ∧ j ≤ kf) (fun j => [(5, .int .i64 j)]) (fun _ => [Blk b7 56 [.int .i64 got[i].1, c, .bool got[i].2.2], Sl eStr c got[i].2.1, Sl eNt gv got, Sl eNt (.slice a0 all.length c0) all]) (k) (⟨Nat.le_refl _, by omega⟩) (by repeat (first | exact trivial | refine ⟨rfl, ?_⟩)) (Picks.ent (by repeat (first | exact Picks.nil | (apply Picks.cons; · repeat (first | exact Pick.keep (Sl.isDup _ _ _) | exact Pick.keep (BlkR.isDup _ _ _) | exact Pick.keep (FldCell.isDup _ _) | exact Pick.here | exact Pick.own_sl | exact Pick.apd_sl | exact Pick.r_blk | exact Pick.sl_nil | exact Pick.own_nil | exact Pick.map_itO _ | apply Pick.there))))) ?_
      rintro j ⟨hkj, hjf⟩ IH2
      try dsimp only [List.cons_append, List.nil_append]
      refine c_seq ?_
      refine c_seq ?_
      refine c_quiet rfl (by kernel_rfl) ?_
      refine q_val (v_move rfl) (Nat.le_of_ble_eq_true rfl) ?_
      refine q_val (v_move rfl) (Nat.le_of_ble_eq_true rfl) ?_
      refine q_val ((by first | exact v_len_form Try.underlying37 rfl | exact v_len_sl Try.underlying37 rfl (by repeat (first | exact Has.here | exact Has.sl_apd | exact Has.sl_own | exact Has.r_blk | apply Has.there)))) (Nat.le_of_ble_eq_true rfl) ?_
      refine q_val (v_lt rfl rfl) (Nat.le_of_ble_eq_true rfl) ?_
      refine q_val (v_move rfl) (Nat.le_of_ble_eq_true rfl) ?_
      refine q_guard_t rfl rfl (fun hjl => ?_) (fun hjl => ?_)
      · have hjl' : j < all.length := by omega
        refine q_val (v_move rfl) (Nat.le_of_ble_eq_true rfl) ?_
        refine q_on rfl rfl ?_
        refine q_val (v_move rfl) (Nat.le_of_ble_eq_true rfl) ?_
        refine q_on rfl rfl ?_
        refine q_val ((by first | exact v_indexAddrN Try.underlying37 ti56 rfl rfl (by repeat (first | exact Has.here | exact Has.sl_apd | exact Has.sl_own | exact Has.r_blk | apply Has.there)) (by omega) | exact v_indexAddr Try.underlying37 ti56 rfl rfl (by repeat (first | exact Has.here | exact Has.sl_apd | exact Has.sl_own | exact Has.r_blk | apply Has.there)) (by omega))) (Nat.le_of_ble_eq_true rfl) ?_
        refine q_on rfl rfl ?_
        refine q_val (v_fieldAddrC 0 Try.underlying56 rfl ti3 (by decide) rfl) (Nat.le_of_ble_eq_true rfl) ?_
        refine q_on rfl rfl ?_
        refine q_val ((by first | exact v_load_cell lone3 rfl (by repeat (first | exact Has.here | exact Has.sl_apd | exact Has.sl_own | exact Has.r_blk | apply Has.there)) | exact v_load_fld lone3 rfl (by repeat (first | exact Elem.sl (List.getElem?_eq_getElem (by omega)) | exact Elem.own (List.getElem?_eq_getElem (by omega)) | apply Elem.there)) (by (try apply FldS.map); apply FldS.fst; (try apply FldS.map); first | exact FldS.int _ | exact FldS.str | exact FldS.bool | exact FldS.raw))) (Nat.le_of_ble_eq_true rfl) ?_
        refine q_on rfl rfl ?_
        refine q_val (v_fieldAddrC 0 Try.underlying56 rfl ti3 (by decide) rfl) (Nat.le_of_ble_eq_true rfl) ?_
        refine q_on rfl rfl ?_
        refine q_val (v_load lone3 rfl (by repeat (first | exact Has.here | exact Has.sl_apd | exact Has.sl_own | exact Has.r_blk | apply Has.there)) rfl) (Nat.le_of_ble_eq_true rfl) ?_
        refine q_on rfl rfl ?_
        refine q_val (v_le rfl rfl) (Nat.le_of_ble_eq_true rfl) ?_
        refine q_val (v_pick_t rfl rfl) (Nat.le_of_ble_eq_true rfl) ?_
        refine q_nil ?_
        refine c_cond_p rfl (fun hle => ?_) (fun hle => ?_)
        · have hjf' : j < kf := by
            rcases Nat.lt_or_ge j kf with h | h
            · exact h
            · exfalso
              have h6 := hpw (k + e.length) j hkl hjl' (by omega)
              rw [hxk] at h6
              omega
          refine c_skip ?_
          refine c_block ?_
          refine c_region ?_
          refine o_val (v_move rfl) (Nat.le_of_ble_eq_true rfl) ?_
          refine o_val ((by first | exact v_add64 rfl rfl (by omega) | exact v_add rfl rfl)) (Nat.le_of_ble_eq_true rfl) ?_
          refine o_val (v_assign rfl) (Nat.le_of_ble_eq_true rfl) ?_
          refine o_nil ?_
          refine c_inBlock ?_
          refine c_use (IH2 (j + 1) (by first | omega | (dsimp only; omega)) (⟨by omega, by omega⟩)) (by repeat (first | exact trivial | refine ⟨rfl, ?_⟩)) (Picks.ent (by repeat (first | exact Picks.nil | (apply Picks.cons; · repeat (first | exact Pick.keep (Sl.isDup _ _ _) | exact Pick.keep (BlkR.isDup _ _ _) | exact Pick.keep (FldCell.isDup _ _) | exact Pick.here | exact Pick.own_sl | exact Pick.apd_sl | exact Pick.r_blk | exact Pick.sl_nil | exact Pick.own_nil | exact Pick.map_itO _ | apply Pick.there)))))
        · have hje : kf = j := by
            rcases Nat.lt_or_ge j kf with h | h
            · exfalso
              rcases Nat.lt_or_ge j (k + e.length) with h6 | h6
              · have h7 := hpw j (k + e.length) hjl' hkl h6
                rw [hxk] at h7
                omega
              · have h7 : j = k + e.length := by omega
                subst h7
                rw [hxk] at hle
                omega
            · omega
          subst hje
          have hxj : all[((kf : Int) - 1).toNat]? = some x := by rw [show ((kf : Int) - 1).toNat = k + e.length by omega, List.getElem?_eq_getElem hkl, hxk]
          have hx2 : ∀ h, (all[((kf : Int) - 1).toNat]'h).1 = got[i].1 := fun h => by rw [(List.getElem?_eq_some_iff.1 hxj).2, hx1]
          have hk3 : ((kf : Int) - 1).toNat = k + e.length := by omega
          refine c_exit rfl ?_
          refine c_seq ?_
          refine c_quiet rfl (by kernel_rfl) ?_
          refine q_val (v_move rfl) (Nat.le_of_ble_eq_true rfl) ?_
          refine q_val (v_move rfl) (Nat.le_of_ble_eq_true rfl) ?_
          refine q_val ((by first | exact v_sub64 rfl rfl (by omega) | exact v_sub rfl rfl)) (Nat.le_of_ble_eq_true rfl) ?_
          refine q_val (v_lt rfl rfl) (Nat.le_of_ble_eq_true rfl) ?_
          refine q_val (v_move rfl) (Nat.le_of_ble_eq_true rfl) ?_
          refine q_guard rfl rfl (fun _ => ?_) (fun h_ => absurd ((show _ = false from (decide_eq_false (by omega))).symm.trans h_) (by decide))
          refine q_val (v_move rfl) (Nat.le_of_ble_eq_true rfl) ?_
          refine q_on rfl rfl ?_
          refine q_val (v_move rfl) (Nat.le_of_ble_eq_true rfl) ?_
          refine q_on rfl rfl ?_
          refine q_val ((by first | exact v_sub64 rfl rfl (by omega) | exact v_sub rfl rfl)) (Nat.le_of_ble_eq_true rfl) ?_
          refine q_on rfl rfl ?_
          refine q_val ((by first | exact v_indexAddrN Try.underlying37 ti56 rfl rfl (by repeat (first | exact Has.here | exact Has.sl_apd | exact Has.sl_own | exact Has.r_blk | apply Has.there)) (by omega) | exact v_indexAddr Try.underlying37 ti56 rfl rfl (by repeat (first | exact Has.here | exact Has.sl_apd | exact Has.sl_own | exact Has.r_blk | apply Has.there)) (by omega))) (Nat.le_of_ble_eq_true rfl) ?_
          refine q_on rfl rfl ?_
          refine q_val (v_fieldAddrC 0 Try.underlying56 rfl ti3 (by decide) rfl) (Nat.le_of_ble_eq_true rfl) ?_
          refine q_on rfl rfl ?_
          refine q_val ((by first | exact v_load_cell lone3 rfl (by repeat (first | exact Has.here | exact Has.sl_apd | exact Has.sl_own | exact Has.r_blk | apply Has.there)) | exact v_load_fld lone3 rfl (by repeat (first | exact Elem.sl (List.getElem?_eq_getElem (by omega)) | exact Elem.own (List.getElem?_eq_getElem (by omega)) | apply Elem.there)) (by (try apply FldS.map); apply FldS.fst; (try apply FldS.map); first | exact FldS.int _ | exact FldS.str | exact FldS.bool | exact FldS.raw))) (Nat.le_of_ble_eq_true rfl) ?_
          refine q_on rfl rfl ?_
          refine q_val (v_fieldAddrC 0 Try.underlying56 rfl ti3 (by decide) rfl) (Nat.le_of_ble_eq_true rfl) ?_
          refine q_on rfl rfl ?_
          refine q_val (v_load lone3 rfl (by repeat (first | exact Has.here | exact Has.sl_apd | exact Has.sl_own | exact Has.r_blk | apply Has.there)) rfl) (Nat.le_of_ble_eq_true rfl) ?_
          refine q_on rfl rfl ?_
          refine q_val (v_ne rfl rfl) (Nat.le_of_ble_eq_true rfl) ?_
          refine q_val (v_pick_f rfl rfl) (Nat.le_of_ble_eq_true rfl) ?_
          refine q_val (v_move rfl) (Nat.le_of_ble_eq_true rfl) ?_
          refine q_guard rfl rfl (fun _ => ?_) (fun h_ => absurd ((show _ = false from (decide_eq_false fun hne => hne (hx2 _))).symm.trans h_) (by decide))
          refine q_val (v_fieldAddrC 1 Try.underlying56 rfl ti30 (by decide) rfl) (Nat.le_of_ble_eq_true rfl) ?_
          refine q_on rfl rfl ?_
          refine q_val (v_load lone30 rfl (by repeat (first | exact Has.here | exact Has.sl_apd | exact Has.sl_own | exact Has.r_blk | apply Has.there)) rfl) (Nat.le_of_ble_eq_true rfl) ?_
          refine q_on rfl rfl ?_
          refine q_val ((by first | exact v_len_form Try.underlying30 rfl | exact v_len_sl Try.underlying30 rfl (by repeat (first | exact Has.here | exact Has.sl_apd | exact Has.sl_own | exact Has.r_blk | apply Has.there)))) (Nat.le_of_ble_eq_true rfl) ?_
          refine q_on rfl rfl ?_
          refine q_val (v_gt rfl rfl) (Nat.le_of_ble_eq_true rfl) ?_
          refine q_val (v_pick_f rfl rfl) (Nat.le_of_ble_eq_true rfl) ?_
          refine q_nil ?_
          rw [hnm]
          refine c_cond_f rfl ?_
          refine c_skip ?_
          refine c_inBlock ?_
          refine c_region ?_
          refine o_val ((by first | exact v_add64 rfl rfl (by omega) | exact v_add rfl rfl)) (Nat.le_of_ble_eq_true rfl) ?_
          refine o_val (v_move rfl) (Nat.le_of_ble_eq_true rfl) ?_
          refine o_nil ?_
          refine c_use (IH ((i + 1, kf)) (by first | omega | (dsimp only; omega)) (⟨by dsimp only; omega, by dsimp only; omega, by dsimp only; rw [hkd]; exact hcov2⟩)) (by repeat (first | exact trivial | refine ⟨rfl, ?_⟩)) (Picks.ent (by repeat (first | exact Picks.nil | (apply Picks.cons; · repeat (first | exact Pick.keep (Sl.isDup _ _ _) | exact Pick.keep (BlkR.isDup _ _ _) | exact Pick.keep (FldCell.isDup _ _) | exact Pick.here | exact Pick.own_sl | exact Pick.apd_sl | exact Pick.r_blk | exact Pick.sl_nil | exact Pick.own_nil | exact Pick.map_itO _ | apply Pick.there)))))
      · have hje : kf = j := by omega
        subst hje
        have hxj : all[((kf : Int) - 1).toNat]? = some x := by rw [show ((kf : Int) - 1).toNat = k + e.length by omega, List.getElem?_eq_getElem hkl, hxk]
        have hx2 : ∀ h, (all[((kf : Int) - 1).toNat]'h).1 = got[i].1 := fun h => by rw [(List.getElem?_eq_some_iff.1 hxj).2, hx1]
        have hk3 : ((kf : Int) - 1).toNat = k + e.length := by omega
        refine q_off rfl rfl rfl (Nat.le_of_ble_eq_true rfl) ?_
        refine q_off rfl rfl rfl (Nat.le_of_ble_eq_true rfl) ?_
        refine q_off rfl rfl rfl (Nat.le_of_ble_eq_true rfl) ?_
        refine q_off rfl rfl rfl (Nat.le_of_ble_eq_true rfl) ?_
        refine q_off rfl rfl rfl (Nat.le_of_ble_eq_true rfl) ?_
        refine q_off rfl rfl rfl (Nat.le_of_ble_eq_true rfl) ?_
        refine q_off rfl rfl rfl (Nat.le_of_ble_eq_true rfl) ?_
        refine q_off rfl rfl rfl (Nat.le_of_ble_eq_true rfl) ?_
        refine q_val (v_pick_f rfl rfl) (Nat.le_of_ble_eq_true rfl) ?_
        refine q_nil ?_
        refine c_cond_f rfl ?_
        refine c_exit rfl ?_
        refine c_seq ?_
        refine c_quiet rfl (by kernel_rfl) ?_
        refine q_val (v_move rfl) (Nat.le_of_ble_eq_true rfl) ?_
        refine q_val (v_move rfl) (Nat.le_of_ble_eq_true rfl) ?_
        refine q_val ((by first | exact v_sub64 rfl rfl (by omega) | exact v_sub rfl rfl)) (Nat.le_of_ble_eq_true rfl) ?_
        refine q_val (v_lt rfl rfl) (Nat.le_of_ble_eq_true rfl) ?_
        refine q_val (v_move rfl) (Nat.le_of_ble_eq_true rfl) ?_
        refine q_guard rfl rfl (fun _ => ?_) (fun h_ => absurd ((show _ = false from (decide_eq_false (by omega))).symm.trans h_) (by decide))
        refine q_val (v_move rfl) (Nat.le_of_ble_eq_true rfl) ?_
        refine q_on rfl rfl ?_
        refine q_val (v_move rfl) (Nat.le_of_ble_eq_true rfl) ?_
        refine q_on rfl rfl ?_
        refine q_val ((by first | exact v_sub64 rfl rfl (by omega) | exact v_sub rfl rfl)) (Nat.le_of_ble_eq_true rfl) ?_
        refine q_on rfl rfl ?_
        refine q_val ((by first | exact v_indexAddrN Try.underlying37 ti56 rfl rfl (by repeat (first | exact Has.here | exact Has.sl_apd | exact Has.sl_own | exact Has.r_blk | apply Has.there)) (by omega) | exact v_indexAddr Try.underlying37 ti56 rfl rfl (by repeat (first | exact Has.here | exact Has.sl_apd | exact Has.sl_own | exact Has.r_blk | apply Has.there)) (by omega))) (Nat.le_of_ble_eq_true rfl) ?_
        refine q_on rfl rfl ?_
        refine q_val (v_fieldAddrC 0 Try.underlying56 rfl ti3 (by decide) rfl) (Nat.le_of_ble_eq_true rfl) ?_
        refine q_on rfl rfl ?_
        refine q_val ((by first | exact v_load_cell lone3 rfl (by repeat (first | exact Has.here | exact Has.sl_apd | exact Has.sl_own | exact Has.r_blk | apply Has.there)) | exact v_load_fld lone3 rfl (by repeat (first | exact Elem.sl (List.getElem?_eq_getElem (by omega)) | exact Elem.own (List.getElem?_eq_getElem (by omega)) | apply Elem.there)) (by (try apply FldS.map); apply FldS.fst; (try apply FldS.map); first | exact FldS.int _ | exact FldS.str | exact FldS.bool | exact FldS.raw))) (Nat.le_of_ble_eq_true rfl) ?_
        refine q_on rfl rfl ?_
        refine q_val (v_fieldAddrC 0 Try.underlying56 rfl ti3 (by decide) rfl) (Nat.le_of_ble_eq_true rfl) ?_
        refine q_on rfl rfl ?_
        refine q_val (v_load lone3 rfl (by repeat (first | exact Has.here | exact Has.sl_apd | exact Has.sl_own | exact Has.r_blk | apply Has.there)) rfl) (Nat.le_of_ble_eq_true rfl) ?_
        refine q_on rfl rfl ?_
        refine q_val (v_ne rfl rfl) (Nat.le_of_ble_eq_true rfl) ?_
        refine q_val (v_pick_f rfl rfl) (Nat.le_of_ble_eq_true rfl) ?_
        refine q_val (v_move rfl) (Nat.le_of_ble_eq_true rfl) ?_
        refine q_guard rfl rfl (fun _ => ?_) (fun h_ => absurd ((show _ = false from (decide_eq_false fun hne => hne (hx2 _))).symm.trans h_) (by decide))
        refine q_val (v_fieldAddrC 1 Try.underlying56 rfl ti30 (by decide) rfl) (Nat.le_of_ble_eq_true rfl) ?_
        refine q_on rfl rfl ?_
        refine q_val (v_load lone30 rfl (by repeat (first | exact Has.here | exact Has.sl_apd | exact Has.sl_own | exact Has.r_blk | apply Has.there)) rfl) (Nat.le_of_ble_eq_true rfl) ?_
        refine q_on rfl rfl ?_
        refine q_val ((by first | exact v_len_form Try.underlying30 rfl | exact v_len_sl Try.underlying30 rfl (by repeat (first | exact Has.here | exact Has.sl_apd | exact Has.sl_own | exact Has.r_blk | apply Has.there)))) (Nat.le_of_ble_eq_true rfl) ?_
        refine q_on rfl rfl ?_
        refine q_val (v_gt rfl rfl) (Nat.le_of_ble_eq_true rfl) ?_
        refine q_val (v_pick_f rfl rfl) (Nat.le_of_ble_eq_true rfl) ?_
        refine q_nil ?_
        rw [hnm]
        refine c_cond_f rfl ?_
        refine c_skip ?_
        refine c_inBlock ?_
        refine c_region ?_
        refine o_val ((by first | exact v_add64 rfl rfl (by omega) | exact v_add rfl rfl)) (Nat.le_of_ble_eq_true rfl) ?_
        refine o_val (v_move rfl) (Nat.le_of_ble_eq_true rfl) ?_
        refine o_nil ?_
        refine c_use (IH ((i + 1, kf)) (by first | omega | (dsimp only; omega)) (⟨by dsimp only; omega, by dsimp only; omega, by dsimp only; rw [hkd]; exact hcov2⟩)) (by repeat (first | exact trivial | refine ⟨rfl, ?_⟩)) (Picks.ent (by repeat (first | exact Picks.nil | (apply Picks.cons; · repeat (first | exact Pick.keep (Sl.isDup _ _ _) | exact Pick.keep (BlkR.isDup _ _ _) | exact Pick.keep (FldCell.isDup _ _) | exact Pick.here | exact Pick.own_sl | exact Pick.apd_sl | exact Pick.r_blk | exact Pick.sl_nil | exact Pick.own_nil | exact Pick.map_itO _ | apply Pick.there)))))
  · have hie : i = got.length := by omega
    have hke : k = all.length := by
      rw [hie, List.drop_length] at hcov
      have h0 : all.drop k = [] := hcov
      have := congrArg List.length h0
      simp at this; omega
    subst hke
    refine c_exit rfl ?_
    refine c_seq ?_
    refine c_region ?_
    refine o_val (v_move rfl) (Nat.le_of_ble_eq_true rfl) ?_
    refine o_val (v_move rfl) (Nat.le_of_ble_eq_true rfl) ?_
    refine o_val ((by first | exact v_len_form Try.underlying37 rfl | exact v_len_sl Try.underlying37 rfl (by repeat (first | exact Has.here | exact Has.sl_apd | exact Has.sl_own | exact Has.r_blk | apply Has.there)))) (Nat.le_of_ble_eq_true rfl) ?_
    refine o_val (v_eq rfl rfl) (Nat.le_of_ble_eq_true rfl) ?_
    refine o_val (v_assign rfl) (Nat.le_of_ble_eq_true rfl) ?_
    refine o_nil ?_
    refine c_ret1 Try.func27 rfl rfl fun w O hS => ?_
    exact ⟨(), congrArg Value.bool (decide_eq_true rfl), trivial, trivial⟩
end Go.Proofs.Ytnamhhmfnokfiaa

import Derived.Test.YtnamhhmfnokfiaaH2
namespace Go.Proofs.Ytnamhhmfnokfiaa
open Go Go.SL
attribute [local irreducible] Cfg Kont StepK Val Con Qops Any Sl Own Blk BlkR Rd Pu ExA AllA Has Pick Ent Elem Beside Callable TI Lone

theorem set_perm {ps1 ps2 : List (Nat × Wr)} {b : Nat} {x x' : Wr} {H : List Wr} (hp : ((ps1 ++ (b, x) :: ps2).map fun q : Nat × Wr => q.2).Perm H) {i : Nat} (hi : i < H.length) (hx : H[i] = x) : ((ps1 ++ (b, x') :: ps2).map fun q : Nat × Wr => q.2).Perm (H.set i x') := by
  have e : H = H.take i ++ x :: H.drop (i + 1) := by rw [← hx, List.getElem_cons_drop, List.take_append_drop]
  have h1 : (x :: (ps1 ++ ps2).map fun q : Nat × Wr => q.2).Perm (x :: (H.take i ++ H.drop (i + 1))) := by
    refine List.Perm.trans ?_ (hp.trans ?_)
    · simp only [List.map_append, List.map_cons]; exact List.perm_middle.symm
    · conv => lhs; rw [e]
      exact List.perm_middle
  have h2 := List.Perm.cons x' (List.Perm.cons_inv h1)
  rw [List.set_eq_take_append_cons_drop, if_pos hi]
  refine List.Perm.trans ?_ (h2.trans List.perm_middle.symm)
  simp only [List.map_append, List.map_cons]; exact List.perm_middle
theorem set_rising {H : List Wr} (hr : Rising H) {i : Nat} (hi : i < H.length) {x' : Wr} (hx : x'.1 = H[i].1) : Rising (H.set i x') := by
  unfold Rising
  refine List.pairwise_iff_getElem.2 fun j k hj hk hjk => ?_
  simp only [List.length_set] at hj hk
  have h1 := List.pairwise_iff_getElem.1 hr j k hj hk hjk
  simp only [List.getElem_set]
  split <;> split
  · omega
  · rename_i h2 h3; subst h2; rw [hx]; exact h1
  · rename_i h2 h3; subst h3; rw [hx]; exact h1
  · exact h1
theorem take_at {H : List Wr} (hr : Rising H) {x : Wr} (hx : x ∈ H) (n : Int) : ∃ (i : Nat) (hi : i < H.length), H[i] = x ∧ takeW H x.1 n = (H.set i (x.1, x.2.1, x.2.2.drop (manyW n x.2.2)), x.2.2.take (manyW n x.2.2), 0) := by
  obtain ⟨i, hi, h1, h2⟩ := atW_pos hr hx
  refine ⟨i, hi, h2, ?_⟩
  unfold takeW
  rw [h1, Int.toNat_natCast, List.getElem?_eq_getElem hi]
  simp only
  rw [if_neg (by omega), h2]

set_option maxRecDepth 100000 in
theorem take_con (h : Nat) (H : List Wr) (id n : Int) (hn : ∀ x ∈ H, x.2.2.length ≤ 1000000) :
    Con Try.prog 23 [.pointer (some ⟨h, 0, none⟩), .int .i64 id, .int .i64 n] [HubA h H] (γ := Value) (fun r => .tuple #[r, .int .i64 (takeW H id n).2.2]) (fun _ => True) (fun r => [NtsA r (takeW H id n).2.1, HubA h (takeW H id n).1]) := by
  refine con_of Try.func23 rfl (Nat.le_of_ble_eq_true rfl) fun w0 O0 => ?_
  refine c_hub_at (id := id) (fun hno o ps hp hr hl hn => ?_) (fun x hx hid o ps1 ps2 b v hp hr hl => ?_)
  · have hg : takeW H id n = (H, [], 130) := by
      unfold takeW; rw [atW_neg hno]
      split
      · rw [if_pos (by omega)]
      · rfl
    refine c_seq ?_
    refine c_region ?_
    refine o_val (v_assign rfl) (Nat.le_of_ble_eq_true rfl) ?_
    refine o_val (v_assign rfl) (Nat.le_of_ble_eq_true rfl) ?_
    refine o_nil ?_
    refine c_seq ?_
    refine c_region ?_
    refine o_val (v_move rfl) (Nat.le_of_ble_eq_true rfl) ?_
    refine o_val (v_nilCheck rfl) (Nat.le_of_ble_eq_true rfl) ?_
    refine o_val (v_fieldAddrC 0 Try.underlying28 rfl ti26 (by decide) rfl) (Nat.le_of_ble_eq_true rfl) ?_
    refine o_val (v_load lone26 rfl (by repeat (first | exact Has.here | exact Has.sl_apd | exact Has.sl_own | exact Has.r_blk | apply Has.there)) rfl) (Nat.le_of_ble_eq_true rfl) ?_
    refine o_val (v_move rfl) (Nat.le_of_ble_eq_true rfl) ?_
    refine o_val (v_lookupO kInt Try.underlying26 Try.underlying3 ti112 rfl rfl (by repeat (first | exact Has.here | exact Has.sl_apd | exact Has.sl_own | exact Has.r_blk | apply Has.there))) (Nat.le_of_ble_eq_true rfl) ?_
    simp only [hl, Option.getD_none, Option.getD_some, Option.isSome_none, Option.isSome_some]
    refine o_val (v_assign rfl) (Nat.le_of_ble_eq_true rfl) ?_
    refine o_nil ?_
    refine c_seq ?_
    refine c_seq ?_
    refine c_region ?_
    refine o_val (v_move rfl) (Nat.le_of_ble_eq_true rfl) ?_
    refine o_val (v_eq_ptr_nil Try.underlying112 rfl rfl) (Nat.le_of_ble_eq_true rfl) ?_
    refine o_nil ?_
    refine c_cond_t rfl ?_
    refine c_seq ?_
    refine c_region ?_
    refine o_val (v_assign rfl) (Nat.le_of_ble_eq_true rfl) ?_
    refine o_val (v_assign rfl) (Nat.le_of_ble_eq_true rfl) ?_
    refine o_nil ?_
    refine c_ret2 Try.func23 rfl rfl rfl fun w O hS => ?_
    exact ⟨.slice none 0 0, by rw [hg], trivial, by rw [hg]; exact stars_nts_nil (Ent.get (Ent.get hS (Picks.ent (by repeat (first | exact Picks.nil | (apply Picks.cons; · repeat (first | exact Pick.keep (Sl.isDup _ _ _) | exact Pick.keep (BlkR.isDup _ _ _) | exact Pick.keep (FldCell.isDup _ _) | exact Pick.here | exact Pick.own_sl | exact Pick.apd_sl | exact Pick.r_blk | exact Pick.sl_nil | exact Pick.own_nil | exact Pick.map_itO _ | apply Pick.there)))))) (hub_mk (L := []) hp hr))⟩
  · subst hid
    obtain ⟨i, hi, hxi, hg⟩ := take_at hr hx n
    have hlx := hn x hx
    refine c_swap (c_nts fun qs hqs => ?_)
    have hql : (qs.map rawN).length = x.2.2.length := by rw [← hqs]; simp
    have hmk : manyW n x.2.2 ≤ x.2.2.length := by unfold manyW; omega
    have hmk2 : (manyW n x.2.2 : Int) = min (max n 0) x.2.2.length := by unfold manyW; omega
    refine c_seq ?_
    refine c_region ?_
    refine o_val (v_assign rfl) (Nat.le_of_ble_eq_true rfl) ?_
    refine o_val (v_assign rfl) (Nat.le_of_ble_eq_true rfl) ?_
    refine o_nil ?_
    refine c_seq ?_
    refine c_region ?_
    refine o_val (v_move rfl) (Nat.le_of_ble_eq_true rfl) ?_
    refine o_val (v_nilCheck rfl) (Nat.le_of_ble_eq_true rfl) ?_
    refine o_val (v_fieldAddrC 0 Try.underlying28 rfl ti26 (by decide) rfl) (Nat.le_of_ble_eq_true rfl) ?_
    refine o_val (v_load lone26 rfl (by repeat (first | exact Has.here | exact Has.sl_apd | exact Has.sl_own | exact Has.r_blk | apply Has.there)) rfl) (Nat.le_of_ble_eq_true rfl) ?_
    refine o_val (v_move rfl) (Nat.le_of_ble_eq_true rfl) ?_
    refine o_val (v_lookupO kInt Try.underlying26 Try.underlying3 ti112 rfl rfl (by repeat (first | exact Has.here | exact Has.sl_apd | exact Has.sl_own | exact Has.r_blk | apply Has.there))) (Nat.le_of_ble_eq_true rfl) ?_
    simp only [hl, Option.getD_none, Option.getD_some, Option.isSome_none, Option.isSome_some]
    refine o_val (v_assign rfl) (Nat.le_of_ble_eq_true rfl) ?_
    refine o_nil ?_
    refine c_seq ?_
    refine c_seq ?_
    refine c_region ?_
    refine o_val (v_move rfl) (Nat.le_of_ble_eq_true rfl) ?_
    refine o_val (v_eq_ptr_nil Try.underlying112 rfl rfl) (Nat.le_of_ble_eq_true rfl) ?_
    refine o_nil ?_
    refine c_cond_f rfl ?_
    refine c_skip ?_
    refine c_seq ?_
    refine c_region ?_
    refine o_val (v_move rfl) (Nat.le_of_ble_eq_true rfl) ?_
    refine o_val (v_max rfl rfl) (Nat.le_of_ble_eq_true rfl) ?_
    refine o_val (v_move rfl) (Nat.le_of_ble_eq_true rfl) ?_
    refine o_val (v_nilCheck rfl) (Nat.le_of_ble_eq_true rfl) ?_
    refine o_val (v_fieldAddrC 1 Try.underlying114 rfl ti49 (by decide) rfl) (Nat.le_of_ble_eq_true rfl) ?_
    refine o_val (v_load lone49 rfl (by repeat (first | exact Has.here | exact Has.sl_apd | exact Has.sl_own | exact Has.r_blk | apply Has.there)) rfl) (Nat.le_of_ble_eq_true rfl) ?_
    refine o_val ((by first | exact v_len_form Try.underlying49 rfl | exact v_len_sl Try.underlying49 rfl (by repeat (first | exact Has.here | exact Has.sl_apd | exact Has.sl_own | exact Has.r_blk | apply Has.there)))) (Nat.le_of_ble_eq_true rfl) ?_
    refine o_val (v_min rfl rfl) (Nat.le_of_ble_eq_true rfl) ?_
    refine o_val (v_assign rfl) (Nat.le_of_ble_eq_true rfl) ?_
    refine o_nil ?_
    refine c_seq ?_
    rw [hql, ← hmk2]
    refine c_region ?_
    refine o_val (v_move rfl) (Nat.le_of_ble_eq_true rfl) ?_
    refine o_val (v_nilCheck rfl) (Nat.le_of_ble_eq_true rfl) ?_
    refine o_val (v_fieldAddrC 1 Try.underlying114 rfl ti49 (by decide) rfl) (Nat.le_of_ble_eq_true rfl) ?_
    refine o_val (v_load lone49 rfl (by repeat (first | exact Has.here | exact Has.sl_apd | exact Has.sl_own | exact Has.r_blk | apply Has.there)) rfl) (Nat.le_of_ble_eq_true rfl) ?_
    refine o_val (v_move rfl) (Nat.le_of_ble_eq_true rfl) ?_
    refine o_step (s_slice Try.underlying49 ti60 rfl (by repeat (first | exact Pick.keep (Sl.isDup _ _ _) | exact Pick.keep (BlkR.isDup _ _ _) | exact Pick.keep (FldCell.isDup _ _) | exact Pick.here | exact Pick.own_sl | exact Pick.apd_sl | exact Pick.r_blk | exact Pick.sl_nil | exact Pick.own_nil | exact Pick.map_itO _ | apply Pick.there)) rfl (.inl ⟨rfl, rfl⟩) (.inr ⟨_, _, _, rfl, rfl, by omega, rfl⟩) (by omega) (by omega) (Nat.le_of_ble_eq_true rfl) fun s32 => ?_)
    refine o_step (s_callf_keep cl55 (clone_N eNr s32 ((qs.map rawN).take (manyW n x.2.2)) rfl (by simp only [List.length_take]; omega)) rfl (Nat.le_of_ble_eq_true rfl) (by repeat (first | exact Reads.nil | refine Reads.cons (by first | exact Sl.isDup _ _ _ | exact BlkR.isDup _ _ _ | exact Rd.isDup _ _ _ | exact Pu.isDup _ | exact FldCell.isDup _ _) (by repeat (first | exact Has.here | exact Has.sl_apd | exact Has.sl_own | exact Has.r_blk | apply Has.there)) ?_)) (fun _ => by repeat (first | exact Seps.nil | (apply Seps.cons; · first | exact Blk.sep | exact ObjA.sep | exact MapA.sep | exact Pu.sep _ | (refine Own.sep ?_; repeat (first | exact eInt_pure _ | exact eStr_pure | exact eBool_pure | exact eByte_pure | exact eRaw_pure | apply ePair_pure | apply eMap_pure))))) (fun r33 _ => ?_))
    refine o_val (v_assign rfl) (Nat.le_of_ble_eq_true rfl) ?_
    refine o_nil ?_
    refine c_seq ?_
    refine c_region ?_
    refine o_val (v_move rfl) (Nat.le_of_ble_eq_true rfl) ?_
    refine o_val (v_move rfl) (Nat.le_of_ble_eq_true rfl) ?_
    refine o_val (v_nilCheck rfl) (Nat.le_of_ble_eq_true rfl) ?_
    refine o_val (v_fieldAddrC 1 Try.underlying114 rfl ti49 (by decide) rfl) (Nat.le_of_ble_eq_true rfl) ?_
    refine o_val (v_load lone49 rfl (by repeat (first | exact Has.here | exact Has.sl_apd | exact Has.sl_own | exact Has.r_blk | apply Has.there)) rfl) (Nat.le_of_ble_eq_true rfl) ?_
    refine o_val (v_move rfl) (Nat.le_of_ble_eq_true rfl) ?_
    refine o_step (s_slice Try.underlying49 ti60 rfl (by repeat (first | exact Pick.keep (Sl.isDup _ _ _) | exact Pick.keep (BlkR.isDup _ _ _) | exact Pick.keep (FldCell.isDup _ _) | exact Pick.here | exact Pick.own_sl | exact Pick.apd_sl | exact Pick.r_blk | exact Pick.sl_nil | exact Pick.own_nil | exact Pick.map_itO _ | apply Pick.there)) rfl (.inr ⟨_, _, _, rfl, rfl, by omega, rfl⟩) (.inl ⟨rfl, rfl⟩) (by omega) (by omega) (Nat.le_of_ble_eq_true rfl) fun s40 => ?_)
    rw [List.take_length, Int.toNat_natCast]
    refine o_step (s_callf_keep cl55 (clone_N eNr s40 ((qs.map rawN).drop (manyW n x.2.2)) rfl (by simp only [List.length_drop]; omega)) rfl (Nat.le_of_ble_eq_true rfl) (by repeat (first | exact Reads.nil | refine Reads.cons (by first | exact Sl.isDup _ _ _ | exact BlkR.isDup _ _ _ | exact Rd.isDup _ _ _ | exact Pu.isDup _ | exact FldCell.isDup _ _) (by repeat (first | exact Has.here | exact Has.sl_apd | exact Has.sl_own | exact Has.r_blk | apply Has.there)) ?_)) (fun _ => by repeat (first | exact Seps.nil | (apply Seps.cons; · first | exact Blk.sep | exact ObjA.sep | exact MapA.sep | exact Pu.sep _ | (refine Own.sep ?_; repeat (first | exact eInt_pure _ | exact eStr_pure | exact eBool_pure | exact eByte_pure | exact eRaw_pure | apply ePair_pure | apply eMap_pure))))) (fun r41 _ => ?_))
    refine o_val (v_nilCheck rfl) (Nat.le_of_ble_eq_true rfl) ?_
    refine o_val (v_fieldAddrC 1 Try.underlying114 rfl ti49 (by decide) rfl) (Nat.le_of_ble_eq_true rfl) ?_
    refine o_step (s_store1 ti49 rfl rfl (by first | exact OneC.lit rfl | exact OneC.sl (by repeat (first | exact Has.here | exact Has.sl_apd | exact Has.sl_own | exact Has.r_blk | apply Has.there))) (by repeat (first | exact Pick.here | exact Pick.own_nil | apply Pick.there)) (by first | decide | exact Nat.le_of_ble_eq_true rfl | simp) (by first | (dsimp only [List.set_cons_succ, List.set_cons_zero]; first | done | exact rfl) | rfl) (?_))
    refine o_nil ?_
    refine c_seq ?_
    refine c_region ?_
    refine o_val (v_move rfl) (Nat.le_of_ble_eq_true rfl) ?_
    refine o_val (v_assign rfl) (Nat.le_of_ble_eq_true rfl) ?_
    refine o_val (v_assign rfl) (Nat.le_of_ble_eq_true rfl) ?_
    refine o_nil ?_
    refine c_ret2 Try.func23 rfl rfl rfl fun w O hS => ?_
    rw [hg]
    rw [← List.map_take, ← List.map_drop] at hS
    refine ⟨r33, rfl, trivial, ?_⟩
    have h1 := Ent.get (Ent.get hS (L' := AllA (qs.map noteA) :: [Own eNr 60 r33 ((qs.take (manyW n x.2.2)).map rawN), Own eNr 60 r41 ((qs.drop (manyW n x.2.2)).map rawN), Blk b 114 [.string x.2.1, r41], AllA ((ps1 ++ ps2).map wrA), Blk h 28 [.map o], MapO kInt o ((ps1 ++ (b, x) :: ps2).map entW)]) (Picks.ent (by repeat (first | exact Picks.nil | (apply Picks.cons; · repeat (first | exact Pick.keep (Sl.isDup _ _ _) | exact Pick.keep (BlkR.isDup _ _ _) | exact Pick.keep (FldCell.isDup _ _) | exact Pick.here | exact Pick.own_sl | exact Pick.apd_sl | exact Pick.r_blk | exact Pick.sl_nil | exact Pick.own_nil | exact Pick.map_itO _ | apply Pick.there)))))) (notes_split (k := manyW n x.2.2))
    have h2 := Ent.get (Ent.get h1 (L' := Own eNr 60 r33 ((qs.take (manyW n x.2.2)).map rawN) :: AllA ((qs.take (manyW n x.2.2)).map noteA) :: [Own eNr 60 r41 ((qs.drop (manyW n x.2.2)).map rawN), AllA ((qs.drop (manyW n x.2.2)).map noteA), Blk b 114 [.string x.2.1, r41], AllA ((ps1 ++ ps2).map wrA), Blk h 28 [.map o], MapO kInt o ((ps1 ++ (b, x) :: ps2).map entW)]) (Picks.ent (by repeat (first | exact Picks.nil | (apply Picks.cons; · repeat (first | exact Pick.keep (Sl.isDup _ _ _) | exact Pick.keep (BlkR.isDup _ _ _) | exact Pick.keep (FldCell.isDup _ _) | exact Pick.here | exact Pick.own_sl | exact Pick.apd_sl | exact Pick.r_blk | exact Pick.sl_nil | exact Pick.own_nil | exact Pick.map_itO _ | apply Pick.there)))))) (nts_mk (l := x.2.2.take (manyW n x.2.2)) (by rw [List.map_take, hqs]))
    have h3 := Ent.get (Ent.get h2 (L' := Own eNr 60 r41 ((qs.drop (manyW n x.2.2)).map rawN) :: AllA ((qs.drop (manyW n x.2.2)).map noteA) :: [NtsA r33 (x.2.2.take (manyW n x.2.2)), Blk b 114 [.string x.2.1, r41], AllA ((ps1 ++ ps2).map wrA), Blk h 28 [.map o], MapO kInt o ((ps1 ++ (b, x) :: ps2).map entW)]) (Picks.ent (by repeat (first | exact Picks.nil | (apply Picks.cons; · repeat (first | exact Pick.keep (Sl.isDup _ _ _) | exact Pick.keep (BlkR.isDup _ _ _) | exact Pick.keep (FldCell.isDup _ _) | exact Pick.here | exact Pick.own_sl | exact Pick.apd_sl | exact Pick.r_blk | exact Pick.sl_nil | exact Pick.own_nil | exact Pick.map_itO _ | apply Pick.there)))))) (nts_mk (l := x.2.2.drop (manyW n x.2.2)) (by rw [List.map_drop, hqs]))
    have hm : (ps1 ++ (b, x) :: ps2).map entW = (ps1 ++ (b, (x.1, x.2.1, x.2.2.drop (manyW n x.2.2))) :: ps2).map entW := (ent_mod (w := x) (w' := (x.1, x.2.1, x.2.2.drop (manyW n x.2.2))) rfl).symm
    rw [hm] at h3
    exact Ent.get (Ent.get (Ent.get h3 (Picks.ent (by repeat (first | exact Picks.nil | (apply Picks.cons; · repeat (first | exact Pick.keep (Sl.isDup _ _ _) | exact Pick.keep (BlkR.isDup _ _ _) | exact Pick.keep (FldCell.isDup _ _) | exact Pick.here | exact Pick.own_sl | exact Pick.apd_sl | exact Pick.r_blk | exact Pick.sl_nil | exact Pick.own_nil | exact Pick.map_itO _ | apply Pick.there)))))) (hub_close (x := (x.1, x.2.1, x.2.2.drop (manyW n x.2.2))) (v := r41) (L := [NtsA r33 (x.2.2.take (manyW n x.2.2))]) (set_perm hp hi hxi) (set_rising hr hi (by rw [hxi])))) (Picks.ent (by repeat (first | exact Picks.nil | (apply Picks.cons; · repeat (first | exact Pick.keep (Sl.isDup _ _ _) | exact Pick.keep (BlkR.isDup _ _ _) | exact Pick.keep (FldCell.isDup _ _) | exact Pick.here | exact Pick.own_sl | exact Pick.apd_sl | exact Pick.r_blk | exact Pick.sl_nil | exact Pick.own_nil | exact Pick.map_itO _ | apply Pick.there)))))
end Go.Proofs.Ytnamhhmfnokfiaa

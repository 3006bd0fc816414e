import Derived.Test.YtnamhhmfnokfiaaH1
namespace Go.Proofs.Ytnamhhmfnokfiaa
open Go Go.SL
attribute [local irreducible] Cfg Kont StepK Val Con Qops Any Sl Own Blk BlkR Rd Pu ExA AllA Has Pick Ent Elem Beside Callable TI Lone

theorem ids_of {ps : List (Nat × Wr)} {H : List Wr} (hp : (ps.map (·.2)).Perm H) (hr : Rising H) {pre : List Int} (hf : finK (ps.map entW) pre) : sortI pre = H.map (·.1) := by
  refine sortI_of_rising (List.Pairwise.map _ (fun a b h => h) hr) hf.1 fun x => ?_
  have e1 : ∀ y, y ∈ (ps.map entW).map (fun p : Int × Value => p.1) ↔ y ∈ H.map (·.1) := fun y => by
    rw [List.map_map, show ((fun p : Int × Value => p.1) ∘ entW) = (fun w : Wr => w.1) ∘ (fun p : Nat × Wr => p.2) from rfl, ← List.map_map]
    exact (hp.map _).mem_iff
  rw [← e1]
  exact ⟨hf.2.1 x, hf.2.2 x⟩
set_option maxRecDepth 100000 in
theorem ids_con (h : Nat) (H : List Wr) (hH : H.length ≤ 1000000) :
    Con Try.prog 18 [.pointer (some ⟨h, 0, none⟩)] [HubA h H] (γ := Value) (fun r => r) (fun _ => True) (fun r => [Own (eInt .i64) 3 r (H.map (·.1)), HubA h H]) := by
  refine con_of Try.func18 rfl (Nat.le_of_ble_eq_true rfl) fun w0 O0 => ?_
  refine c_hub fun o ps hp hr => ?_
  have hml : (ps.map entW).length = H.length := by rw [List.length_map, ← hp.length_eq, List.length_map]
  refine c_seq ?_
  refine c_region ?_
  refine o_val (v_assign rfl) (Nat.le_of_ble_eq_true rfl) ?_
  refine o_nil ?_
  refine c_seq ?_
  refine c_region ?_
  refine o_val (v_move rfl) (Nat.le_of_ble_eq_true rfl) ?_
  refine o_val (v_nilCheck rfl) (Nat.le_of_ble_eq_true rfl) ?_
  refine o_val (v_fieldAddrC 0 Try.underlying28 rfl ti26 (by decide) rfl) (Nat.le_of_ble_eq_true rfl) ?_
  refine o_val (v_load lone26 rfl (by repeat (first | exact Has.here | exact Has.sl_apd | exact Has.sl_own | exact Has.r_blk | apply Has.there)) rfl) (Nat.le_of_ble_eq_true rfl) ?_
  refine o_step (s_callf_keep cl54 (keys_W o) rfl (Nat.le_of_ble_eq_true rfl) (by repeat (first | exact Reads.nil | refine Reads.cons (by first | exact Sl.isDup _ _ _ | exact BlkR.isDup _ _ _ | exact Rd.isDup _ _ _ | exact Pu.isDup _ | exact FldCell.isDup _ _) (by repeat (first | exact Has.here | exact Has.sl_apd | exact Has.sl_own | exact Has.r_blk | apply Has.there)) ?_)) (fun _ => by repeat (first | exact Seps.nil | (apply Seps.cons; · first | exact Blk.sep | exact ObjA.sep | exact MapA.sep | exact Pu.sep _ | (refine Own.sep ?_; repeat (first | exact eInt_pure _ | exact eStr_pure | exact eBool_pure | exact eByte_pure | exact eRaw_pure | apply ePair_pure | apply eMap_pure))))) (fun c _ => ?_))
  refine o_step (s_callf cl53 (sorted_I cl88 (keysIter_W c o (ps.map entW)) (fun pre x hx => by have := nxK_len hx; omega) (fun pre hf => by have := finK_len hf; omega)) rfl (Nat.le_of_ble_eq_true rfl) (by repeat (first | exact Picks.nil | (apply Picks.cons; · repeat (first | exact Pick.keep (Sl.isDup _ _ _) | exact Pick.keep (BlkR.isDup _ _ _) | exact Pick.keep (FldCell.isDup _ _) | exact Pick.here | exact Pick.own_sl | exact Pick.apd_sl | exact Pick.r_blk | exact Pick.sl_nil | exact Pick.own_nil | exact Pick.map_itO _ | apply Pick.there)))) fun r hr2 => ?_)
  refine o_val (v_assign rfl) (Nat.le_of_ble_eq_true rfl) ?_
  refine o_nil ?_
  refine c_ret1 Try.func18 rfl rfl fun w O hS => ?_
  obtain ⟨pre, hf, he⟩ := hr2
  rw [ids_of hp hr hf] at he
  refine ⟨r.1, rfl, trivial, ?_⟩
  rw [← he]
  exact Ent.get (Ent.get (Ent.get hS (Picks.ent (by repeat (first | exact Picks.nil | (apply Picks.cons; · repeat (first | exact Pick.keep (Sl.isDup _ _ _) | exact Pick.keep (BlkR.isDup _ _ _) | exact Pick.keep (FldCell.isDup _ _) | exact Pick.here | exact Pick.own_sl | exact Pick.apd_sl | exact Pick.r_blk | exact Pick.sl_nil | exact Pick.own_nil | exact Pick.map_itO _ | apply Pick.there)))))) (hub_mk (L := [Own (eInt .i64) 3 r.1 r.2]) hp hr)) (Picks.ent (by repeat (first | exact Picks.nil | (apply Picks.cons; · repeat (first | exact Pick.keep (Sl.isDup _ _ _) | exact Pick.keep (BlkR.isDup _ _ _) | exact Pick.keep (FldCell.isDup _ _) | exact Pick.here | exact Pick.own_sl | exact Pick.apd_sl | exact Pick.r_blk | exact Pick.sl_nil | exact Pick.own_nil | exact Pick.map_itO _ | apply Pick.there)))))

theorem stars_nts_nil {w : World} {O : Perm} {L : List A} (h : Stars L w O) : Stars (NtsA (.slice none 0 0) [] :: L) w O := Ent.get h (Ent.beside fun w _ _ => ntsA_nil w _)
theorem upd_nil {id : Int} {b : Nat} {x : Wr} (hx : x.1 = id) : upd [] id (.pointer (some ⟨b, 0, none⟩)) = [((b, x) : Nat × Wr)].map entW := by simp [upd, entW, hx]
set_option maxRecDepth 100000 in
theorem add_con (h : Nat) (H : List Wr) (id : Int) (p : ByteArray) (hH : H.length ≤ 1000000) :
    Con Try.prog 22 [.pointer (some ⟨h, 0, none⟩), .int .i64 id, .string p] [HubA h H] (γ := Unit) (fun _ => .int .i64 (addW H id p).2) (fun _ => True) (fun _ => [HubA h (addW H id p).1]) := by
  refine con_of Try.func22 rfl (Nat.le_of_ble_eq_true rfl) fun w0 O0 => ?_
  refine c_hub_at (id := id) (fun hno o ps hp hr hl hn => ?_) (fun x hx hid o ps1 ps2 b v hp hr hl => ?_)
  · have hml : (ps.map entW).length = H.length := by rw [List.length_map, ← hp.length_eq, List.length_map]
    refine c_seq ?_
    refine c_region ?_
    refine o_val (v_assign rfl) (Nat.le_of_ble_eq_true rfl) ?_
    refine o_nil ?_
    refine c_seq ?_
    refine c_seq ?_
    refine c_region ?_
    refine o_val (v_move rfl) (Nat.le_of_ble_eq_true rfl) ?_
    refine o_val (v_nilCheck rfl) (Nat.le_of_ble_eq_true rfl) ?_
    refine o_val (v_fieldAddrC 0 Try.underlying28 rfl ti26 (by decide) rfl) (Nat.le_of_ble_eq_true rfl) ?_
    refine o_val (v_load lone26 rfl (by repeat (first | exact Has.here | exact Has.sl_apd | exact Has.sl_own | exact Has.r_blk | apply Has.there)) rfl) (Nat.le_of_ble_eq_true rfl) ?_
    refine o_val (v_move rfl) (Nat.le_of_ble_eq_true rfl) ?_
    refine o_val (v_lookupO kInt Try.underlying26 Try.underlying3 ti112 rfl rfl (by repeat (first | exact Has.here | exact Has.sl_apd | exact Has.sl_own | exact Has.r_blk | apply Has.there))) (Nat.le_of_ble_eq_true rfl) ?_
    simp only [hl, Option.getD_none, Option.getD_some, Option.isSome_none, Option.isSome_some]
    refine o_val (v_ne_ptr_nil Try.underlying112 rfl rfl) (Nat.le_of_ble_eq_true rfl) ?_
    refine o_val (v_move rfl) (Nat.le_of_ble_eq_true rfl) ?_
    refine o_guard rfl rfl (fun _ => ?_) (fun h_ => absurd ((show _ = false from rfl).symm.trans h_) (by decide))
    refine o_val (v_move rfl) (Nat.le_of_ble_eq_true rfl) ?_
    refine o_on rfl rfl ?_
    refine o_val (v_nilCheck rfl) (Nat.le_of_ble_eq_true rfl) ?_
    refine o_on rfl rfl ?_
    refine o_val (v_fieldAddrC 0 Try.underlying28 rfl ti26 (by decide) rfl) (Nat.le_of_ble_eq_true rfl) ?_
    refine o_on rfl rfl ?_
    refine o_val (v_load lone26 rfl (by repeat (first | exact Has.here | exact Has.sl_apd | exact Has.sl_own | exact Has.r_blk | apply Has.there)) rfl) (Nat.le_of_ble_eq_true rfl) ?_
    refine o_on rfl rfl ?_
    refine o_val (v_len_mapO kInt Try.underlying26 rfl (by repeat (first | exact Has.here | exact Has.sl_apd | exact Has.sl_own | exact Has.r_blk | apply Has.there))) (Nat.le_of_ble_eq_true rfl) ?_
    refine o_on rfl rfl ?_
    refine o_val (v_ge rfl rfl) (Nat.le_of_ble_eq_true rfl) ?_
    refine o_val (v_pick_f rfl rfl) (Nat.le_of_ble_eq_true rfl) ?_
    refine o_nil ?_
    rw [hml]
    refine c_cond_p rfl (fun hc => ?_) (fun hc => ?_)
    · refine c_seq ?_
      refine c_region ?_
      refine o_val (v_assign rfl) (Nat.le_of_ble_eq_true rfl) ?_
      refine o_nil ?_
      have hg : addW H id p = (H, 131) := by unfold addW; rw [if_pos (.inl (by omega))]
      refine c_ret1 Try.func22 rfl rfl fun w O hS => ?_
      exact ⟨(), by rw [hg], trivial, by rw [hg]; exact Ent.get (Ent.get hS (Picks.ent (by repeat (first | exact Picks.nil | (apply Picks.cons; · repeat (first | exact Pick.keep (Sl.isDup _ _ _) | exact Pick.keep (BlkR.isDup _ _ _) | exact Pick.keep (FldCell.isDup _ _) | exact Pick.here | exact Pick.own_sl | exact Pick.apd_sl | exact Pick.r_blk | exact Pick.sl_nil | exact Pick.own_nil | exact Pick.map_itO _ | apply Pick.there)))))) (hub_mk (L := []) hp hr)⟩
    · have hg : (addW H id p).2 = 0 := by unfold addW; rw [if_neg (by rw [atW_neg hno]; omega)]
      have hperm : ((ps ++ [(0, (id, p, []))]).map fun q : Nat × Wr => q.2).Perm (addW H id p).1 := (add_perm (x := (id, p, [])) (b := 0) hp hr hno (by omega)).resolve_right fun h => h rfl
      refine c_skip ?_
      refine c_seq ?_
      refine c_seq ?_
      refine c_region ?_
      refine o_val (v_move rfl) (Nat.le_of_ble_eq_true rfl) ?_
      refine o_val (v_nilCheck rfl) (Nat.le_of_ble_eq_true rfl) ?_
      refine o_val (v_fieldAddrC 0 Try.underlying28 rfl ti26 (by decide) rfl) (Nat.le_of_ble_eq_true rfl) ?_
      refine o_val (v_load lone26 rfl (by repeat (first | exact Has.here | exact Has.sl_apd | exact Has.sl_own | exact Has.r_blk | apply Has.there)) rfl) (Nat.le_of_ble_eq_true rfl) ?_
      refine o_val (v_eq_map_nil Try.underlying26 rfl rfl) (Nat.le_of_ble_eq_true rfl) ?_
      refine o_nil ?_
      refine c_joinR (γ := Nat) [(0, _), (1, _), (2, _), (6, _)] (fun _ => True) (fun _ => []) (fun b => [Blk h 28 [.map (some b)], MapO kInt (some b) (ps.map entW), AllA (ps.map wrA)]) (by repeat (first | exact trivial | refine ⟨rfl, ?_⟩)) ?_ ?_
      · rintro b -
        dsimp only [List.cons_append, List.nil_append]
        refine c_seq ?_
        refine c_region ?_
        refine o_val (v_move rfl) (Nat.le_of_ble_eq_true rfl) ?_
        refine o_val (v_nilCheck rfl) (Nat.le_of_ble_eq_true rfl) ?_
        refine o_val (v_fieldAddrC 0 Try.underlying28 rfl ti26 (by decide) rfl) (Nat.le_of_ble_eq_true rfl) ?_
        refine o_val (v_load lone26 rfl (by repeat (first | exact Has.here | exact Has.sl_apd | exact Has.sl_own | exact Has.r_blk | apply Has.there)) rfl) (Nat.le_of_ble_eq_true rfl) ?_
        refine o_val (v_move rfl) (Nat.le_of_ble_eq_true rfl) ?_
        refine o_val (v_move rfl) (Nat.le_of_ble_eq_true rfl) ?_
        refine o_val (v_buildS (places := [(0, 1), (1, 1)]) (cells := [_, .slice none 0 0]) Try.underlying114 ti114 (by kernel_rfl) rfl (by repeat (first | exact PartsC.nil | (apply PartsC.one (by first | exact OneC.lit rfl | exact OneC.sl (by repeat (first | exact Has.here | exact Has.sl_apd | exact Has.sl_own | exact Has.r_blk | apply Has.there)))) | (apply PartsC.lit rfl))) rfl) (Nat.le_of_ble_eq_true rfl) ?_
        refine o_step (s_box rfl (Nat.le_of_ble_eq_true rfl) (fun b38 => ?_))
        refine o_step (s_mapUpdate kInt Try.underlying26 Try.underlying3 kInt_sc rfl rfl rfl (by repeat (first | exact Pick.keep (Sl.isDup _ _ _) | exact Pick.keep (BlkR.isDup _ _ _) | exact Pick.keep (FldCell.isDup _ _) | exact Pick.here | exact Pick.own_sl | exact Pick.apd_sl | exact Pick.r_blk | exact Pick.sl_nil | exact Pick.own_nil | exact Pick.map_itO _ | apply Pick.there)) (?_))
        refine o_nil ?_
        refine c_seq ?_
        refine c_region ?_
        refine o_val (v_assign rfl) (Nat.le_of_ble_eq_true rfl) ?_
        refine o_nil ?_
        refine c_ret1 Try.func22 rfl rfl fun w O hS => ?_
        refine ⟨(), by rw [hg], trivial, ?_⟩
        rw [upd_new (w := (id, p, [])) hn rfl] at hS
        have h1 := Ent.get (stars_nts_nil hS) (L' := Blk b38 114 [.string p, .slice none 0 0] :: NtsA (.slice none 0 0) [] :: AllA (ps.map wrA) :: [Blk h 28 [.map (some b)], MapO kInt (some b) ((ps ++ [(b38, (id, p, []))]).map entW)]) (Picks.ent (by repeat (first | exact Picks.nil | (apply Picks.cons; · repeat (first | exact Pick.keep (Sl.isDup _ _ _) | exact Pick.keep (BlkR.isDup _ _ _) | exact Pick.keep (FldCell.isDup _ _) | exact Pick.here | exact Pick.own_sl | exact Pick.apd_sl | exact Pick.r_blk | exact Pick.sl_nil | exact Pick.own_nil | exact Pick.map_itO _ | apply Pick.there)))))
        have h2 := Ent.get (Ent.get h1 (wr_mk (b := b38) (w := (id, p, [])))) snoc_wr
        refine Ent.get (Ent.get h2 (Picks.ent (by repeat (first | exact Picks.nil | (apply Picks.cons; · repeat (first | exact Pick.keep (Sl.isDup _ _ _) | exact Pick.keep (BlkR.isDup _ _ _) | exact Pick.keep (FldCell.isDup _ _) | exact Pick.here | exact Pick.own_sl | exact Pick.apd_sl | exact Pick.r_blk | exact Pick.sl_nil | exact Pick.own_nil | exact Pick.map_itO _ | apply Pick.there)))))) (hub_mk (L := []) ?_ (add_rising hr id p))
        simpa using hperm
      · intro MEET
        cases o with
        | none =>
          refine c_pu (p := ps.map entW = []) (.there .here) fun hps => ?_
          refine c_cond_t rfl ?_
          refine c_region ?_
          refine o_val (v_move rfl) (Nat.le_of_ble_eq_true rfl) ?_
          refine o_step (s_makeMap (ke := kInt) (Nat.le_of_ble_eq_true rfl) (fun b28 => ?_))
          refine o_val (v_nilCheck rfl) (Nat.le_of_ble_eq_true rfl) ?_
          refine o_val (v_fieldAddrC 0 Try.underlying28 rfl ti26 (by decide) rfl) (Nat.le_of_ble_eq_true rfl) ?_
          refine o_step (s_store1 ti26 rfl rfl (by first | exact OneC.lit rfl | exact OneC.sl (by repeat (first | exact Has.here | exact Has.sl_apd | exact Has.sl_own | exact Has.r_blk | apply Has.there))) (by repeat (first | exact Pick.here | exact Pick.own_nil | apply Pick.there)) (by first | decide | exact Nat.le_of_ble_eq_true rfl | simp) (by first | (dsimp only [List.set_cons_succ, List.set_cons_zero]; first | done | exact rfl) | rfl) (?_))
          refine o_nil ?_
          refine c_use (MEET (b28) (trivial)) (by repeat (first | exact trivial | refine ⟨rfl, ?_⟩)) (by rw [hps]; exact (Picks.ent (by repeat (first | exact Picks.nil | (apply Picks.cons; · repeat (first | exact Pick.keep (Sl.isDup _ _ _) | exact Pick.keep (BlkR.isDup _ _ _) | exact Pick.keep (FldCell.isDup _ _) | exact Pick.here | exact Pick.own_sl | exact Pick.apd_sl | exact Pick.r_blk | exact Pick.sl_nil | exact Pick.own_nil | exact Pick.map_itO _ | apply Pick.there))))))
        | some b =>
          refine c_cond_f rfl ?_
          refine c_skip ?_
          refine c_use (MEET (b) (trivial)) (by repeat (first | exact trivial | refine ⟨rfl, ?_⟩)) (Picks.ent (by repeat (first | exact Picks.nil | (apply Picks.cons; · repeat (first | exact Pick.keep (Sl.isDup _ _ _) | exact Pick.keep (BlkR.isDup _ _ _) | exact Pick.keep (FldCell.isDup _ _) | exact Pick.here | exact Pick.own_sl | exact Pick.apd_sl | exact Pick.r_blk | exact Pick.sl_nil | exact Pick.own_nil | exact Pick.map_itO _ | apply Pick.there)))))
  · have hg : addW H id p = (H, 131) := by unfold addW; rw [if_pos (.inr (by rw [← hid]; exact at_nonneg hr hx))]
    refine c_seq ?_
    refine c_region ?_
    refine o_val (v_assign rfl) (Nat.le_of_ble_eq_true rfl) ?_
    refine o_nil ?_
    refine c_seq ?_
    refine c_seq ?_
    refine c_region ?_
    refine o_val (v_move rfl) (Nat.le_of_ble_eq_true rfl) ?_
    refine o_val (v_nilCheck rfl) (Nat.le_of_ble_eq_true rfl) ?_
    refine o_val (v_fieldAddrC 0 Try.underlying28 rfl ti26 (by decide) rfl) (Nat.le_of_ble_eq_true rfl) ?_
    refine o_val (v_load lone26 rfl (by repeat (first | exact Has.here | exact Has.sl_apd | exact Has.sl_own | exact Has.r_blk | apply Has.there)) rfl) (Nat.le_of_ble_eq_true rfl) ?_
    refine o_val (v_move rfl) (Nat.le_of_ble_eq_true rfl) ?_
    refine o_val (v_lookupO kInt Try.underlying26 Try.underlying3 ti112 rfl rfl (by repeat (first | exact Has.here | exact Has.sl_apd | exact Has.sl_own | exact Has.r_blk | apply Has.there))) (Nat.le_of_ble_eq_true rfl) ?_
    simp only [hl, Option.getD_none, Option.getD_some, Option.isSome_none, Option.isSome_some]
    refine o_val (v_ne_ptr_nil Try.underlying112 rfl rfl) (Nat.le_of_ble_eq_true rfl) ?_
    refine o_val (v_move rfl) (Nat.le_of_ble_eq_true rfl) ?_
    refine o_off rfl rfl rfl (Nat.le_of_ble_eq_true rfl) ?_
    refine o_off rfl rfl rfl (Nat.le_of_ble_eq_true rfl) ?_
    refine o_off rfl rfl rfl (Nat.le_of_ble_eq_true rfl) ?_
    refine o_off rfl rfl rfl (Nat.le_of_ble_eq_true rfl) ?_
    refine o_off rfl rfl rfl (Nat.le_of_ble_eq_true rfl) ?_
    refine o_off rfl rfl rfl (Nat.le_of_ble_eq_true rfl) ?_
    refine o_val (v_pick_t rfl rfl) (Nat.le_of_ble_eq_true rfl) ?_
    refine o_nil ?_
    refine c_cond_t rfl ?_
    refine c_seq ?_
    refine c_region ?_
    refine o_val (v_assign rfl) (Nat.le_of_ble_eq_true rfl) ?_
    refine o_nil ?_
    refine c_ret1 Try.func22 rfl rfl fun w O hS => ?_
    exact ⟨(), by rw [hg], trivial, by rw [hg]; exact Ent.get (Ent.get hS (Picks.ent (by repeat (first | exact Picks.nil | (apply Picks.cons; · repeat (first | exact Pick.keep (Sl.isDup _ _ _) | exact Pick.keep (BlkR.isDup _ _ _) | exact Pick.keep (FldCell.isDup _ _) | exact Pick.here | exact Pick.own_sl | exact Pick.apd_sl | exact Pick.r_blk | exact Pick.sl_nil | exact Pick.own_nil | exact Pick.map_itO _ | apply Pick.there)))))) (hub_close (L := []) hp hr)⟩
end Go.Proofs.Ytnamhhmfnokfiaa

import Derived.Test.YtnamhhmfnokfiaaH13
namespace Go.Proofs.Ytnamhhmfnokfiaa
open Go Go.SL
attribute [local irreducible] Cfg Kont StepK Val Con Qops Any Sl Own Blk BlkR Rd Pu ExA AllA Has Pick Ent Elem Beside Callable TI Lone

theorem at_nonneg {H : List Wr} (hr : Rising H) {w : Wr} (hw : w ∈ H) : 0 ≤ atW H w.1 := by
  obtain ⟨i, hi, h1, _⟩ := atW_pos hr hw
  omega
/-- What a hub tells of one number. -/
def getW (H : List Wr) (id : Int) : Option Wr := if 0 ≤ atW H id then H[(atW H id).toNat]? else none
theorem getW_none {H : List Wr} {id : Int} (h : ∀ w ∈ H, w.1 ≠ id) : getW H id = none := by unfold getW; rw [if_neg (by rw [atW_neg h]; omega)]
theorem getW_some {H : List Wr} (hr : Rising H) {w : Wr} (hw : w ∈ H) : getW H w.1 = some w := by
  obtain ⟨i, hi, h1, h2⟩ := atW_pos hr hw
  unfold getW
  rw [if_pos (by omega), h1, Int.toNat_natCast, List.getElem?_eq_getElem hi, h2]

set_option maxRecDepth 100000 in
theorem prefix_con (h : Nat) (H : List Wr) (id : Int) :
    Con Try.prog 19 [.pointer (some ⟨h, 0, none⟩), .int .i64 id] [HubA h H] (γ := Unit) (fun _ => .tuple #[.string (((getW H id).map (·.2.1)).getD ByteArray.empty), .bool (getW H id).isSome]) (fun _ => True) (fun _ => [HubA h H]) := by
  refine con_of Try.func19 rfl (Nat.le_of_ble_eq_true rfl) fun w0 O0 => ?_
  refine c_hub_at (id := id) (fun hno o ps hp hr hl hn => ?_) (fun x hx hid o ps1 ps2 b v hp hr hl => ?_)
  · have hg := getW_none hno
    refine c_seq ?_
    refine c_region ?_
    refine o_val (v_assign rfl) (Nat.le_of_ble_eq_true rfl) ?_
    refine o_val (v_assign rfl) (Nat.le_of_ble_eq_true rfl) ?_
    refine o_nil ?_
    refine c_seq ?_
    refine c_seq ?_
    refine c_region ?_
    refine o_val (v_move rfl) (Nat.le_of_ble_eq_true rfl) ?_
    refine o_val (v_nilCheck rfl) (Nat.le_of_ble_eq_true rfl) ?_
    refine o_val (v_fieldAddrC 0 Try.underlying28 rfl ti26 (by decide) rfl) (Nat.le_of_ble_eq_true rfl) ?_
    refine o_val (v_load lone26 rfl (by repeat (first | exact Has.here | exact Has.sl_apd | exact Has.sl_own | exact Has.r_blk | apply Has.there)) rfl) (Nat.le_of_ble_eq_true rfl) ?_
    refine o_val (v_move rfl) (Nat.le_of_ble_eq_true rfl) ?_
    refine o_val (v_lookupO kInt Try.underlying26 Try.underlying3 ti112 rfl rfl (by repeat (first | exact Has.here | exact Has.sl_apd | exact Has.sl_own | exact Has.r_blk | apply Has.there))) (Nat.le_of_ble_eq_true rfl) ?_
    simp only [hl, Option.getD_none, Option.getD_some, Option.isSome_none, Option.isSome_some]
    refine o_val (v_eq_ptr_nil Try.underlying112 rfl rfl) (Nat.le_of_ble_eq_true rfl) ?_
    refine o_nil ?_
    refine c_cond_t rfl ?_
    refine c_seq ?_
    refine c_region ?_
    refine o_val (v_assign rfl) (Nat.le_of_ble_eq_true rfl) ?_
    refine o_val (v_assign rfl) (Nat.le_of_ble_eq_true rfl) ?_
    refine o_nil ?_
    refine c_ret2 Try.func19 rfl rfl rfl fun w O hS => ?_
    exact ⟨(), by rw [hg]; rfl, trivial, Ent.get (Ent.get hS (Picks.ent (by repeat (first | exact Picks.nil | (apply Picks.cons; · repeat (first | exact Pick.keep (Sl.isDup _ _ _) | exact Pick.keep (BlkR.isDup _ _ _) | exact Pick.keep (FldCell.isDup _ _) | exact Pick.here | exact Pick.own_sl | exact Pick.apd_sl | exact Pick.r_blk | exact Pick.sl_nil | exact Pick.own_nil | exact Pick.map_itO _ | apply Pick.there)))))) (hub_mk (L := []) hp hr)⟩
  · have hg := getW_some hr hx
    rw [hid] at hg
    refine c_seq ?_
    refine c_region ?_
    refine o_val (v_assign rfl) (Nat.le_of_ble_eq_true rfl) ?_
    refine o_val (v_assign rfl) (Nat.le_of_ble_eq_true rfl) ?_
    refine o_nil ?_
    refine c_seq ?_
    refine c_seq ?_
    refine c_region ?_
    refine o_val (v_move rfl) (Nat.le_of_ble_eq_true rfl) ?_
    refine o_val (v_nilCheck rfl) (Nat.le_of_ble_eq_true rfl) ?_
    refine o_val (v_fieldAddrC 0 Try.underlying28 rfl ti26 (by decide) rfl) (Nat.le_of_ble_eq_true rfl) ?_
    refine o_val (v_load lone26 rfl (by repeat (first | exact Has.here | exact Has.sl_apd | exact Has.sl_own | exact Has.r_blk | apply Has.there)) rfl) (Nat.le_of_ble_eq_true rfl) ?_
    refine o_val (v_move rfl) (Nat.le_of_ble_eq_true rfl) ?_
    refine o_val (v_lookupO kInt Try.underlying26 Try.underlying3 ti112 rfl rfl (by repeat (first | exact Has.here | exact Has.sl_apd | exact Has.sl_own | exact Has.r_blk | apply Has.there))) (Nat.le_of_ble_eq_true rfl) ?_
    simp only [hl, Option.getD_none, Option.getD_some, Option.isSome_none, Option.isSome_some]
    refine o_val (v_eq_ptr_nil Try.underlying112 rfl rfl) (Nat.le_of_ble_eq_true rfl) ?_
    refine o_nil ?_
    refine c_cond_f rfl ?_
    refine c_skip ?_
    refine c_seq ?_
    refine c_region ?_
    refine o_val (v_move rfl) (Nat.le_of_ble_eq_true rfl) ?_
    refine o_val (v_nilCheck rfl) (Nat.le_of_ble_eq_true rfl) ?_
    refine o_val (v_fieldAddrC 0 Try.underlying28 rfl ti26 (by decide) rfl) (Nat.le_of_ble_eq_true rfl) ?_
    refine o_val (v_load lone26 rfl (by repeat (first | exact Has.here | exact Has.sl_apd | exact Has.sl_own | exact Has.r_blk | apply Has.there)) rfl) (Nat.le_of_ble_eq_true rfl) ?_
    refine o_val (v_move rfl) (Nat.le_of_ble_eq_true rfl) ?_
    refine o_val (v_lookupO kInt Try.underlying26 Try.underlying3 ti112 rfl rfl (by repeat (first | exact Has.here | exact Has.sl_apd | exact Has.sl_own | exact Has.r_blk | apply Has.there))) (Nat.le_of_ble_eq_true rfl) ?_
    simp only [hl, Option.getD_none, Option.getD_some, Option.isSome_none, Option.isSome_some]
    refine o_val (v_nilCheck rfl) (Nat.le_of_ble_eq_true rfl) ?_
    refine o_val (v_fieldAddrC 0 Try.underlying114 rfl ti9 (by decide) rfl) (Nat.le_of_ble_eq_true rfl) ?_
    refine o_val (v_load lone9 rfl (by repeat (first | exact Has.here | exact Has.sl_apd | exact Has.sl_own | exact Has.r_blk | apply Has.there)) rfl) (Nat.le_of_ble_eq_true rfl) ?_
    refine o_val (v_assign rfl) (Nat.le_of_ble_eq_true rfl) ?_
    refine o_val (v_assign rfl) (Nat.le_of_ble_eq_true rfl) ?_
    refine o_nil ?_
    refine c_ret2 Try.func19 rfl rfl rfl fun w O hS => ?_
    exact ⟨(), by rw [hg]; rfl, trivial, Ent.get (Ent.get hS (Picks.ent (by repeat (first | exact Picks.nil | (apply Picks.cons; · repeat (first | exact Pick.keep (Sl.isDup _ _ _) | exact Pick.keep (BlkR.isDup _ _ _) | exact Pick.keep (FldCell.isDup _ _) | exact Pick.here | exact Pick.own_sl | exact Pick.apd_sl | exact Pick.r_blk | exact Pick.sl_nil | exact Pick.own_nil | exact Pick.map_itO _ | apply Pick.there)))))) (hub_close (L := []) hp hr)⟩

set_option maxRecDepth 100000 in
theorem waiting_con (h : Nat) (H : List Wr) (id : Int) :
    Con Try.prog 20 [.pointer (some ⟨h, 0, none⟩), .int .i64 id] [HubA h H] (γ := Unit) (fun _ => .int .i64 ((((getW H id).map (·.2.2.length)).getD 0 : Nat) : Int)) (fun _ => True) (fun _ => [HubA h H]) := by
  refine con_of Try.func20 rfl (Nat.le_of_ble_eq_true rfl) fun w0 O0 => ?_
  refine c_hub_at (id := id) (fun hno o ps hp hr hl hn => ?_) (fun x hx hid o ps1 ps2 b v hp hr hl => ?_)
  · have hg := getW_none hno
    refine c_seq ?_
    refine c_region ?_
    refine o_val (v_assign rfl) (Nat.le_of_ble_eq_true rfl) ?_
    refine o_nil ?_
    refine c_seq ?_
    refine c_seq ?_
    refine c_region ?_
    refine o_val (v_move rfl) (Nat.le_of_ble_eq_true rfl) ?_
    refine o_val (v_nilCheck rfl) (Nat.le_of_ble_eq_true rfl) ?_
    refine o_val (v_fieldAddrC 0 Try.underlying28 rfl ti26 (by decide) rfl) (Nat.le_of_ble_eq_true rfl) ?_
    refine o_val (v_load lone26 rfl (by repeat (first | exact Has.here | exact Has.sl_apd | exact Has.sl_own | exact Has.r_blk | apply Has.there)) rfl) (Nat.le_of_ble_eq_true rfl) ?_
    refine o_val (v_move rfl) (Nat.le_of_ble_eq_true rfl) ?_
    refine o_val (v_lookupO kInt Try.underlying26 Try.underlying3 ti112 rfl rfl (by repeat (first | exact Has.here | exact Has.sl_apd | exact Has.sl_own | exact Has.r_blk | apply Has.there))) (Nat.le_of_ble_eq_true rfl) ?_
    simp only [hl, Option.getD_none, Option.getD_some, Option.isSome_none, Option.isSome_some]
    refine o_val (v_eq_ptr_nil Try.underlying112 rfl rfl) (Nat.le_of_ble_eq_true rfl) ?_
    refine o_nil ?_
    refine c_cond_t rfl ?_
    refine c_seq ?_
    refine c_region ?_
    refine o_val (v_assign rfl) (Nat.le_of_ble_eq_true rfl) ?_
    refine o_nil ?_
    refine c_ret1 Try.func20 rfl rfl fun w O hS => ?_
    exact ⟨(), by rw [hg]; rfl, trivial, Ent.get (Ent.get hS (Picks.ent (by repeat (first | exact Picks.nil | (apply Picks.cons; · repeat (first | exact Pick.keep (Sl.isDup _ _ _) | exact Pick.keep (BlkR.isDup _ _ _) | exact Pick.keep (FldCell.isDup _ _) | exact Pick.here | exact Pick.own_sl | exact Pick.apd_sl | exact Pick.r_blk | exact Pick.sl_nil | exact Pick.own_nil | exact Pick.map_itO _ | apply Pick.there)))))) (hub_mk (L := []) hp hr)⟩
  · have hg := getW_some hr hx
    rw [hid] at hg
    refine c_swap (c_nts fun qs hqs => ?_)
    have hql : (qs.map rawN).length = x.2.2.length := by rw [← hqs]; simp
    refine c_seq ?_
    refine c_region ?_
    refine o_val (v_assign rfl) (Nat.le_of_ble_eq_true rfl) ?_
    refine o_nil ?_
    refine c_seq ?_
    refine c_seq ?_
    refine c_region ?_
    refine o_val (v_move rfl) (Nat.le_of_ble_eq_true rfl) ?_
    refine o_val (v_nilCheck rfl) (Nat.le_of_ble_eq_true rfl) ?_
    refine o_val (v_fieldAddrC 0 Try.underlying28 rfl ti26 (by decide) rfl) (Nat.le_of_ble_eq_true rfl) ?_
    refine o_val (v_load lone26 rfl (by repeat (first | exact Has.here | exact Has.sl_apd | exact Has.sl_own | exact Has.r_blk | apply Has.there)) rfl) (Nat.le_of_ble_eq_true rfl) ?_
    refine o_val (v_move rfl) (Nat.le_of_ble_eq_true rfl) ?_
    refine o_val (v_lookupO kInt Try.underlying26 Try.underlying3 ti112 rfl rfl (by repeat (first | exact Has.here | exact Has.sl_apd | exact Has.sl_own | exact Has.r_blk | apply Has.there))) (Nat.le_of_ble_eq_true rfl) ?_
    simp only [hl, Option.getD_none, Option.getD_some, Option.isSome_none, Option.isSome_some]
    refine o_val (v_eq_ptr_nil Try.underlying112 rfl rfl) (Nat.le_of_ble_eq_true rfl) ?_
    refine o_nil ?_
    refine c_cond_f rfl ?_
    refine c_skip ?_
    refine c_seq ?_
    refine c_region ?_
    refine o_val (v_move rfl) (Nat.le_of_ble_eq_true rfl) ?_
    refine o_val (v_nilCheck rfl) (Nat.le_of_ble_eq_true rfl) ?_
    refine o_val (v_fieldAddrC 0 Try.underlying28 rfl ti26 (by decide) rfl) (Nat.le_of_ble_eq_true rfl) ?_
    refine o_val (v_load lone26 rfl (by repeat (first | exact Has.here | exact Has.sl_apd | exact Has.sl_own | exact Has.r_blk | apply Has.there)) rfl) (Nat.le_of_ble_eq_true rfl) ?_
    refine o_val (v_move rfl) (Nat.le_of_ble_eq_true rfl) ?_
    refine o_val (v_lookupO kInt Try.underlying26 Try.underlying3 ti112 rfl rfl (by repeat (first | exact Has.here | exact Has.sl_apd | exact Has.sl_own | exact Has.r_blk | apply Has.there))) (Nat.le_of_ble_eq_true rfl) ?_
    simp only [hl, Option.getD_none, Option.getD_some, Option.isSome_none, Option.isSome_some]
    refine o_val (v_nilCheck rfl) (Nat.le_of_ble_eq_true rfl) ?_
    refine o_val (v_fieldAddrC 1 Try.underlying114 rfl ti49 (by decide) rfl) (Nat.le_of_ble_eq_true rfl) ?_
    refine o_val (v_load lone49 rfl (by repeat (first | exact Has.here | exact Has.sl_apd | exact Has.sl_own | exact Has.r_blk | apply Has.there)) rfl) (Nat.le_of_ble_eq_true rfl) ?_
    refine o_val ((by first | exact v_len_form Try.underlying49 rfl | exact v_len_sl Try.underlying49 rfl (by repeat (first | exact Has.here | exact Has.sl_apd | exact Has.sl_own | exact Has.r_blk | apply Has.there)))) (Nat.le_of_ble_eq_true rfl) ?_
    refine o_val (v_assign rfl) (Nat.le_of_ble_eq_true rfl) ?_
    refine o_nil ?_
    refine c_ret1 Try.func20 rfl rfl fun w O hS => ?_
    refine ⟨(), by rw [hg, hql]; rfl, trivial, ?_⟩
    exact Ent.get (Ent.get (Ent.get (Ent.get hS (Picks.ent (by repeat (first | exact Picks.nil | (apply Picks.cons; · repeat (first | exact Pick.keep (Sl.isDup _ _ _) | exact Pick.keep (BlkR.isDup _ _ _) | exact Pick.keep (FldCell.isDup _ _) | exact Pick.here | exact Pick.own_sl | exact Pick.apd_sl | exact Pick.r_blk | exact Pick.sl_nil | exact Pick.own_nil | exact Pick.map_itO _ | apply Pick.there)))))) (nts_mk (L := [Blk b 114 [.string x.2.1, v], AllA ((ps1 ++ ps2).map wrA), Blk h 28 [.map o], MapO kInt o ((ps1 ++ (b, x) :: ps2).map entW)]) hqs)) (Picks.ent (by repeat (first | exact Picks.nil | (apply Picks.cons; · repeat (first | exact Pick.keep (Sl.isDup _ _ _) | exact Pick.keep (BlkR.isDup _ _ _) | exact Pick.keep (FldCell.isDup _ _) | exact Pick.here | exact Pick.own_sl | exact Pick.apd_sl | exact Pick.r_blk | exact Pick.sl_nil | exact Pick.own_nil | exact Pick.map_itO _ | apply Pick.there)))))) (hub_close (L := []) hp hr)

set_option maxRecDepth 100000 in
theorem drop_con (h : Nat) (H : List Wr) (id : Int) :
    Con Try.prog 29 [.pointer (some ⟨h, 0, none⟩), .int .i64 id] [HubA h H] (γ := Unit) (fun _ => .int .i64 (dropW H id).2) (fun _ => True) (fun _ => [HubA h (dropW H id).1]) := by
  refine con_of Try.func29 rfl (Nat.le_of_ble_eq_true rfl) fun w0 O0 => ?_
  refine c_hub_at (id := id) (fun hno o ps hp hr hl hn => ?_) (fun x hx hid o ps1 ps2 b v hp hr hl => ?_)
  · have hg : dropW H id = (H, 130) := by unfold dropW; rw [if_pos (by rw [atW_neg hno]; omega)]
    refine c_seq ?_
    refine c_region ?_
    refine o_val (v_assign rfl) (Nat.le_of_ble_eq_true rfl) ?_
    refine o_nil ?_
    refine c_seq ?_
    refine c_seq ?_
    refine c_region ?_
    refine o_val (v_move rfl) (Nat.le_of_ble_eq_true rfl) ?_
    refine o_val (v_nilCheck rfl) (Nat.le_of_ble_eq_true rfl) ?_
    refine o_val (v_fieldAddrC 0 Try.underlying28 rfl ti26 (by decide) rfl) (Nat.le_of_ble_eq_true rfl) ?_
    refine o_val (v_load lone26 rfl (by repeat (first | exact Has.here | exact Has.sl_apd | exact Has.sl_own | exact Has.r_blk | apply Has.there)) rfl) (Nat.le_of_ble_eq_true rfl) ?_
    refine o_val (v_move rfl) (Nat.le_of_ble_eq_true rfl) ?_
    refine o_val (v_lookupO kInt Try.underlying26 Try.underlying3 ti112 rfl rfl (by repeat (first | exact Has.here | exact Has.sl_apd | exact Has.sl_own | exact Has.r_blk | apply Has.there))) (Nat.le_of_ble_eq_true rfl) ?_
    simp only [hl, Option.getD_none, Option.getD_some, Option.isSome_none, Option.isSome_some]
    refine o_val (v_eq_ptr_nil Try.underlying112 rfl rfl) (Nat.le_of_ble_eq_true rfl) ?_
    refine o_nil ?_
    refine c_cond_t rfl ?_
    refine c_seq ?_
    refine c_region ?_
    refine o_val (v_assign rfl) (Nat.le_of_ble_eq_true rfl) ?_
    refine o_nil ?_
    refine c_ret1 Try.func29 rfl rfl fun w O hS => ?_
    exact ⟨(), by rw [hg], trivial, by rw [hg]; exact Ent.get (Ent.get hS (Picks.ent (by repeat (first | exact Picks.nil | (apply Picks.cons; · repeat (first | exact Pick.keep (Sl.isDup _ _ _) | exact Pick.keep (BlkR.isDup _ _ _) | exact Pick.keep (FldCell.isDup _ _) | exact Pick.here | exact Pick.own_sl | exact Pick.apd_sl | exact Pick.r_blk | exact Pick.sl_nil | exact Pick.own_nil | exact Pick.map_itO _ | apply Pick.there)))))) (hub_mk (L := []) hp hr)⟩
  · obtain ⟨-, hr', hz⟩ := drop_spec hr hx
    subst hid
    refine c_seq ?_
    refine c_region ?_
    refine o_val (v_assign rfl) (Nat.le_of_ble_eq_true rfl) ?_
    refine o_nil ?_
    refine c_seq ?_
    refine c_seq ?_
    refine c_region ?_
    refine o_val (v_move rfl) (Nat.le_of_ble_eq_true rfl) ?_
    refine o_val (v_nilCheck rfl) (Nat.le_of_ble_eq_true rfl) ?_
    refine o_val (v_fieldAddrC 0 Try.underlying28 rfl ti26 (by decide) rfl) (Nat.le_of_ble_eq_true rfl) ?_
    refine o_val (v_load lone26 rfl (by repeat (first | exact Has.here | exact Has.sl_apd | exact Has.sl_own | exact Has.r_blk | apply Has.there)) rfl) (Nat.le_of_ble_eq_true rfl) ?_
    refine o_val (v_move rfl) (Nat.le_of_ble_eq_true rfl) ?_
    refine o_val (v_lookupO kInt Try.underlying26 Try.underlying3 ti112 rfl rfl (by repeat (first | exact Has.here | exact Has.sl_apd | exact Has.sl_own | exact Has.r_blk | apply Has.there))) (Nat.le_of_ble_eq_true rfl) ?_
    simp only [hl, Option.getD_none, Option.getD_some, Option.isSome_none, Option.isSome_some]
    refine o_val (v_eq_ptr_nil Try.underlying112 rfl rfl) (Nat.le_of_ble_eq_true rfl) ?_
    refine o_nil ?_
    refine c_cond_f rfl ?_
    refine c_skip ?_
    refine c_seq ?_
    refine c_region ?_
    refine o_val (v_move rfl) (Nat.le_of_ble_eq_true rfl) ?_
    refine o_val (v_nilCheck rfl) (Nat.le_of_ble_eq_true rfl) ?_
    refine o_val (v_fieldAddrC 0 Try.underlying28 rfl ti26 (by decide) rfl) (Nat.le_of_ble_eq_true rfl) ?_
    refine o_val (v_load lone26 rfl (by repeat (first | exact Has.here | exact Has.sl_apd | exact Has.sl_own | exact Has.r_blk | apply Has.there)) rfl) (Nat.le_of_ble_eq_true rfl) ?_
    refine o_val (v_move rfl) (Nat.le_of_ble_eq_true rfl) ?_
    refine o_step (s_deleteO kInt rfl Try.underlying26 Try.underlying3 rfl rfl (by repeat (first | exact Pick.keep (Sl.isDup _ _ _) | exact Pick.keep (BlkR.isDup _ _ _) | exact Pick.keep (FldCell.isDup _ _) | exact Pick.here | exact Pick.own_sl | exact Pick.apd_sl | exact Pick.r_blk | exact Pick.sl_nil | exact Pick.own_nil | exact Pick.map_itO _ | apply Pick.there)) (?_))
    refine o_nil ?_
    refine c_seq ?_
    refine c_region ?_
    refine o_val (v_assign rfl) (Nat.le_of_ble_eq_true rfl) ?_
    refine o_nil ?_
    refine c_ret1 Try.func29 rfl rfl fun w O hS => ?_
    rw [del_old (ps_others hp hr)] at hS
    exact ⟨(), by rw [hz], trivial, Ent.get (Ent.get hS (Picks.ent (by repeat (first | exact Picks.nil | (apply Picks.cons; · repeat (first | exact Pick.keep (Sl.isDup _ _ _) | exact Pick.keep (BlkR.isDup _ _ _) | exact Pick.keep (FldCell.isDup _ _) | exact Pick.here | exact Pick.own_sl | exact Pick.apd_sl | exact Pick.r_blk | exact Pick.sl_nil | exact Pick.own_nil | exact Pick.map_itO _ | apply Pick.there)))))) (hub_mk (L := []) (drop_perm hp hr) hr')⟩
end Go.Proofs.Ytnamhhmfnokfiaa

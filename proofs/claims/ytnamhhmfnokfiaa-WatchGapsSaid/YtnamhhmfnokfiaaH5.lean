import Derived.Test.YtnamhhmfnokfiaaH4
namespace Go.Proofs.Ytnamhhmfnokfiaa
open Go Go.SL
attribute [local irreducible] Cfg Kont StepK Val Con Qops Any Sl Own Blk BlkR Rd Pu ExA AllA Has Pick Ent Elem Beside Callable TI Lone

set_option maxRecDepth 100000 in
theorem pred_con (c1 b5 h : Nat) (H : List Wr) (x : Wr) (hx : x ∈ H) (hr0 : Rising H) (s : ByteArray) :
    Con Try.prog 94 [.string s, .pointer (some ⟨c1, 0, none⟩), .pointer (some ⟨b5, 0, none⟩)] [AllA [BlkR c1 25 [.pointer (some ⟨h, 0, none⟩)], BlkR b5 3 [.int .i64 x.1], HubA h H]] (γ := Unit) (fun _ => .bool (!hp x.2.1 s)) (fun _ => True) (fun _ => [AllA [BlkR c1 25 [.pointer (some ⟨h, 0, none⟩)], BlkR b5 3 [.int .i64 x.1], HubA h H]]) := by
  refine con_of Try.func94 rfl (Nat.le_of_ble_eq_true rfl) fun w0 O0 => ?_
  refine c_all (c_perm (L' := [HubA h H, BlkR c1 25 [.pointer (some ⟨h, 0, none⟩)], BlkR b5 3 [.int .i64 x.1]]) (List.Perm.trans (List.Perm.cons _ (List.Perm.swap _ _ _)) (List.Perm.swap _ _ _)) ?_)
  refine c_hub_at (id := x.1) (fun hno => absurd rfl (hno x hx)) (fun y hy hid o ps1 ps2 b v hp' hr hl => ?_)
  have hyx : y = x := nodup_inj (f := fun w : Wr => w.1) (List.Pairwise.map _ (fun a b h => by omega) hr) hy hx hid
  subst hyx
  refine c_seq ?_
  refine c_region ?_
  refine o_val (v_assign rfl) (Nat.le_of_ble_eq_true rfl) ?_
  refine o_nil ?_
  refine c_seq ?_
  refine c_quiet rfl (by kernel_rfl) ?_
  refine q_val (v_move rfl) (Nat.le_of_ble_eq_true rfl) ?_
  refine q_val (v_load lone25 rfl (by repeat (first | exact Has.here | exact Has.sl_apd | exact Has.sl_own | exact Has.r_blk | apply Has.there)) rfl) (Nat.le_of_ble_eq_true rfl) ?_
  refine q_val (v_nilCheck rfl) (Nat.le_of_ble_eq_true rfl) ?_
  refine q_val (v_fieldAddrC 0 Try.underlying28 rfl ti26 (by decide) rfl) (Nat.le_of_ble_eq_true rfl) ?_
  refine q_val (v_load lone26 rfl (by repeat (first | exact Has.here | exact Has.sl_apd | exact Has.sl_own | exact Has.r_blk | apply Has.there)) rfl) (Nat.le_of_ble_eq_true rfl) ?_
  refine q_val (v_load lone3 rfl (by repeat (first | exact Has.here | exact Has.sl_apd | exact Has.sl_own | exact Has.r_blk | apply Has.there)) rfl) (Nat.le_of_ble_eq_true rfl) ?_
  refine q_val (v_lookupO kInt Try.underlying26 Try.underlying3 ti112 rfl rfl (by repeat (first | exact Has.here | exact Has.sl_apd | exact Has.sl_own | exact Has.r_blk | apply Has.there))) (Nat.le_of_ble_eq_true rfl) ?_
  simp only [hl, Option.getD_none, Option.getD_some, Option.isSome_none, Option.isSome_some]
  refine q_val (v_nilCheck rfl) (Nat.le_of_ble_eq_true rfl) ?_
  refine q_val (v_fieldAddrC 0 Try.underlying114 rfl ti9 (by decide) rfl) (Nat.le_of_ble_eq_true rfl) ?_
  refine q_val (v_load lone9 rfl (by repeat (first | exact Has.here | exact Has.sl_apd | exact Has.sl_own | exact Has.r_blk | apply Has.there)) rfl) (Nat.le_of_ble_eq_true rfl) ?_
  refine q_call_keep cl95 (hasPrefix_con _ _) rfl (first := []) (cap := []) (fun _ _ => rfl) rfl rfl (Nat.le_of_ble_eq_true rfl) (by repeat (first | exact Reads.nil | refine Reads.cons (by first | exact Sl.isDup _ _ _ | exact BlkR.isDup _ _ _ | exact Rd.isDup _ _ _ | exact Pu.isDup _ | exact FldCell.isDup _ _) (by repeat (first | exact Has.here | exact Has.sl_apd | exact Has.sl_own | exact Has.r_blk | apply Has.there)) ?_)) ?_
  refine q_val (v_not rfl) (Nat.le_of_ble_eq_true rfl) ?_
  refine q_val (v_assign rfl) (Nat.le_of_ble_eq_true rfl) ?_
  refine q_nil ?_
  refine c_ret1 Try.func94 rfl rfl fun w O hS => ?_
  replace hS := stars_mk (hub_close (L := []) hp' hr) (by repeat (first | exact Picks.nil | (apply Picks.cons; · repeat (first | exact Pick.keep (Sl.isDup _ _ _) | exact Pick.keep (BlkR.isDup _ _ _) | exact Pick.keep (FldCell.isDup _ _) | exact Pick.here | exact Pick.own_sl | exact Pick.apd_sl | exact Pick.r_blk | exact Pick.sl_nil | exact Pick.own_nil | exact Pick.map_itO _ | apply Pick.there)))) hS
  replace hS := stars_mk (all_mk (l := [BlkR c1 25 [.pointer (some ⟨h, 0, none⟩)], BlkR b5 3 [.int .i64 y.1], HubA h H])) (by repeat (first | exact Picks.nil | (apply Picks.cons; · repeat (first | exact Pick.keep (Sl.isDup _ _ _) | exact Pick.keep (BlkR.isDup _ _ _) | exact Pick.keep (FldCell.isDup _ _) | exact Pick.here | exact Pick.own_sl | exact Pick.apd_sl | exact Pick.r_blk | exact Pick.sl_nil | exact Pick.own_nil | exact Pick.map_itO _ | apply Pick.there)))) hS
  exact ⟨(), rfl, trivial, Ent.get hS (Picks.ent (by repeat (first | exact Picks.nil | (apply Picks.cons; · repeat (first | exact Pick.keep (Sl.isDup _ _ _) | exact Pick.keep (BlkR.isDup _ _ _) | exact Pick.keep (FldCell.isDup _ _) | exact Pick.here | exact Pick.own_sl | exact Pick.apd_sl | exact Pick.r_blk | exact Pick.sl_nil | exact Pick.own_nil | exact Pick.map_itO _ | apply Pick.there)))))⟩

set_option maxRecDepth 100000 in
theorem touchedOf_con (h : Nat) (nv : Value) (names : List ByteArray) (hl : names.length ≤ 8796093022207) :
    Con Try.prog 56 [.pointer (some ⟨h, 0, none⟩), nv] [Sl eStr nv names] (γ := Nat × Nat × Value) (fun r => .func (.func 91) #[] #[.pointer (some ⟨r.1, 0, none⟩), .pointer (some ⟨r.2.1, 0, none⟩)]) (fun _ => True) (fun r => [Blk r.1 25 [.pointer (some ⟨h, 0, none⟩)], Blk r.2.1 30 [r.2.2], Own eStr 9 r.2.2 (setS names)]) := by
  refine con_of Try.func56 rfl (Nat.le_of_ble_eq_true rfl) fun w0 O0 => ?_
  refine c_seq ?_
  refine c_region ?_
  refine o_step (s_box rfl (Nat.le_of_ble_eq_true rfl) (fun b2 => ?_))
  refine o_val (v_assign rfl) (Nat.le_of_ble_eq_true rfl) ?_
  refine o_nil ?_
  refine c_seq ?_
  refine c_region ?_
  refine o_val (v_move rfl) (Nat.le_of_ble_eq_true rfl) ?_
  refine o_step (s_callf cl90 (values_con nv names) rfl (Nat.le_of_ble_eq_true rfl) (by repeat (first | exact Picks.nil | (apply Picks.cons; · repeat (first | exact Pick.keep (Sl.isDup _ _ _) | exact Pick.keep (BlkR.isDup _ _ _) | exact Pick.keep (FldCell.isDup _ _) | exact Pick.here | exact Pick.own_sl | exact Pick.apd_sl | exact Pick.r_blk | exact Pick.sl_nil | exact Pick.own_nil | exact Pick.map_itO _ | apply Pick.there)))) fun c _ => ?_)
  refine o_step (s_callf cl75 (sorted_S cl115 (values_iter c nv names (by omega)) (fun pre x hx => by have := nxL_len hx; omega) (fun pre hf => by rw [show pre = names from hf]; omega)) rfl (Nat.le_of_ble_eq_true rfl) (by repeat (first | exact Picks.nil | (apply Picks.cons; · repeat (first | exact Pick.keep (Sl.isDup _ _ _) | exact Pick.keep (BlkR.isDup _ _ _) | exact Pick.keep (FldCell.isDup _ _) | exact Pick.here | exact Pick.own_sl | exact Pick.apd_sl | exact Pick.r_blk | exact Pick.sl_nil | exact Pick.own_nil | exact Pick.map_itO _ | apply Pick.there)))) fun r hr2 => ?_)
  obtain ⟨pre, hf, he⟩ := hr2
  have hpre : pre = names := hf
  subst hpre
  rw [he]
  refine o_step (s_callf cl89 (compact_str r.1 (sortS pre) (by rw [sortS_len]; omega)) rfl (Nat.le_of_ble_eq_true rfl) (by repeat (first | exact Picks.nil | (apply Picks.cons; · repeat (first | exact Pick.keep (Sl.isDup _ _ _) | exact Pick.keep (BlkR.isDup _ _ _) | exact Pick.keep (FldCell.isDup _ _) | exact Pick.here | exact Pick.own_sl | exact Pick.apd_sl | exact Pick.r_blk | exact Pick.sl_nil | exact Pick.own_nil | exact Pick.map_itO _ | apply Pick.there)))) fun r9 _ => ?_)
  refine o_step (s_alloc ti30 (Nat.le_of_ble_eq_true rfl) (fun b5 => ?_))
  refine o_step (s_store1 ti30 rfl rfl (by first | exact OneC.lit rfl | exact OneC.sl (by repeat (first | exact Has.here | exact Has.sl_apd | exact Has.sl_own | exact Has.r_blk | apply Has.there))) (by repeat (first | exact Pick.here | exact Pick.own_nil | apply Pick.there)) (by first | decide | exact Nat.le_of_ble_eq_true rfl | simp) (by first | (dsimp only [List.set_cons_succ, List.set_cons_zero]; first | done | exact rfl) | rfl) (?_))
  refine o_nil ?_
  refine c_seq ?_
  refine c_region ?_
  refine o_val (v_makeFunc rfl rfl) (Nat.le_of_ble_eq_true rfl) ?_
  refine o_val (v_assign rfl) (Nat.le_of_ble_eq_true rfl) ?_
  refine o_nil ?_
  refine c_ret1 Try.func56 rfl rfl fun w O hS => ?_
  exact ⟨(b2, b5, r9), rfl, trivial, Ent.get hS (Picks.ent (by repeat (first | exact Picks.nil | (apply Picks.cons; · repeat (first | exact Pick.keep (Sl.isDup _ _ _) | exact Pick.keep (BlkR.isDup _ _ _) | exact Pick.keep (FldCell.isDup _ _) | exact Pick.here | exact Pick.own_sl | exact Pick.apd_sl | exact Pick.r_blk | exact Pick.sl_nil | exact Pick.own_nil | exact Pick.map_itO _ | apply Pick.there)))))⟩
end Go.Proofs.Ytnamhhmfnokfiaa

import Derived.Test.YtgokinfjlollpaaDoorB1
namespace Go.Proofs.YtgokinfjlollpaaDoor
open Go Go.SL L01
attribute [local irreducible] Cfg Kont StepK Val Con Qops Any Sl Own Blk BlkR Rd Pu ExA AllA Has Pick Ent Elem Beside Callable TI Lone

set_option maxRecDepth 100000 in
theorem copycheck_con (b : Nat) (p : Option Addr) (v : Value) (hp : p = none ∨ p = some ⟨b, 0, none⟩) :
    Con Tryd.prog 49 [.pointer (some ⟨b, 0, none⟩)] [Blk b 49 [.pointer p, v]] (γ := Unit) (fun _ => .tuple #[]) (fun _ => True) (fun _ => [Blk b 49 [.pointer (some ⟨b, 0, none⟩), v]]) := by
  refine con_of Tryd.func49 rfl (Nat.le_of_ble_eq_true rfl) fun w0 O0 => ?_
  refine c_seq ?_
  refine c_region ?_
  refine o_val (v_move rfl) (Nat.le_of_ble_eq_true rfl) ?_
  refine o_val (v_nilCheck rfl) (Nat.le_of_ble_eq_true rfl) ?_
  refine o_val (v_fieldAddr Tryd.underlying49 rfl ti46 (by decide) rfl) (Nat.le_of_ble_eq_true rfl) ?_
  refine o_val (v_load lone46 rfl (by repeat (first | exact Has.here | exact Has.sl_apd | exact Has.sl_own | exact Has.r_blk | apply Has.there)) rfl) (Nat.le_of_ble_eq_true rfl) ?_
  refine o_val (v_eq_ptr_nil Tryd.underlying46 rfl rfl) (Nat.le_of_ble_eq_true rfl) ?_
  refine o_nil ?_
  refine c_cond rfl (fun h => ?_) (fun h => ?_)
  · refine c_region ?_
    refine o_val (v_move rfl) (Nat.le_of_ble_eq_true rfl) ?_
    refine o_val (v_move rfl) (Nat.le_of_ble_eq_true rfl) ?_
    refine o_val (v_toUnsafe Tryd.underlying46 Tryd.underlying64 ti49 (by decide) rfl (by repeat (first | exact Has.here | exact Has.sl_apd | exact Has.sl_own | exact Has.r_blk | apply Has.there)) (by simp)) (Nat.le_of_ble_eq_true rfl) ?_
    refine o_val (v_ext (args := [.pointer (some ⟨b, 0, none⟩)]) (v := .pointer (some ⟨b, 0, none⟩)) (fun w => by kernel_rfl) rfl) (Nat.le_of_ble_eq_true rfl) ?_
    refine o_val (v_fromUnsafe Tryd.underlying64 Tryd.underlying46 ti49 (by decide) rfl (by repeat (first | exact Has.here | exact Has.sl_apd | exact Has.sl_own | exact Has.r_blk | apply Has.there)) (by kernel_rfl)) (Nat.le_of_ble_eq_true rfl) ?_
    refine o_val (v_nilCheck rfl) (Nat.le_of_ble_eq_true rfl) ?_
    refine o_val (v_fieldAddr Tryd.underlying49 rfl ti46 (by decide) rfl) (Nat.le_of_ble_eq_true rfl) ?_
    refine o_step (s_store ti46 rfl rfl rfl (by repeat (first | exact Pick.here | exact Pick.own_nil | apply Pick.there)) (by first | decide | simp) rfl ?_)
    refine o_nil ?_
    refine c_end0 Tryd.func49 rfl fun w O hS => ?_
    exact ⟨(), rfl, trivial, Ent.get hS (Picks.ent (by repeat (first | exact Picks.nil | (apply Picks.cons; · repeat (first | exact Pick.keep (Sl.isDup _ _ _) | exact Pick.keep (BlkR.isDup _ _ _) | exact Pick.here | exact Pick.own_sl | exact Pick.apd_sl | exact Pick.r_blk | exact Pick.sl_nil | exact Pick.own_nil | apply Pick.there)))))⟩
  · rcases hp with rfl | rfl
    · cases h
    refine c_seq ?_
    refine c_region ?_
    refine o_val (v_move rfl) (Nat.le_of_ble_eq_true rfl) ?_
    refine o_val (v_nilCheck rfl) (Nat.le_of_ble_eq_true rfl) ?_
    refine o_val (v_fieldAddr Tryd.underlying49 rfl ti46 (by decide) rfl) (Nat.le_of_ble_eq_true rfl) ?_
    refine o_val (v_load lone46 rfl (by repeat (first | exact Has.here | exact Has.sl_apd | exact Has.sl_own | exact Has.r_blk | apply Has.there)) rfl) (Nat.le_of_ble_eq_true rfl) ?_
    refine o_val (v_move rfl) (Nat.le_of_ble_eq_true rfl) ?_
    refine o_val (v_ne_ptr_self Tryd.underlying46 ti49 (by decide) rfl rfl) (Nat.le_of_ble_eq_true rfl) ?_
    refine o_nil ?_
    refine c_cond_f rfl ?_
    refine c_skip ?_
    refine c_end0 Tryd.func49 rfl fun w O hS => ?_
    exact ⟨(), rfl, trivial, Ent.get hS (Picks.ent (by repeat (first | exact Picks.nil | (apply Picks.cons; · repeat (first | exact Pick.keep (Sl.isDup _ _ _) | exact Pick.keep (BlkR.isDup _ _ _) | exact Pick.here | exact Pick.own_sl | exact Pick.apd_sl | exact Pick.r_blk | exact Pick.sl_nil | exact Pick.own_nil | apply Pick.there)))))⟩

set_option maxRecDepth 100000 in
theorem writestring_con (b : Nat) (p : Option Addr) (v : Value) (l : List UInt8) (s : ByteArray) (hp : p = none ∨ p = some ⟨b, 0, none⟩) (hl : l.length + s.size ≤ 140737488355328) :
    Con Tryd.prog 37 [.pointer (some ⟨b, 0, none⟩), .string s] [Blk b 49 [.pointer p, v], Own eByte 5 v l] (γ := Value) (fun _ => .tuple #[.int .i64 s.size, .nilIface]) (fun _ => True) (fun u => [Blk b 49 [.pointer (some ⟨b, 0, none⟩), u], Own eByte 5 u (l ++ s.data.toList)]) := by
  refine con_of Tryd.func37 rfl (Nat.le_of_ble_eq_true rfl) fun w0 O0 => ?_
  refine c_seq ?_
  refine c_region ?_
  refine o_val (v_assign rfl) (Nat.le_of_ble_eq_true rfl) ?_
  refine o_val (v_assign rfl) (Nat.le_of_ble_eq_true rfl) ?_
  refine o_nil ?_
  refine c_seq ?_
  refine c_region ?_
  refine o_val (v_move rfl) (Nat.le_of_ble_eq_true rfl) ?_
  refine o_step (s_callf cl49 (copycheck_con b p v hp) rfl (Nat.le_of_ble_eq_true rfl) (by repeat (first | exact Picks.nil | (apply Picks.cons; · repeat (first | exact Pick.keep (Sl.isDup _ _ _) | exact Pick.keep (BlkR.isDup _ _ _) | exact Pick.here | exact Pick.own_sl | exact Pick.apd_sl | exact Pick.r_blk | exact Pick.sl_nil | exact Pick.own_nil | apply Pick.there)))) fun _ _ => ?_)
  refine o_nil ?_
  refine c_seq ?_
  refine c_region ?_
  refine o_val (v_move rfl) (Nat.le_of_ble_eq_true rfl) ?_
  refine o_val (v_move rfl) (Nat.le_of_ble_eq_true rfl) ?_
  refine o_val (v_nilCheck rfl) (Nat.le_of_ble_eq_true rfl) ?_
  refine o_val (v_fieldAddr Tryd.underlying49 rfl ti47 (by decide) rfl) (Nat.le_of_ble_eq_true rfl) ?_
  refine o_val (v_load lone47 rfl (by repeat (first | exact Has.here | exact Has.sl_apd | exact Has.sl_own | exact Has.r_blk | apply Has.there)) rfl) (Nat.le_of_ble_eq_true rfl) ?_
  refine o_val (v_move rfl) (Nat.le_of_ble_eq_true rfl) ?_
  refine o_step (s_append_str Tryd.underlying47 Tryd.underlying9 ti5 rfl rfl (Nat.le_of_ble_eq_true rfl) (by repeat (first | exact Pick.keep (Sl.isDup _ _ _) | exact Pick.keep (BlkR.isDup _ _ _) | exact Pick.here | exact Pick.own_sl | exact Pick.apd_sl | exact Pick.r_blk | exact Pick.sl_nil | exact Pick.own_nil | apply Pick.there)) (by omega) fun v1 => ?_)
  refine o_val (v_nilCheck rfl) (Nat.le_of_ble_eq_true rfl) ?_
  refine o_val (v_fieldAddr Tryd.underlying49 rfl ti47 (by decide) rfl) (Nat.le_of_ble_eq_true rfl) ?_
  refine o_step (s_store_any (zs := l ++ s.data.toList) (e := eByte) ti47 rfl rfl (by repeat (first | exact Has.here | exact Has.sl_apd | exact Has.sl_own | exact Has.r_blk | apply Has.there)) (by repeat (first | exact Pick.here | apply Pick.there)) (by simp) rfl ?_)
  refine o_nil ?_
  refine c_seq ?_
  refine c_region ?_
  refine o_val (v_move rfl) (Nat.le_of_ble_eq_true rfl) ?_
  refine o_val (v_len_str Tryd.underlying9 rfl) (Nat.le_of_ble_eq_true rfl) ?_
  refine o_val (v_assign rfl) (Nat.le_of_ble_eq_true rfl) ?_
  refine o_val (v_assign rfl) (Nat.le_of_ble_eq_true rfl) ?_
  refine o_nil ?_
  refine c_ret2 Tryd.func37 rfl rfl rfl fun w O hS => ?_
  exact ⟨v1, rfl, trivial, Ent.get hS (Picks.ent (by repeat (first | exact Picks.nil | (apply Picks.cons; · repeat (first | exact Pick.keep (Sl.isDup _ _ _) | exact Pick.keep (BlkR.isDup _ _ _) | exact Pick.here | exact Pick.own_sl | exact Pick.apd_sl | exact Pick.r_blk | exact Pick.sl_nil | exact Pick.own_nil | apply Pick.there)))))⟩
set_option maxRecDepth 100000 in
theorem stringnil_con (b : Nat) (p : Option Addr) :
    Con Tryd.prog 38 [.pointer (some ⟨b, 0, none⟩)] [Blk b 49 [.pointer p, .slice none 0 0]] (γ := Unit) (fun _ => .string ByteArray.empty) (fun _ => True) (fun _ => []) := by
  refine con_of Tryd.func38 rfl (Nat.le_of_ble_eq_true rfl) fun w0 O0 => ?_
  refine c_seq ?_
  refine c_region ?_
  refine o_val (v_assign rfl) (Nat.le_of_ble_eq_true rfl) ?_
  refine o_nil ?_
  refine c_seq ?_
  refine c_held [BlkR b 49 [.pointer p, .slice none 0 0]] rfl ?_
  refine a_take 0 rfl (by kernel_rfl) (by kernel_rfl) (by kernel_rfl) (v_move rfl) (Picks.ent (by repeat (first | exact Picks.nil | (apply Picks.cons; · repeat (first | exact Pick.keep (Sl.isDup _ _ _) | exact Pick.keep (BlkR.isDup _ _ _) | exact Pick.here | exact Pick.own_sl | exact Pick.apd_sl | exact Pick.r_blk | exact Pick.sl_nil | exact Pick.own_nil | apply Pick.there))))) (Nat.le_of_ble_eq_true rfl) ?_
  refine a_take 1 rfl (by kernel_rfl) (by kernel_rfl) (by kernel_rfl) (v_nilCheck rfl) (Picks.ent (by repeat (first | exact Picks.nil | (apply Picks.cons; · repeat (first | exact Pick.keep (Sl.isDup _ _ _) | exact Pick.keep (BlkR.isDup _ _ _) | exact Pick.here | exact Pick.own_sl | exact Pick.apd_sl | exact Pick.r_blk | exact Pick.sl_nil | exact Pick.own_nil | apply Pick.there))))) (Nat.le_of_ble_eq_true rfl) ?_
  refine a_take 2 rfl (by kernel_rfl) (by kernel_rfl) (by kernel_rfl) (v_fieldAddr Tryd.underlying49 rfl ti47 (by decide) rfl) (Picks.ent (by repeat (first | exact Picks.nil | (apply Picks.cons; · repeat (first | exact Pick.keep (Sl.isDup _ _ _) | exact Pick.keep (BlkR.isDup _ _ _) | exact Pick.here | exact Pick.own_sl | exact Pick.apd_sl | exact Pick.r_blk | exact Pick.sl_nil | exact Pick.own_nil | apply Pick.there))))) (Nat.le_of_ble_eq_true rfl) ?_
  refine a_take 3 rfl (by kernel_rfl) (by kernel_rfl) (by kernel_rfl) (v_load lone47 rfl (by repeat (first | exact Has.here | exact Has.sl_apd | exact Has.sl_own | exact Has.r_blk | apply Has.there)) rfl) (Picks.ent (by repeat (first | exact Picks.nil | (apply Picks.cons; · repeat (first | exact Pick.keep (Sl.isDup _ _ _) | exact Pick.keep (BlkR.isDup _ _ _) | exact Pick.here | exact Pick.own_sl | exact Pick.apd_sl | exact Pick.r_blk | exact Pick.sl_nil | exact Pick.own_nil | apply Pick.there))))) (Nat.le_of_ble_eq_true rfl) ?_
  refine a_take 5 rfl (by kernel_rfl) (by kernel_rfl) (by kernel_rfl) (v_move rfl) (Picks.ent (by repeat (first | exact Picks.nil | (apply Picks.cons; · repeat (first | exact Pick.keep (Sl.isDup _ _ _) | exact Pick.keep (BlkR.isDup _ _ _) | exact Pick.here | exact Pick.own_sl | exact Pick.apd_sl | exact Pick.r_blk | exact Pick.sl_nil | exact Pick.own_nil | apply Pick.there))))) (Nat.le_of_ble_eq_true rfl) ?_
  refine a_take 6 rfl (by kernel_rfl) (by kernel_rfl) (by kernel_rfl) (v_nilCheck rfl) (Picks.ent (by repeat (first | exact Picks.nil | (apply Picks.cons; · repeat (first | exact Pick.keep (Sl.isDup _ _ _) | exact Pick.keep (BlkR.isDup _ _ _) | exact Pick.here | exact Pick.own_sl | exact Pick.apd_sl | exact Pick.r_blk | exact Pick.sl_nil | exact Pick.own_nil | apply Pick.there))))) (Nat.le_of_ble_eq_true rfl) ?_
  refine a_take 7 rfl (by kernel_rfl) (by kernel_rfl) (by kernel_rfl) (v_fieldAddr Tryd.underlying49 rfl ti47 (by decide) rfl) (Picks.ent (by repeat (first | exact Picks.nil | (apply Picks.cons; · repeat (first | exact Pick.keep (Sl.isDup _ _ _) | exact Pick.keep (BlkR.isDup _ _ _) | exact Pick.here | exact Pick.own_sl | exact Pick.apd_sl | exact Pick.r_blk | exact Pick.sl_nil | exact Pick.own_nil | apply Pick.there))))) (Nat.le_of_ble_eq_true rfl) ?_
  refine a_take 8 rfl (by kernel_rfl) (by kernel_rfl) (by kernel_rfl) (v_load lone47 rfl (by repeat (first | exact Has.here | exact Has.sl_apd | exact Has.sl_own | exact Has.r_blk | apply Has.there)) rfl) (Picks.ent (by repeat (first | exact Picks.nil | (apply Picks.cons; · repeat (first | exact Pick.keep (Sl.isDup _ _ _) | exact Pick.keep (BlkR.isDup _ _ _) | exact Pick.here | exact Pick.own_sl | exact Pick.apd_sl | exact Pick.r_blk | exact Pick.sl_nil | exact Pick.own_nil | apply Pick.there))))) (Nat.le_of_ble_eq_true rfl) ?_
  refine a_take 9 rfl (by kernel_rfl) (by kernel_rfl) (by kernel_rfl) ((by first | exact v_len_form Tryd.underlying47 rfl | exact v_len_sl Tryd.underlying47 rfl (by repeat (first | exact Has.here | exact Has.sl_apd | exact Has.sl_own | exact Has.r_blk | apply Has.there)))) (Picks.ent (by repeat (first | exact Picks.nil | (apply Picks.cons; · repeat (first | exact Pick.keep (Sl.isDup _ _ _) | exact Pick.keep (BlkR.isDup _ _ _) | exact Pick.here | exact Pick.own_sl | exact Pick.apd_sl | exact Pick.r_blk | exact Pick.sl_nil | exact Pick.own_nil | apply Pick.there))))) (Nat.le_of_ble_eq_true rfl) ?_
  refine a_take 4 rfl (by kernel_rfl) (by kernel_rfl) (by kernel_rfl) (v_sliceData_nil rfl) (Picks.ent (by repeat (first | exact Picks.nil | (apply Picks.cons; · repeat (first | exact Pick.keep (Sl.isDup _ _ _) | exact Pick.keep (BlkR.isDup _ _ _) | exact Pick.here | exact Pick.own_sl | exact Pick.apd_sl | exact Pick.r_blk | exact Pick.sl_nil | exact Pick.own_nil | apply Pick.there))))) (Nat.le_of_ble_eq_true rfl) ?_
  refine a_take 10 rfl (by kernel_rfl) (by kernel_rfl) (by kernel_rfl) (v_unsafeString_nil rfl rfl) (Picks.ent (by repeat (first | exact Picks.nil | (apply Picks.cons; · repeat (first | exact Pick.keep (Sl.isDup _ _ _) | exact Pick.keep (BlkR.isDup _ _ _) | exact Pick.here | exact Pick.own_sl | exact Pick.apd_sl | exact Pick.r_blk | exact Pick.sl_nil | exact Pick.own_nil | apply Pick.there))))) (Nat.le_of_ble_eq_true rfl) ?_
  refine a_take 11 rfl (by kernel_rfl) (by kernel_rfl) (by kernel_rfl) (v_assign rfl) (Picks.ent (by repeat (first | exact Picks.nil | (apply Picks.cons; · repeat (first | exact Pick.keep (Sl.isDup _ _ _) | exact Pick.keep (BlkR.isDup _ _ _) | exact Pick.here | exact Pick.own_sl | exact Pick.apd_sl | exact Pick.r_blk | exact Pick.sl_nil | exact Pick.own_nil | apply Pick.there))))) (Nat.le_of_ble_eq_true rfl) ?_
  refine a_done (by kernel_rfl) ?_ _
  refine c_ret1 Tryd.func38 rfl rfl fun w O hS => ?_
  exact ⟨(), rfl, trivial, trivial⟩
set_option maxRecDepth 100000 in
theorem string_con (b : Nat) (p : Option Addr) (v : Value) (l : List UInt8) (h0 : l ≠ []) :
    Con Tryd.prog 38 [.pointer (some ⟨b, 0, none⟩)] [Blk b 49 [.pointer p, v], Own eByte 5 v l] (γ := Unit) (fun _ => .string ⟨l.toArray⟩) (fun _ => True) (fun _ => []) := by
  have h1 : 1 ≤ l.length := by
    cases l with
    | nil => exact absurd rfl h0
    | cons => simp
  refine Con.own (v := v) (e := eByte) (T := 5) (xs := l) (by repeat (first | exact Has.here | exact Has.sl_apd | exact Has.sl_own | exact Has.r_blk | apply Has.there)) (fun _ h => absurd h h0) ?_
  rintro g c rfl hc
  refine con_of Tryd.func38 rfl (Nat.le_of_ble_eq_true rfl) fun w0 O0 => ?_
  refine c_seq ?_
  refine c_region ?_
  refine o_val (v_assign rfl) (Nat.le_of_ble_eq_true rfl) ?_
  refine o_nil ?_
  refine c_seq ?_
  refine c_held [BlkR b 49 [.pointer p, .slice (some ⟨g, 0, none⟩) l.length c]] rfl ?_
  refine a_take 0 rfl (by kernel_rfl) (by kernel_rfl) (by kernel_rfl) (v_move rfl) (Picks.ent (by repeat (first | exact Picks.nil | (apply Picks.cons; · repeat (first | exact Pick.keep (Sl.isDup _ _ _) | exact Pick.keep (BlkR.isDup _ _ _) | exact Pick.here | exact Pick.own_sl | exact Pick.apd_sl | exact Pick.r_blk | exact Pick.sl_nil | exact Pick.own_nil | apply Pick.there))))) (Nat.le_of_ble_eq_true rfl) ?_
  refine a_take 1 rfl (by kernel_rfl) (by kernel_rfl) (by kernel_rfl) (v_nilCheck rfl) (Picks.ent (by repeat (first | exact Picks.nil | (apply Picks.cons; · repeat (first | exact Pick.keep (Sl.isDup _ _ _) | exact Pick.keep (BlkR.isDup _ _ _) | exact Pick.here | exact Pick.own_sl | exact Pick.apd_sl | exact Pick.r_blk | exact Pick.sl_nil | exact Pick.own_nil | apply Pick.there))))) (Nat.le_of_ble_eq_true rfl) ?_
  refine a_take 2 rfl (by kernel_rfl) (by kernel_rfl) (by kernel_rfl) (v_fieldAddr Tryd.underlying49 rfl ti47 (by decide) rfl) (Picks.ent (by repeat (first | exact Picks.nil | (apply Picks.cons; · repeat (first | exact Pick.keep (Sl.isDup _ _ _) | exact Pick.keep (BlkR.isDup _ _ _) | exact Pick.here | exact Pick.own_sl | exact Pick.apd_sl | exact Pick.r_blk | exact Pick.sl_nil | exact Pick.own_nil | apply Pick.there))))) (Nat.le_of_ble_eq_true rfl) ?_
  refine a_take 3 rfl (by kernel_rfl) (by kernel_rfl) (by kernel_rfl) (v_load lone47 rfl (by repeat (first | exact Has.here | exact Has.sl_apd | exact Has.sl_own | exact Has.r_blk | apply Has.there)) rfl) (Picks.ent (by repeat (first | exact Picks.nil | (apply Picks.cons; · repeat (first | exact Pick.keep (Sl.isDup _ _ _) | exact Pick.keep (BlkR.isDup _ _ _) | exact Pick.here | exact Pick.own_sl | exact Pick.apd_sl | exact Pick.r_blk | exact Pick.sl_nil | exact Pick.own_nil | apply Pick.there))))) (Nat.le_of_ble_eq_true rfl) ?_
  refine a_take 5 rfl (by kernel_rfl) (by kernel_rfl) (by kernel_rfl) (v_move rfl) (Picks.ent (by repeat (first | exact Picks.nil | (apply Picks.cons; · repeat (first | exact Pick.keep (Sl.isDup _ _ _) | exact Pick.keep (BlkR.isDup _ _ _) | exact Pick.here | exact Pick.own_sl | exact Pick.apd_sl | exact Pick.r_blk | exact Pick.sl_nil | exact Pick.own_nil | apply Pick.there))))) (Nat.le_of_ble_eq_true rfl) ?_
  refine a_take 6 rfl (by kernel_rfl) (by kernel_rfl) (by kernel_rfl) (v_nilCheck rfl) (Picks.ent (by repeat (first | exact Picks.nil | (apply Picks.cons; · repeat (first | exact Pick.keep (Sl.isDup _ _ _) | exact Pick.keep (BlkR.isDup _ _ _) | exact Pick.here | exact Pick.own_sl | exact Pick.apd_sl | exact Pick.r_blk | exact Pick.sl_nil | exact Pick.own_nil | apply Pick.there))))) (Nat.le_of_ble_eq_true rfl) ?_
  refine a_take 7 rfl (by kernel_rfl) (by kernel_rfl) (by kernel_rfl) (v_fieldAddr Tryd.underlying49 rfl ti47 (by decide) rfl) (Picks.ent (by repeat (first | exact Picks.nil | (apply Picks.cons; · repeat (first | exact Pick.keep (Sl.isDup _ _ _) | exact Pick.keep (BlkR.isDup _ _ _) | exact Pick.here | exact Pick.own_sl | exact Pick.apd_sl | exact Pick.r_blk | exact Pick.sl_nil | exact Pick.own_nil | apply Pick.there))))) (Nat.le_of_ble_eq_true rfl) ?_
  refine a_take 8 rfl (by kernel_rfl) (by kernel_rfl) (by kernel_rfl) (v_load lone47 rfl (by repeat (first | exact Has.here | exact Has.sl_apd | exact Has.sl_own | exact Has.r_blk | apply Has.there)) rfl) (Picks.ent (by repeat (first | exact Picks.nil | (apply Picks.cons; · repeat (first | exact Pick.keep (Sl.isDup _ _ _) | exact Pick.keep (BlkR.isDup _ _ _) | exact Pick.here | exact Pick.own_sl | exact Pick.apd_sl | exact Pick.r_blk | exact Pick.sl_nil | exact Pick.own_nil | apply Pick.there))))) (Nat.le_of_ble_eq_true rfl) ?_
  refine a_take 9 rfl (by kernel_rfl) (by kernel_rfl) (by kernel_rfl) ((by first | exact v_len_form Tryd.underlying47 rfl | exact v_len_sl Tryd.underlying47 rfl (by repeat (first | exact Has.here | exact Has.sl_apd | exact Has.sl_own | exact Has.r_blk | apply Has.there)))) (Picks.ent (by repeat (first | exact Picks.nil | (apply Picks.cons; · repeat (first | exact Pick.keep (Sl.isDup _ _ _) | exact Pick.keep (BlkR.isDup _ _ _) | exact Pick.here | exact Pick.own_sl | exact Pick.apd_sl | exact Pick.r_blk | exact Pick.sl_nil | exact Pick.own_nil | apply Pick.there))))) (Nat.le_of_ble_eq_true rfl) ?_
  refine a_take 4 rfl (by kernel_rfl) (by kernel_rfl) (by kernel_rfl) (v_sliceData rfl (by omega)) (Picks.ent (by repeat (first | exact Picks.nil | (apply Picks.cons; · repeat (first | exact Pick.keep (Sl.isDup _ _ _) | exact Pick.keep (BlkR.isDup _ _ _) | exact Pick.here | exact Pick.own_sl | exact Pick.apd_sl | exact Pick.r_blk | exact Pick.sl_nil | exact Pick.own_nil | apply Pick.there))))) (Nat.le_of_ble_eq_true rfl) ?_
  refine a_one 10 rfl (by kernel_rfl) (s_unsafeString Tryd.underlying61 (by kernel_rfl) rfl rfl h0 (by repeat (first | exact Pick.keep (Sl.isDup _ _ _) | exact Pick.keep (BlkR.isDup _ _ _) | exact Pick.here | exact Pick.own_sl | exact Pick.apd_sl | exact Pick.r_blk | exact Pick.sl_nil | exact Pick.own_nil | apply Pick.there)) (Nat.le_of_ble_eq_true rfl) (a_on (Picks.ent (by repeat (first | exact Picks.nil | (apply Picks.cons; · repeat (first | exact Pick.keep (Sl.isDup _ _ _) | exact Pick.keep (BlkR.isDup _ _ _) | exact Pick.here | exact Pick.own_sl | exact Pick.apd_sl | exact Pick.r_blk | exact Pick.sl_nil | exact Pick.own_nil | apply Pick.there))))) ?_))
  refine a_take 11 rfl (by kernel_rfl) (by kernel_rfl) (by kernel_rfl) (v_assign rfl) (Picks.ent (by repeat (first | exact Picks.nil | (apply Picks.cons; · repeat (first | exact Pick.keep (Sl.isDup _ _ _) | exact Pick.keep (BlkR.isDup _ _ _) | exact Pick.here | exact Pick.own_sl | exact Pick.apd_sl | exact Pick.r_blk | exact Pick.sl_nil | exact Pick.own_nil | apply Pick.there))))) (Nat.le_of_ble_eq_true rfl) ?_
  refine a_done (by kernel_rfl) ?_ _
  refine c_ret1 Tryd.func38 rfl rfl fun w O hS => ?_
  exact ⟨(), rfl, trivial, trivial⟩

theorem text_step (xs : Ls) (i : Nat) (h : i < xs.length) : (textS (xs.take i)).data.toList ++ (xs[i] ++ nl).data.toList = (textS (xs.take (i + 1))).data.toList := by
  rw [textS_take h]
  simp
set_option maxRecDepth 100000 in
theorem text_con (v : Value) (xs : Ls) (hx : xs.length ≤ 1000000) (hs : (xs.map (·.size)).sum ≤ 1000000) :
    Con Tryd.prog 16 [v] [Sl eStr v xs] (γ := Unit) (fun _ => .string (textS xs)) (fun _ => True) (fun _ => []) := by
  refine con_of Tryd.func16 rfl (Nat.le_of_ble_eq_true rfl) fun w0 O0 => ?_
  refine c_seq ?_
  refine c_region ?_
  refine o_val (v_assign rfl) (Nat.le_of_ble_eq_true rfl) ?_
  refine o_nil ?_
  refine c_seq ?_
  refine c_region ?_
  refine o_step (s_alloc ti49 (Nat.le_of_ble_eq_true rfl) fun b => ?_)
  refine o_nil ?_
  refine c_seq ?_
  refine c_seq ?_
  refine c_region ?_
  refine o_val (v_move rfl) (Nat.le_of_ble_eq_true rfl) ?_
  refine o_val ((by first | exact v_len_form Tryd.underlying22 rfl | exact v_len_sl Tryd.underlying22 rfl (by repeat (first | exact Has.here | exact Has.sl_apd | exact Has.sl_own | exact Has.r_blk | apply Has.there)))) (Nat.le_of_ble_eq_true rfl) ?_
  refine o_val (v_move rfl) (Nat.le_of_ble_eq_true rfl) ?_
  refine o_nil ?_
  refine c_block ?_
  refine c_ent (Ent.beside (b := Own eByte 5 (.slice none 0 0) ([] : List UInt8)) (fun w O _ => Own.nil eByte 5 w _)) ?_
  refine c_loop (γ := Nat × Option Addr × Value) (fun g => xs.length - g.1) (fun g => g.1 ≤ xs.length ∧ (g.2.1 = none ∨ g.2.1 = some ⟨b, 0, none⟩) ∧ (g.1 = 0 → g.2.2 = .slice none 0 0)) (fun g => [(8, .int .i64 g.1), (7, .int .i64 xs.length), (6, v), (3, .pointer (some ⟨b, 0, none⟩))]) (fun g => [Sl eStr v xs, Blk b 49 [.pointer g.2.1, g.2.2], Own eByte 5 g.2.2 (textS (xs.take g.1)).data.toList]) (0, none, .slice none 0 0) ⟨Nat.zero_le _, .inl rfl, fun _ => rfl⟩ ⟨rfl, rfl, rfl, rfl, trivial⟩ (Picks.ent (by repeat (first | exact Picks.nil | (apply Picks.cons; · repeat (first | exact Pick.keep (Sl.isDup _ _ _) | exact Pick.keep (BlkR.isDup _ _ _) | exact Pick.here | exact Pick.own_sl | exact Pick.apd_sl | exact Pick.r_blk | exact Pick.sl_nil | exact Pick.own_nil | apply Pick.there))))) ?_
  rintro ⟨i, p, u⟩ ⟨hi, hp, hu⟩ IH
  dsimp only at *
  refine c_seq ?_
  refine c_region ?_
  refine o_val (v_lt rfl rfl) (Nat.le_of_ble_eq_true rfl) ?_
  refine o_nil ?_
  refine c_seq ?_
  have g1 : (textS (xs.take i)).size ≤ 2000000 := by
    rw [textS_size]
    have := sum_take_le (xs.map (·.size)) i
    rw [List.map_take, List.length_take]
    omega
  have g4 : (textS (xs.take i)).data.toList.length = (textS (xs.take i)).size := (Lib.size_eq _).symm
  refine c_cond_p rfl (fun hlt => ?_) (fun hlt => ?_)
  · have g2 : (xs[i]'(by omega)).size ≤ 1000000 := by
      have := size_le_sum (List.getElem_mem (show i < xs.length by omega))
      omega
    have g3 : (⟨#[10]⟩ : ByteArray).size = 1 := rfl
    refine c_skip ?_
    refine c_seq ?_
    refine c_block ?_
    refine c_seq ?_
    refine c_region ?_
    refine o_val ((by first | exact v_indexAddrN Tryd.underlying22 ti9 rfl rfl (by repeat (first | exact Has.here | exact Has.sl_apd | exact Has.sl_own | exact Has.r_blk | apply Has.there)) (by omega) | exact v_indexAddr Tryd.underlying22 ti9 rfl rfl (by repeat (first | exact Has.here | exact Has.sl_apd | exact Has.sl_own | exact Has.r_blk | apply Has.there)) (by omega))) (Nat.le_of_ble_eq_true rfl) ?_
    refine o_val (v_load_str lone9 rfl (by repeat (first | exact Elem.sl (List.getElem?_eq_getElem (by omega)) | exact Elem.own (List.getElem?_eq_getElem (by omega)) | apply Elem.there))) (Nat.le_of_ble_eq_true rfl) ?_
    refine o_val (v_assign rfl) (Nat.le_of_ble_eq_true rfl) ?_
    refine o_nil ?_
    refine c_region ?_
    refine o_val (v_move rfl) (Nat.le_of_ble_eq_true rfl) ?_
    refine o_val (v_cat rfl rfl (by first | omega | (simp only [ByteArray.size_append]; omega))) (Nat.le_of_ble_eq_true rfl) ?_
    refine o_step (s_callf cl37 (writestring_con b p u (textS (xs.take i)).data.toList (xs[i]'(by omega) ++ nl) hp (by rw [g4, ByteArray.size_append, show nl.size = 1 from rfl]; omega)) rfl (Nat.le_of_ble_eq_true rfl) (by repeat (first | exact Picks.nil | (apply Picks.cons; · repeat (first | exact Pick.keep (Sl.isDup _ _ _) | exact Pick.keep (BlkR.isDup _ _ _) | exact Pick.here | exact Pick.own_sl | exact Pick.apd_sl | exact Pick.r_blk | exact Pick.sl_nil | exact Pick.own_nil | apply Pick.there)))) fun u2 _ => ?_)
    refine o_nil ?_
    refine c_inBlock ?_
    refine c_region ?_
    refine o_val ((by first | exact v_add64 rfl rfl (by omega) | exact v_add rfl rfl)) (Nat.le_of_ble_eq_true rfl) ?_
    refine o_val (v_move rfl) (Nat.le_of_ble_eq_true rfl) ?_
    refine o_nil ?_
    rw [text_step xs i (by omega)]
    refine c_use (IH (i + 1, some ⟨b, 0, none⟩, u2) (by dsimp only; omega) ⟨by dsimp only; omega, .inr rfl, fun h => by dsimp only at h; omega⟩) ⟨rfl, rfl, rfl, rfl, trivial⟩ (Picks.ent (by repeat (first | exact Picks.nil | (apply Picks.cons; · repeat (first | exact Pick.keep (Sl.isDup _ _ _) | exact Pick.keep (BlkR.isDup _ _ _) | exact Pick.here | exact Pick.own_sl | exact Pick.apd_sl | exact Pick.r_blk | exact Pick.sl_nil | exact Pick.own_nil | apply Pick.there)))))
  · refine c_exit rfl ?_
    refine c_seq ?_
    refine c_region ?_
    have hi' : i = xs.length := by omega
    subst hi'
    cases xs with
    | nil =>
      obtain rfl := hu rfl
      refine o_step (s_callf cl38 (stringnil_con b p) rfl (Nat.le_of_ble_eq_true rfl) (by repeat (first | exact Picks.nil | (apply Picks.cons; · repeat (first | exact Pick.keep (Sl.isDup _ _ _) | exact Pick.keep (BlkR.isDup _ _ _) | exact Pick.here | exact Pick.own_sl | exact Pick.apd_sl | exact Pick.r_blk | exact Pick.sl_nil | exact Pick.own_nil | apply Pick.there)))) fun _ _ => ?_)
      refine o_val (v_assign rfl) (Nat.le_of_ble_eq_true rfl) ?_
      refine o_nil ?_
      refine c_ret1 Tryd.func16 rfl rfl fun w O hS => ?_
      exact ⟨(), rfl, trivial, trivial⟩
    | cons x xs =>
      rw [List.take_length]
      refine o_step (s_callf cl38 (string_con b p u (textS (x :: xs)).data.toList (by simp [textS, nl])) rfl (Nat.le_of_ble_eq_true rfl) (by repeat (first | exact Picks.nil | (apply Picks.cons; · repeat (first | exact Pick.keep (Sl.isDup _ _ _) | exact Pick.keep (BlkR.isDup _ _ _) | exact Pick.here | exact Pick.own_sl | exact Pick.apd_sl | exact Pick.r_blk | exact Pick.sl_nil | exact Pick.own_nil | apply Pick.there)))) fun _ _ => ?_)
      refine o_val (v_assign rfl) (Nat.le_of_ble_eq_true rfl) ?_
      refine o_nil ?_
      refine c_ret1 Tryd.func16 rfl rfl fun w O hS => ?_
      exact ⟨(), rfl, trivial, trivial⟩
end Go.Proofs.YtgokinfjlollpaaDoor

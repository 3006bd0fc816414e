import Derived.Test.YtgokinfjlollpaaDoorB3
namespace Go.Proofs.YtgokinfjlollpaaDoor
open Go Go.SL L01
attribute [local irreducible] Cfg Kont StepK Val Con Qops Any Sl Own Blk BlkR Rd Pu ExA AllA Has Pick Ent Elem Beside Callable TI Lone

abbrev GL (m : Int) : A := BlkR 0 3 [.int .i64 m]
theorem find_is {xs ps : Ls} {fr : Int} {r : Int} (h : IsFind xs ps fr r) {k : Int} (h1 : fr ≤ k) (h2 : Stands xs k ps) (h3 : ∀ a, fr ≤ a → a < k → ¬ Stands xs a ps) : r = k := by
  rcases h with ⟨rfl, h⟩ | ⟨g1, g2, g3⟩
  · exact absurd h2 (h k h1)
  · rcases Int.lt_trichotomy r k with h | h | h
    · exact absurd g2 (h3 r g1 h)
    · exact h
    · exact absurd h2 (g3 k h1 h)
theorem find_one {xs ps : Ls} {fr r s : Int} (h : IsFind xs ps fr r) (k : IsFind xs ps fr s) : r = s := by
  rcases k with ⟨rfl, h1⟩ | ⟨g1, g2, g3⟩
  · rcases h with ⟨rfl, _⟩ | ⟨k1, k2, _⟩
    · rfl
    · exact absurd k2 (h1 r k1)
  · exact find_is h g1 g2 g3
theorem head_one {xs ys : Ls} {i j : Nat} (h : IsHead xs ys i) (k : IsHead xs ys j) : i = j :=
  Nat.le_antisymm (k.2.2.2 i h.1 h.2.1 h.2.2.1) (h.2.2.2 j k.1 k.2.1 k.2.2.1)
theorem tail_one {xs ys : Ls} {i j : Nat} (h : IsTail xs ys i) (k : IsTail xs ys j) : i = j :=
  Nat.le_antisymm (k.2.2.2 i h.1 h.2.1 h.2.2.1) (h.2.2.2 j k.1 k.2.1 k.2.2.1)

def aL : Ls := [⟨#[97]⟩, ⟨#[]⟩, ⟨#[98]⟩]
def bL : Ls := [⟨#[97]⟩, ⟨#[120]⟩, ⟨#[121]⟩, ⟨#[98]⟩]
theorem alive_cut : cutS ⟨#[97, 10, 10, 98]⟩ = aL := by decide +kernel
theorem alive_stands : Stands aL 1 [⟨#[]⟩] := by decide +kernel
theorem alive_splice : aL.take 1 ++ [⟨#[120]⟩, ⟨#[121]⟩] ++ aL.drop 2 = bL := by decide +kernel
theorem alive_find (r : Int) (h : IsFind bL [⟨#[121]⟩, ⟨#[98]⟩] 0 r) : r = 2 :=
  find_is h (by decide) (by decide +kernel) fun a h1 h2 => by
    have : a = 0 ∨ a = 1 := by omega
    rcases this with rfl | rfl <;> decide +kernel
theorem alive_head (r : Nat) (h : IsHead aL bL r) : r = 1 := by
  refine head_one h ⟨by decide, by decide, by decide +kernel, fun k h1 h2 h3 => ?_⟩
  have hk : k ≤ 3 := h1
  rcases Nat.lt_or_ge 1 k with hk1 | hk1
  · exfalso
    have : k = 2 ∨ k = 3 := by omega
    rcases this with rfl | rfl <;> exact absurd h3 (by decide +kernel)
  · exact hk1
theorem alive_tail (r : Nat) (h : IsTail aL bL r) : r = 1 := by
  refine tail_one h ⟨by decide, by decide, by decide +kernel, fun k h1 h2 h3 => ?_⟩
  have hk : k ≤ 3 := h1
  rcases Nat.lt_or_ge 1 k with hk1 | hk1
  · exfalso
    have : k = 2 ∨ k = 3 := by omega
    rcases this with rfl | rfl <;> exact absurd h3 (by decide +kernel)
  · exact hk1

set_option maxRecDepth 100000 in
theorem alive_con (m : Int) : Con Tryd.prog 12 [] [GL m] (γ := Unit) (fun _ => .bool true) (fun _ => True) (fun _ => []) := by
  refine con_of Tryd.func12 rfl (Nat.le_of_ble_eq_true rfl) fun w0 O0 => ?_
  refine c_seq ?_
  refine c_region ?_
  refine o_val (v_assign rfl) (Nat.le_of_ble_eq_true rfl) ?_
  refine o_nil ?_
  refine c_seq ?_
  refine c_region ?_
  refine o_step (s_callf cl14 (cut_con ⟨#[97, 10, 10, 98]⟩ m (by decide)) rfl (Nat.le_of_ble_eq_true rfl) (by repeat (first | exact Picks.nil | (apply Picks.cons; · repeat (first | exact Pick.keep (Sl.isDup _ _ _) | exact Pick.keep (BlkR.isDup _ _ _) | exact Pick.here | exact Pick.own_sl | exact Pick.apd_sl | exact Pick.r_blk | exact Pick.sl_nil | exact Pick.own_nil | apply Pick.there)))) fun v1 _ => ?_)
  refine o_val (v_assign rfl) (Nat.le_of_ble_eq_true rfl) ?_
  refine o_nil ?_
  refine c_seq ?_
  refine c_region ?_
  refine o_val (v_move rfl) (Nat.le_of_ble_eq_true rfl) ?_
  rw [alive_cut]
  refine o_ent (L1 := [Sl eStr v1 aL]) (Picks.ent (by repeat (first | exact Picks.nil | (apply Picks.cons; · repeat (first | exact Pick.keep (Sl.isDup _ _ _) | exact Pick.keep (BlkR.isDup _ _ _) | exact Pick.here | exact Pick.own_sl | exact Pick.apd_sl | exact Pick.r_blk | exact Pick.sl_nil | exact Pick.own_nil | apply Pick.there))))) ?_
  refine o_step (s_buildSlice Tryd.underlying22 ti9 rfl rfl rfl (by decide) (by decide) (beside_str [⟨#[]⟩]) rfl rfl (Nat.le_of_ble_eq_true rfl) fun v2 => ?_)
  refine o_step (s_buildSlice Tryd.underlying22 ti9 rfl rfl rfl (by decide) (by decide) (beside_str [⟨#[120]⟩, ⟨#[121]⟩]) rfl rfl (Nat.le_of_ble_eq_true rfl) fun v3 => ?_)
  refine o_step (s_callf cl22 (splice_con v1 v2 v3 aL [⟨#[]⟩] [⟨#[120]⟩, ⟨#[121]⟩] 1 (by decide) (by decide) (by decide) (by decide)) rfl (Nat.le_of_ble_eq_true rfl) (by repeat (first | exact Picks.nil | (apply Picks.cons; · repeat (first | exact Pick.keep (Sl.isDup _ _ _) | exact Pick.keep (BlkR.isDup _ _ _) | exact Pick.here | exact Pick.own_sl | exact Pick.apd_sl | exact Pick.r_blk | exact Pick.sl_nil | exact Pick.own_nil | apply Pick.there)))) fun v4 _ => ?_)
  refine o_val (v_move rfl) (Nat.le_of_ble_eq_true rfl) ?_
  refine o_val (v_extract rfl rfl) (Nat.le_of_ble_eq_true rfl) ?_
  refine o_val (v_extract rfl rfl) (Nat.le_of_ble_eq_true rfl) ?_
  refine o_val (v_assign rfl) (Nat.le_of_ble_eq_true rfl) ?_
  refine o_val (v_assign rfl) (Nat.le_of_ble_eq_true rfl) ?_
  refine o_nil ?_
  refine c_seq ?_
  refine c_region ?_
  refine o_val (v_move rfl) (Nat.le_of_ble_eq_true rfl) ?_
  refine o_val ((by first | exact v_len_form Tryd.underlying22 rfl | exact v_len_sl Tryd.underlying22 rfl (by repeat (first | exact Has.here | exact Has.sl_apd | exact Has.sl_own | exact Has.r_blk | apply Has.there)))) (Nat.le_of_ble_eq_true rfl) ?_
  refine o_val (v_eq rfl rfl) (Nat.le_of_ble_eq_true rfl) ?_
  refine o_val (v_move rfl) (Nat.le_of_ble_eq_true rfl) ?_
  rw [if_pos alive_stands, show (1 : Int).toNat = 1 from rfl, show ([⟨#[]⟩] : Ls).length = 1 from rfl, alive_splice]
  refine o_ent (L1 := [Sl eStr v4 bL, Sl eStr v1 aL]) (Picks.ent (by repeat (first | exact Picks.nil | (apply Picks.cons; · repeat (first | exact Pick.keep (Sl.isDup _ _ _) | exact Pick.keep (BlkR.isDup _ _ _) | exact Pick.here | exact Pick.own_sl | exact Pick.apd_sl | exact Pick.r_blk | exact Pick.sl_nil | exact Pick.own_nil | apply Pick.there))))) ?_
  refine o_guard_t rfl rfl (fun _ => ?_) (fun h_ => absurd (rfl) h_)
  refine o_val (v_move rfl) (Nat.le_of_ble_eq_true rfl) ?_
  refine o_on rfl rfl ?_
  refine o_val ((by first | exact v_indexAddrN Tryd.underlying22 ti9 rfl rfl (by repeat (first | exact Has.here | exact Has.sl_apd | exact Has.sl_own | exact Has.r_blk | apply Has.there)) (by omega) | exact v_indexAddr Tryd.underlying22 ti9 rfl rfl (by repeat (first | exact Has.here | exact Has.sl_apd | exact Has.sl_own | exact Has.r_blk | apply Has.there)) (by omega))) (Nat.le_of_ble_eq_true rfl) ?_
  refine o_on rfl rfl ?_
  refine o_val (v_load_str lone9 rfl (by repeat (first | exact Elem.sl (List.getElem?_eq_getElem (by omega)) | exact Elem.own (List.getElem?_eq_getElem (by omega)) | apply Elem.there))) (Nat.le_of_ble_eq_true rfl) ?_
  refine o_on rfl rfl ?_
  refine o_val (v_seq rfl rfl) (Nat.le_of_ble_eq_true rfl) ?_
  refine o_val (v_pick_t rfl rfl) (Nat.le_of_ble_eq_true rfl) ?_
  refine o_val (v_move rfl) (Nat.le_of_ble_eq_true rfl) ?_
  refine o_guard_t rfl rfl (fun _ => ?_) (fun h_ => absurd (rfl) h_)
  refine o_val (v_move rfl) (Nat.le_of_ble_eq_true rfl) ?_
  refine o_on rfl rfl ?_
  refine o_step (s_callf cl16 (text_con v1 aL (by decide) (by decide)) rfl (Nat.le_of_ble_eq_true rfl) (by repeat (first | exact Picks.nil | (apply Picks.cons; · repeat (first | exact Pick.keep (Sl.isDup _ _ _) | exact Pick.keep (BlkR.isDup _ _ _) | exact Pick.here | exact Pick.own_sl | exact Pick.apd_sl | exact Pick.r_blk | exact Pick.sl_nil | exact Pick.own_nil | apply Pick.there)))) fun _ _ => ?_)
  refine o_on rfl rfl ?_
  refine o_val (v_seq rfl rfl) (Nat.le_of_ble_eq_true rfl) ?_
  refine o_val (v_pick_t rfl rfl) (Nat.le_of_ble_eq_true rfl) ?_
  refine o_val (v_move rfl) (Nat.le_of_ble_eq_true rfl) ?_
  refine o_guard_t rfl rfl (fun _ => ?_) (fun h_ => absurd (by decide +kernel) h_)
  refine o_val (v_move rfl) (Nat.le_of_ble_eq_true rfl) ?_
  refine o_val (v_pick_t rfl rfl) (Nat.le_of_ble_eq_true rfl) ?_
  refine o_val (v_move rfl) (Nat.le_of_ble_eq_true rfl) ?_
  refine o_guard_t rfl rfl (fun _ => ?_) (fun h_ => absurd (alive_stands) h_)
  refine o_val (v_move rfl) (Nat.le_of_ble_eq_true rfl) ?_
  refine o_on rfl rfl ?_
  refine o_step (s_buildSlice Tryd.underlying22 ti9 rfl rfl rfl (by decide) (by decide) (beside_str [⟨#[97]⟩, ⟨#[120]⟩, ⟨#[121]⟩, ⟨#[98]⟩]) rfl rfl (Nat.le_of_ble_eq_true rfl) fun v5 => ?_)
  refine o_on rfl rfl ?_
  refine o_step (s_callf cl13 (same_con v4 v5 bL bL (by decide) (by decide)) rfl (Nat.le_of_ble_eq_true rfl) (by repeat (first | exact Picks.nil | (apply Picks.cons; · repeat (first | exact Pick.keep (Sl.isDup _ _ _) | exact Pick.keep (BlkR.isDup _ _ _) | exact Pick.here | exact Pick.own_sl | exact Pick.apd_sl | exact Pick.r_blk | exact Pick.sl_nil | exact Pick.own_nil | apply Pick.there)))) fun _ _ => ?_)
  refine o_val (v_pick_t rfl rfl) (Nat.le_of_ble_eq_true rfl) ?_
  refine o_val (v_move rfl) (Nat.le_of_ble_eq_true rfl) ?_
  refine o_guard_t rfl rfl (fun _ => ?_) (fun h_ => absurd (rfl) h_)
  refine o_val (v_move rfl) (Nat.le_of_ble_eq_true rfl) ?_
  refine o_on rfl rfl ?_
  refine o_step (s_buildSlice Tryd.underlying22 ti9 rfl rfl rfl (by decide) (by decide) (beside_str [⟨#[121]⟩, ⟨#[98]⟩]) rfl rfl (Nat.le_of_ble_eq_true rfl) fun v6 => ?_)
  refine o_on rfl rfl ?_
  refine o_step (s_callf cl25 (find_con v4 v6 bL [⟨#[121]⟩, ⟨#[98]⟩] 0 (by decide) (by decide) (by decide)) rfl (Nat.le_of_ble_eq_true rfl) (by repeat (first | exact Picks.nil | (apply Picks.cons; · repeat (first | exact Pick.keep (Sl.isDup _ _ _) | exact Pick.keep (BlkR.isDup _ _ _) | exact Pick.here | exact Pick.own_sl | exact Pick.apd_sl | exact Pick.r_blk | exact Pick.sl_nil | exact Pick.own_nil | apply Pick.there)))) fun r1 hr1 => ?_)
  refine o_on rfl rfl ?_
  refine o_val (v_eq rfl rfl) (Nat.le_of_ble_eq_true rfl) ?_
  refine o_val (v_pick_t rfl rfl) (Nat.le_of_ble_eq_true rfl) ?_
  refine o_val (v_move rfl) (Nat.le_of_ble_eq_true rfl) ?_
  refine o_guard_t rfl rfl (fun _ => ?_) (fun h_ => absurd (alive_find _ hr1) h_)
  refine o_val (v_move rfl) (Nat.le_of_ble_eq_true rfl) ?_
  refine o_on rfl rfl ?_
  refine o_val (v_move rfl) (Nat.le_of_ble_eq_true rfl) ?_
  refine o_on rfl rfl ?_
  refine o_step (s_callf cl27 (head_con v1 v4 aL bL (by decide) (by decide)) rfl (Nat.le_of_ble_eq_true rfl) (by repeat (first | exact Picks.nil | (apply Picks.cons; · repeat (first | exact Pick.keep (Sl.isDup _ _ _) | exact Pick.keep (BlkR.isDup _ _ _) | exact Pick.here | exact Pick.own_sl | exact Pick.apd_sl | exact Pick.r_blk | exact Pick.sl_nil | exact Pick.own_nil | apply Pick.there)))) fun r2 hr2 => ?_)
  refine o_on rfl rfl ?_
  refine o_val (v_eq rfl rfl) (Nat.le_of_ble_eq_true rfl) ?_
  refine o_val (v_pick_t rfl rfl) (Nat.le_of_ble_eq_true rfl) ?_
  refine o_val (v_move rfl) (Nat.le_of_ble_eq_true rfl) ?_
  refine o_guard_t rfl rfl (fun _ => ?_) (fun h_ => absurd (by have := alive_head _ hr2; omega) h_)
  refine o_val (v_move rfl) (Nat.le_of_ble_eq_true rfl) ?_
  refine o_on rfl rfl ?_
  refine o_val (v_move rfl) (Nat.le_of_ble_eq_true rfl) ?_
  refine o_on rfl rfl ?_
  refine o_step (s_callf cl29 (tail_con v1 v4 aL bL (by decide) (by decide)) rfl (Nat.le_of_ble_eq_true rfl) (by repeat (first | exact Picks.nil | (apply Picks.cons; · repeat (first | exact Pick.keep (Sl.isDup _ _ _) | exact Pick.keep (BlkR.isDup _ _ _) | exact Pick.here | exact Pick.own_sl | exact Pick.apd_sl | exact Pick.r_blk | exact Pick.sl_nil | exact Pick.own_nil | apply Pick.there)))) fun r3 hr3 => ?_)
  refine o_on rfl rfl ?_
  refine o_val (v_eq rfl rfl) (Nat.le_of_ble_eq_true rfl) ?_
  refine o_val (v_pick_t rfl rfl) (Nat.le_of_ble_eq_true rfl) ?_
  refine o_val (v_move rfl) (Nat.le_of_ble_eq_true rfl) ?_
  refine o_guard_t rfl rfl (fun _ => ?_) (fun h_ => absurd (by have := alive_tail _ hr3; omega) h_)
  refine o_step (s_callf cl18 (right_con ⟨#[97]⟩) rfl (Nat.le_of_ble_eq_true rfl) (by repeat (first | exact Picks.nil | (apply Picks.cons; · repeat (first | exact Pick.keep (Sl.isDup _ _ _) | exact Pick.keep (BlkR.isDup _ _ _) | exact Pick.here | exact Pick.own_sl | exact Pick.apd_sl | exact Pick.r_blk | exact Pick.sl_nil | exact Pick.own_nil | apply Pick.there)))) fun _ _ => ?_)
  refine o_val (v_pick_t rfl rfl) (Nat.le_of_ble_eq_true rfl) ?_
  refine o_val (v_move rfl) (Nat.le_of_ble_eq_true rfl) ?_
  refine o_guard_t rfl rfl (fun _ => ?_) (fun h_ => absurd (by decide +kernel) h_)
  refine o_step (s_callf cl18 (right_con ⟨#[10]⟩) rfl (Nat.le_of_ble_eq_true rfl) (by repeat (first | exact Picks.nil | (apply Picks.cons; · repeat (first | exact Pick.keep (Sl.isDup _ _ _) | exact Pick.keep (BlkR.isDup _ _ _) | exact Pick.here | exact Pick.own_sl | exact Pick.apd_sl | exact Pick.r_blk | exact Pick.sl_nil | exact Pick.own_nil | apply Pick.there)))) fun _ _ => ?_)
  refine o_on rfl rfl ?_
  refine o_val (v_not rfl) (Nat.le_of_ble_eq_true rfl) ?_
  refine o_val (v_pick_t rfl rfl) (Nat.le_of_ble_eq_true rfl) ?_
  refine o_val (v_move rfl) (Nat.le_of_ble_eq_true rfl) ?_
  refine o_guard rfl rfl (fun _ => ?_) (fun h_ => absurd ((show _ = true from by decide +kernel).symm.trans h_) (by decide))
  refine o_val (v_move rfl) (Nat.le_of_ble_eq_true rfl) ?_
  refine o_on rfl rfl ?_
  refine o_step (s_callf cl20 (all_con v1 aL (by decide)) rfl (Nat.le_of_ble_eq_true rfl) (by repeat (first | exact Picks.nil | (apply Picks.cons; · repeat (first | exact Pick.keep (Sl.isDup _ _ _) | exact Pick.keep (BlkR.isDup _ _ _) | exact Pick.here | exact Pick.own_sl | exact Pick.apd_sl | exact Pick.r_blk | exact Pick.sl_nil | exact Pick.own_nil | apply Pick.there)))) fun _ _ => ?_)
  refine o_val (v_pick_t rfl rfl) (Nat.le_of_ble_eq_true rfl) ?_
  refine o_val (v_assign rfl) (Nat.le_of_ble_eq_true rfl) ?_
  refine o_nil ?_
  refine c_ret1 Tryd.func12 rfl rfl fun w O hS => ?_
  exact ⟨(), congrArg Value.bool (show decide (∀ x ∈ aL, RightS x) = true by decide +kernel), trivial, trivial⟩
end Go.Proofs.YtgokinfjlollpaaDoor

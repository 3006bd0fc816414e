/- CodeBack: where what its arguments hold is no more than the card's bound, it returns true, and its arguments read behind the call as before. Conditions: the listed variables are laid as the card ties them. -/
import Derived.Test.YtmgkeippepeggaaGreatDoorZY8
import Derived.Test.YtmgkeippepeggaaGreatDoorRows
import Derived.Test.YtmgkeippepeggaaGreatDoorCards
import Derived.Test.YtmgkeippepeggaaGreatDoorTie
set_option linter.unusedVariables false
set_option linter.unusedSimpArgs false
/- Chapter 09: the program's reader: numbers. -/
namespace Go.Proofs.YtmgkeippepeggaaGreatDoor
open Go Go.SL Go.Lib
attribute [local irreducible] Cfg Kont StepK Val Con Qops Any Sl Own Blk BlkR Rd Pu ExA AllA Has Pick Ent Elem Beside Callable TI Lone OwnO AndA
set_option maxRecDepth 100000 in
theorem someI1_con (i b3 b4 b5 b7 : Nat) (bv : Value) (s : St9) (most : Int) (te : TypeId) (pe : Value) : Con Tryz.prog 113 [ptr b3, ptr b4, ptr b7, ptr b5] [BlkR b3 40 [ptr i], BlkR b4 3 [.int .i64 most], Blk b7 32 [.slice none 0 0], BlkR b5 42 [.func (.func 14) #[ptr i] #[]], Blk i 92 [bv, .bool s.2], Sl eByte bv s.1, G1 te pe, G3] (γ := Value × Value) (fun g => g.2) (fun _ => True) (fun g => [Blk i 92 [g.1, .bool (somR takeNum most s).1.2], Sl eByte g.1 (somR takeNum most s).1.1, Own (eInt .i64) 3 g.2 (somR takeNum most s).2]) := by
  have hfar := num_far (s := s)
  have hN := inNum_con i bv s te pe
  unfold somR
  obtain ⟨s1, n, hn⟩ : ∃ s1 n, takeNum s = (s1, n) := ⟨_, _, rfl⟩
  rw [hn] at hN hfar ⊢
  dsimp only at hN hfar ⊢
  unfold far9 at hfar
  refine con_of Tryz.func113 rfl (dd rfl) fun w0 O0 => ?_
  refine c_seq ?_
  refine c_region ?_
  refine o_val (v_assign rfl) (dd rfl) ?_
  refine o_nil ?_
  refine c_seq ?_
  refine c_region ?_
  refine o_val (v_load lone40 rfl (hX (by repeat constructor)) rfl) (dd rfl) ?_
  refine o_step (s_callf cl14 (hN) rfl (dd rfl) (pXs (by repeat constructor)) fun v1 _ => ?_)
  refine o_val (v_assign rfl) (dd rfl) ?_
  refine o_nil ?_
  refine c_seq ?_
  refine c_seq ?_
  refine c_env (env' := [(0, _), (1, _), (2, _), (3, _), (4, _), (5, _)]) (by repeat (first | exact trivial | refine ⟨rfl, ?_⟩)) ?_
  refine c_joinb (d := 15) (decide (n < 0 ∨ most < n)) ?_ ?_
  rotate_left
  · intro J
    refine c_region ?_
    refine o_val (v_move rfl) (dd rfl) ?_
    refine o_val (v_lt rfl rfl) (dd rfl) ?_
    refine o_val (v_move rfl) (dd rfl) ?_
    first | refine o_guard_f rfl rfl (fun g11 => ?_) (fun g11 => ?_) | refine o_guard rfl rfl (fun g11 => ?_) (fun g11 => ?_)
    · refine o_val (v_move rfl) (dd rfl) ?_
      refine o_on rfl rfl ?_
      refine o_val (v_load lone3 rfl (hX (by repeat constructor)) rfl) (dd rfl) ?_
      refine o_on rfl rfl ?_
      refine o_val (v_gt rfl rfl) (dd rfl) ?_
      refine o_val (v_pick_f rfl rfl) (dd rfl) ?_
      refine o_nil ?_
      exact c_use J ⟨Env.as rfl (congrArg Value.bool (by first | rfl | (simp_all; done) | (simp_all; omega) | (simp; omega))), (by repeat (first | exact trivial | refine ⟨rfl, ?_⟩))⟩ (by first | exact Ent.refl _ | exact eX (by repeat constructor))
    · refine o_off rfl rfl rfl (dd rfl) ?_
      refine o_off rfl rfl rfl (dd rfl) ?_
      refine o_off rfl rfl rfl (dd rfl) ?_
      refine o_val (v_pick_t rfl rfl) (dd rfl) ?_
      refine o_nil ?_
      exact c_use J ⟨Env.as rfl (congrArg Value.bool (by first | rfl | (simp_all; done) | (simp_all; omega) | (simp; omega))), (by repeat (first | exact trivial | refine ⟨rfl, ?_⟩))⟩ (by first | exact Ent.refl _ | exact eX (by repeat constructor))
  obtain ⟨s2, hs2⟩ : ∃ s2, s2 = (if n < 0 ∨ most < n then spoil9 s1 else s1) := ⟨_, rfl⟩
  rw [← hs2]
  refine c_joinR (γ := Unit) [(0, _), (2, _), (3, _), (4, _), (5, _)] (fun _ => True) (fun _ => []) (fun _ => [BlkR b3 40 [ptr i], BlkR b4 3 [.int .i64 most], Blk b7 32 [.slice none 0 0], BlkR b5 42 [.func (.func 14) #[ptr i] #[]], Blk i 92 [v1, .bool s2.2], Sl eByte v1 s2.1, G1 te pe, G3]) (by repeat (first | exact trivial | refine ⟨rfl, ?_⟩)) ?_ ?_
  rotate_left
  · intro MEET
    skip
    refine c_cond_p rfl (fun hq => ?_) (fun hq => ?_)
    · have e2 : s2 = (s1.1, true) := by rw [hs2, if_pos hq]; rfl
      subst e2
      refine c_region ?_
      refine o_val (v_load lone40 rfl (hX (by repeat constructor)) rfl) (dd rfl) ?_
      refine o_val (v_nilCheck rfl) (dd rfl) ?_
      refine o_val (v_fieldAddrC 1 Tryz.underlying92 rfl ti4 (by decide) rfl) (dd rfl) ?_
      refine o_step (s_store1 ti4 rfl rfl (by first | exact OneC.lit rfl | exact OneC.sl (hX (by repeat constructor)) ) (pB (by repeat constructor)) (by first | decide | exact Nat.le_of_ble_eq_true rfl | simp) (by first | (dsimp only [List.set_cons_succ, List.set_cons_zero]; first | done | exact rfl) | rfl) (?_))
      refine o_nil ?_
      refine c_use (MEET (()) (trivial)) (by repeat (first | exact trivial | refine ⟨rfl, ?_⟩)) (eX (by repeat constructor))
    · have e2 : s2 = s1 := by rw [hs2, if_neg hq]
      subst e2
      refine c_skip ?_
      refine c_use (MEET (()) (trivial)) (by repeat (first | exact trivial | refine ⟨rfl, ?_⟩)) (eX (by repeat constructor))
  rintro ⟨⟩ -
  dsimp only [List.cons_append, List.nil_append]
  refine c_seq ?_
  refine c_seq ?_
  refine c_region ?_
  refine o_val (v_assign rfl) (dd rfl) ?_
  refine o_nil ?_
  refine c_block ?_
  refine c_loopR (γ := Nat × St9 × List Int × Value × Value) [(0, _), (2, _), (3, _), (4, _), (5, _)] (fun g => n.toNat - g.1) (fun g => g.1 ≤ n.toNat ∧ g.2.2.1.length ≤ g.1 ∧ takeMany takeNum (n.toNat - g.1) g.2.1 g.2.2.1 = takeMany takeNum n.toNat s2 []) (fun g => [(6, .int .i64 g.1)]) (fun g => [BlkR b3 40 [ptr i], BlkR b5 42 [.func (.func 14) #[ptr i] #[]], Blk b7 32 [g.2.2.2.2], Own (eInt .i64) 3 g.2.2.2.2 g.2.2.1, Blk i 92 [g.2.2.2.1, .bool g.2.1.2], Sl eByte g.2.2.2.1 g.2.1.1, G1 te pe, G3]) ((0, s2, [], v1, .slice none 0 0)) (⟨Nat.zero_le _, Nat.le_refl _, rfl⟩) (by repeat (first | exact trivial | refine ⟨rfl, ?_⟩)) (eX (by repeat constructor)) ?_
  rintro ⟨k, sk, out, r, v⟩ ⟨hk, hlk, hTk⟩ IH
  dsimp only at hk hlk hTk ⊢
  try dsimp only [List.cons_append, List.nil_append]
  refine c_seq ?_
  refine c_seq ?_
  refine c_env (env' := [(0, _), (2, _), (3, _), (4, _), (5, _), (6, _)]) (by repeat (first | exact trivial | refine ⟨rfl, ?_⟩)) ?_
  refine c_joinb (d := 28) (decide ((k : Int) < n ∧ sk.2 = false)) ?_ ?_
  rotate_left
  · intro J
    refine c_region ?_
    refine o_val (v_move rfl) (dd rfl) ?_
    refine o_val (v_move rfl) (dd rfl) ?_
    refine o_val (v_lt rfl rfl) (dd rfl) ?_
    refine o_val (v_move rfl) (dd rfl) ?_
    first | refine o_guard_t rfl rfl (fun g22 => ?_) (fun g22 => ?_) | refine o_guard rfl rfl (fun g22 => ?_) (fun g22 => ?_)
    · refine o_val (v_load lone40 rfl (hX (by repeat constructor)) rfl) (dd rfl) ?_
      refine o_on rfl rfl ?_
      refine o_val (v_nilCheck rfl) (dd rfl) ?_
      refine o_on rfl rfl ?_
      refine o_val (v_fieldAddrC 1 Tryz.underlying92 rfl ti4 (by decide) rfl) (dd rfl) ?_
      refine o_on rfl rfl ?_
      refine o_val (v_load lone4 rfl (hX (by repeat constructor)) rfl) (dd rfl) ?_
      refine o_on rfl rfl ?_
      refine o_val (v_not rfl) (dd rfl) ?_
      refine o_val (v_pick_t rfl rfl) (dd rfl) ?_
      refine o_nil ?_
      exact c_use J ⟨Env.as rfl (congrArg Value.bool (by first | rfl | (simp_all; done) | (simp_all; omega))), (by repeat (first | exact trivial | refine ⟨rfl, ?_⟩))⟩ (by first | exact Ent.refl _ | exact eX (by repeat constructor))
    · refine o_off rfl rfl rfl (dd rfl) ?_
      refine o_off rfl rfl rfl (dd rfl) ?_
      refine o_off rfl rfl rfl (dd rfl) ?_
      refine o_off rfl rfl rfl (dd rfl) ?_
      refine o_off rfl rfl rfl (dd rfl) ?_
      refine o_val (v_pick_f rfl rfl) (dd rfl) ?_
      refine o_nil ?_
      exact c_use J ⟨Env.as rfl (congrArg Value.bool (by first | rfl | (simp_all; done) | (simp_all; omega))), (by repeat (first | exact trivial | refine ⟨rfl, ?_⟩))⟩ (by first | exact Ent.refl _ | exact eX (by repeat constructor))
  refine c_cond_p rfl (fun hlt => ?_) (fun hlt => ?_)
  · have hst := takeMany_step takeNum (n := n.toNat) (k := k) (out := out) (by omega) hlt.2
    refine c_skip ?_
    refine c_seq ?_
    refine c_block ?_
    refine c_heldk 5 [Blk b7 32 [v], BlkR b5 42 [.func (.func 14) #[ptr i] #[]]] rfl ?_
    refine k_take 0 rfl (by kernel_rfl) (by kernel_rfl) (by kernel_rfl) rfl (by kernel_rfl) (v_load lone32 rfl (hX (by repeat constructor)) rfl) (eX (by repeat constructor)) (dd rfl) ?_
    refine k_take 1 rfl (by kernel_rfl) (by kernel_rfl) (by kernel_rfl) rfl (by kernel_rfl) (v_load lone42 rfl (hX (by repeat constructor)) rfl) (eX (by repeat constructor)) (dd rfl) ?_
    refine k_one 2 rfl (by kernel_rfl) fun hc_ => (s_call cl14 (inNum_con i r sk te pe) (first := [ptr i]) (cap := []) rfl rfl (by rfl) (dd rfl) (pXs (by repeat constructor)) (fun w2 _ => k_on hc_ (eX (by repeat constructor)) ?_))
    refine k_one 3 rfl (by kernel_rfl) fun hc_ => (s_buildSlice Tryz.underlying32 ti3 rfl rfl rfl (by decide) (by decide) (beside_int .i64 [(takeNum sk).2]) rfl rfl (dd rfl) (fun v2 => k_on hc_ (eX (by repeat constructor)) ?_))
    refine k_one 4 rfl (by kernel_rfl) fun hc_ => (s_append Tryz.underlying32 ti3 rfl (by decide) rfl rfl (dd rfl) (pB (by repeat constructor)) (pX (by repeat constructor)) rfl (by (first | omega | (simp only [maxLen, List.length_append, List.length_drop, List.length_take, List.length_nil, List.length_cons]; omega))) (by (first | omega | (simp only [maxLen, List.length_append, List.length_drop, List.length_take, List.length_nil, List.length_cons]; omega))) (fun v3 => k_on hc_ (eX (by repeat constructor)) ?_))
    refine k_one 5 rfl (by kernel_rfl) fun hc_ => (s_store1 ti32 rfl rfl (by first | exact OneC.lit rfl | exact OneC.sl (hX (by repeat constructor)) ) (pB (by repeat constructor)) (by first | decide | exact Nat.le_of_ble_eq_true rfl | simp) (by first | (dsimp only [List.set_cons_succ, List.set_cons_zero]; first | done | exact rfl) | rfl) (k_last hc_ (by kernel_rfl) ?_))
    refine k_done (by kernel_rfl) ?_ _
    refine c_inBlock ?_
    refine c_region ?_
    refine o_val (v_move rfl) (dd rfl) ?_
    refine o_val ((by first | exact v_add64 rfl rfl (by omega) | exact v_add rfl rfl)) (dd rfl) ?_
    refine o_val (v_assign rfl) (dd rfl) ?_
    refine o_nil ?_
    refine c_use (IH ((k + 1, (takeNum sk).1, out ++ [(takeNum sk).2], w2, v3)) (by first | omega | (dsimp only; omega)) (⟨by dsimp only; omega, by simp; omega, hst.symm.trans hTk⟩)) (by repeat (first | exact trivial | refine ⟨rfl, ?_⟩)) (eX (by repeat constructor))
  · have hend : takeMany takeNum (n.toNat - k) sk out = (sk, out) := by
      cases hb : sk.2 with
      | true => exact takeMany_bad _ _ _ _ hb
      | false => exact takeMany_end _ (by have : ¬ (k : Int) < n := fun q => hlt ⟨q, hb⟩; omega)
    refine c_exit rfl ?_
    refine c_seq ?_
    refine c_region ?_
    refine o_val (v_load lone32 rfl (hX (by repeat constructor)) rfl) (dd rfl) ?_
    refine o_val (v_assign rfl) (dd rfl) ?_
    refine o_nil ?_
    refine c_ret1 Tryz.func113 rfl rfl fun w O hS => ?_
    exact ⟨(r, v), rfl, trivial, by rw [← hTk, hend]; exact Ent.get hS (eX (by repeat constructor))⟩
set_option maxRecDepth 100000 in
theorem alwaysI_con (v : Value) : Con Tryz.prog 115 [v] [] (γ := Unit) (fun _ => .bool true) (fun _ => True) (fun _ => []) := by
  refine con_of Tryz.func115 rfl (dd rfl) fun w0 O0 => ?_
  refine c_seq ?_
  refine c_region ?_
  refine o_val (v_assign rfl) (dd rfl) ?_
  refine o_nil ?_
  refine c_seq ?_
  refine c_region ?_
  refine o_val (v_assign rfl) (dd rfl) ?_
  refine o_nil ?_
  refine c_ret1 Tryz.func115 rfl rfl fun w O hS => ?_
  exact ⟨(), rfl, trivial, trivial⟩
set_option maxRecDepth 100000 in
theorem wholeI_con (i b3 b4 b5 b7 : Nat) (bv : Value) (s : St9) (most : Int) (te : TypeId) (pe : Value) : Con Tryz.prog 114 [ptr i, .func (.func 113) #[] #[ptr b3, ptr b4, ptr b7, ptr b5], .func (.func 115) #[] #[]] [BlkR b3 40 [ptr i], BlkR b4 3 [.int .i64 most], Blk b7 32 [.slice none 0 0], BlkR b5 42 [.func (.func 14) #[ptr i] #[]], Blk i 92 [bv, .bool s.2], Sl eByte bv s.1, G1 te pe, G3] (γ := Value × Value) (fun g => g.2) (fun _ => True) (fun g => [Blk i 92 [g.1, .bool (takeSome takeNum most s).1.2], Sl eByte g.1 (takeSome takeNum most s).1.1, Own (eInt .i64) 3 g.2 (takeSome takeNum most s).2]) := by
  have h1 := someI1_con i b3 b4 b5 b7 bv s most te pe
  have h2 := fun v => alwaysI_con v
  rw [some_as]
  refine con_of Tryz.func114 rfl (dd rfl) fun w0 O0 => ?_
  refine c_seq ?_
  refine c_region ?_
  refine o_val (v_assign rfl) (dd rfl) ?_
  refine o_nil ?_
  refine c_seq ?_
  refine c_region ?_
  refine o_val (v_move rfl) (dd rfl) ?_
  refine o_val (v_nilCheck rfl) (dd rfl) ?_
  refine o_val (v_fieldAddrC 0 Tryz.underlying92 rfl ti25 (by decide) rfl) (dd rfl) ?_
  refine o_val (v_load lone25 rfl (hX (by repeat constructor)) rfl) (dd rfl) ?_
  refine o_val (v_assign rfl) (dd rfl) ?_
  refine o_nil ?_
  refine c_seq ?_
  refine c_region ?_
  refine o_val (v_move rfl) (dd rfl) ?_
  refine o_step (s_call cl113 (h1) (first := []) (cap := [ptr b3, ptr b4, ptr b7, ptr b5]) rfl rfl (by rfl) (dd rfl) (pXs (by repeat constructor)) fun g _ => ?_)
  refine o_val (v_assign rfl) (dd rfl) ?_
  refine o_nil ?_
  refine c_seq ?_
  refine c_seq ?_
  refine c_region ?_
  refine o_val (v_move rfl) (dd rfl) ?_
  refine o_val (v_nilCheck rfl) (dd rfl) ?_
  refine o_val (v_fieldAddrC 1 Tryz.underlying92 rfl ti4 (by decide) rfl) (dd rfl) ?_
  refine o_val (v_load lone4 rfl (hX (by repeat constructor)) rfl) (dd rfl) ?_
  refine o_val (v_not rfl) (dd rfl) ?_
  refine o_val (v_move rfl) (dd rfl) ?_
  refine o_guard rfl rfl (fun hb => ?_) (fun hb => ?_)
  · have hb2 : (somR takeNum most s).1.2 = false := by simpa using hb
    rw [if_neg (by rw [hb2]; decide)]
    refine o_val (v_move rfl) (dd rfl) ?_
    refine o_on rfl rfl ?_
    refine o_val (v_move rfl) (dd rfl) ?_
    refine o_on rfl rfl ?_
    refine o_step (s_call cl115 (h2 g.2) (first := []) (cap := []) rfl rfl (by rfl) (dd rfl) (pXs (by repeat constructor)) fun _ _ => ?_)
    refine o_val (v_pick_t rfl rfl) (dd rfl) ?_
    refine o_nil ?_
    refine c_cond_t rfl ?_
    refine c_seq ?_
    refine c_region ?_
    refine o_val (v_move rfl) (dd rfl) ?_
    refine o_val (v_assign rfl) (dd rfl) ?_
    refine o_nil ?_
    refine c_ret1 Tryz.func114 rfl rfl fun w O hS => ?_
    exact ⟨g, rfl, trivial, Ent.get hS (eX (by repeat constructor))⟩
  · have hb2 : (somR takeNum most s).1.2 = true := by simpa using hb
    rw [if_pos hb2]
    refine o_off rfl rfl rfl (dd rfl) ?_
    refine o_off rfl rfl rfl (dd rfl) ?_
    refine o_off rfl rfl rfl (dd rfl) ?_
    refine o_val (v_pick_f rfl rfl) (dd rfl) ?_
    refine o_nil ?_
    refine c_cond_f rfl ?_
    refine c_skip ?_
    refine c_seq ?_
    refine c_region ?_
    refine o_val (v_assign rfl) (dd rfl) ?_
    refine o_nil ?_
    refine c_seq ?_
    refine c_region ?_
    refine o_val (v_move rfl) (dd rfl) ?_
    refine o_val (v_move rfl) (dd rfl) ?_
    refine o_val (v_move rfl) (dd rfl) ?_
    refine o_val (v_nilCheck rfl) (dd rfl) ?_
    refine o_val (v_fieldAddrC 0 Tryz.underlying92 rfl ti25 (by decide) rfl) (dd rfl) ?_
    refine o_step (s_store1 ti25 rfl rfl (by first | exact OneC.lit rfl | exact OneC.sl (hX (by repeat constructor)) ) (pB (by repeat constructor)) (by first | decide | exact Nat.le_of_ble_eq_true rfl | simp) (by first | (dsimp only [List.set_cons_succ, List.set_cons_zero]; first | done | exact rfl) | rfl) (?_))
    refine o_val (v_nilCheck rfl) (dd rfl) ?_
    refine o_val (v_fieldAddrC 1 Tryz.underlying92 rfl ti4 (by decide) rfl) (dd rfl) ?_
    refine o_step (s_store1 ti4 rfl rfl (by first | exact OneC.lit rfl | exact OneC.sl (hX (by repeat constructor)) ) (pB (by repeat constructor)) (by first | decide | exact Nat.le_of_ble_eq_true rfl | simp) (by first | (dsimp only [List.set_cons_succ, List.set_cons_zero]; first | done | exact rfl) | rfl) (?_))
    refine o_nil ?_
    refine c_seq ?_
    refine c_region ?_
    refine o_val (v_move rfl) (dd rfl) ?_
    refine o_val (v_assign rfl) (dd rfl) ?_
    refine o_nil ?_
    refine c_ret1 Tryz.func114 rfl rfl fun w O hS => ?_
    exact ⟨(bv, .slice none 0 0), rfl, trivial, Ent.get hS (eX (by repeat constructor))⟩
set_option maxRecDepth 100000 in
theorem someI_con (i : Nat) (bv : Value) (s : St9) (most : Int) (te : TypeId) (pe : Value) : Con Tryz.prog 98 [ptr i, .int .i64 most, .func (.func 14) #[ptr i] #[]] [Blk i 92 [bv, .bool s.2], Sl eByte bv s.1, G1 te pe, G3] (γ := Value × Value) (fun g => g.2) (fun _ => True) (fun g => [Blk i 92 [g.1, .bool (takeSome takeNum most s).1.2], Sl eByte g.1 (takeSome takeNum most s).1.1, Own (eInt .i64) 3 g.2 (takeSome takeNum most s).2]) := by
  refine con_of Tryz.func98 rfl (dd rfl) fun w0 O0 => ?_
  refine c_seq ?_
  refine c_region ?_
  refine o_step (s_box rfl (dd rfl) (fun b3 => ?_))
  refine o_step (s_box rfl (dd rfl) (fun b4 => ?_))
  refine o_step (s_box rfl (dd rfl) (fun b5 => ?_))
  refine o_val (v_assign rfl) (dd rfl) ?_
  refine o_nil ?_
  refine c_seq ?_
  refine c_region ?_
  refine o_step (s_alloc ti32 (dd rfl) (fun b7 => ?_))
  refine o_nil ?_
  refine c_seq ?_
  refine c_region ?_
  refine o_val (v_makeFunc rfl rfl) (dd rfl) ?_
  refine o_val (v_assign rfl) (dd rfl) ?_
  refine o_nil ?_
  refine c_seq ?_
  refine c_region ?_
  refine o_val (v_load lone40 rfl (hX (by repeat constructor)) rfl) (dd rfl) ?_
  refine o_val (v_move rfl) (dd rfl) ?_
  have h := wholeI_con i b3 b4 b5 b7 bv s most te pe
  refine o_step (s_callf cl114 (h) rfl (dd rfl) (pXs (by repeat constructor)) fun g _ => ?_)
  refine o_val (v_assign rfl) (dd rfl) ?_
  refine o_nil ?_
  refine c_ret1 Tryz.func98 rfl rfl fun w O hS => ?_
  exact ⟨g, rfl, trivial, Ent.get hS (eX (by repeat constructor))⟩
end Go.Proofs.YtmgkeippepeggaaGreatDoor
/- Chapter 09: the program's reader: changes. -/
namespace Go.Proofs.YtmgkeippepeggaaGreatDoor
open Go Go.SL Go.Lib
attribute [local irreducible] Cfg Kont StepK Val Con Qops Any Sl Own Blk BlkR Rd Pu ExA AllA Has Pick Ent Elem Beside Callable TI Lone OwnO AndA
set_option maxRecDepth 100000 in
theorem someP1_con (i b3 b4 b5 b7 : Nat) (bv : Value) (s : St9) (most : Int) (hs : s.1.length ≤ big9) (te : TypeId) (pe : Value) : Con Tryz.prog 95 [ptr b3, ptr b4, ptr b7, ptr b5] [BlkR b3 40 [ptr i], BlkR b4 3 [.int .i64 most], Blk b7 62 [.slice none 0 0], BlkR b5 59 [.func (.func 25) #[ptr i] #[]], Blk i 92 [bv, .bool s.2], Sl eByte bv s.1, G1 te pe, G3] (γ := Value × Value) (fun g => g.2) (fun _ => True) (fun g => [Blk i 92 [g.1, .bool (somR takePrim most s).1.2], Sl eByte g.1 (somR takePrim most s).1.1, Own ePr 58 g.2 (somR takePrim most s).2]) := by
  have hfar := num_far (s := s)
  have hN := inNum_con i bv s te pe
  unfold somR
  obtain ⟨s1, n, hn⟩ : ∃ s1 n, takeNum s = (s1, n) := ⟨_, _, rfl⟩
  rw [hn] at hN hfar ⊢
  dsimp only at hN hfar ⊢
  unfold far9 at hfar
  refine con_of Tryz.func95 rfl (dd rfl) fun w0 O0 => ?_
  refine c_seq ?_
  refine c_region ?_
  refine o_val (v_assign rfl) (dd rfl) ?_
  refine o_nil ?_
  refine c_seq ?_
  refine c_region ?_
  refine o_val (v_load lone40 rfl (hX (by repeat constructor)) rfl) (dd rfl) ?_
  refine o_step (s_callf cl14 (hN) rfl (dd rfl) (pXs (by repeat constructor)) fun v1 _ => ?_)
  refine o_val (v_assign rfl) (dd rfl) ?_
  refine o_nil ?_
  refine c_seq ?_
  refine c_seq ?_
  refine c_env (env' := [(0, _), (1, _), (2, _), (3, _), (4, _), (5, _)]) (by repeat (first | exact trivial | refine ⟨rfl, ?_⟩)) ?_
  refine c_joinb (d := 15) (decide (n < 0 ∨ most < n)) ?_ ?_
  rotate_left
  · intro J
    refine c_region ?_
    refine o_val (v_move rfl) (dd rfl) ?_
    refine o_val (v_lt rfl rfl) (dd rfl) ?_
    refine o_val (v_move rfl) (dd rfl) ?_
    first | refine o_guard_f rfl rfl (fun g11 => ?_) (fun g11 => ?_) | refine o_guard rfl rfl (fun g11 => ?_) (fun g11 => ?_)
    · refine o_val (v_move rfl) (dd rfl) ?_
      refine o_on rfl rfl ?_
      refine o_val (v_load lone3 rfl (hX (by repeat constructor)) rfl) (dd rfl) ?_
      refine o_on rfl rfl ?_
      refine o_val (v_gt rfl rfl) (dd rfl) ?_
      refine o_val (v_pick_f rfl rfl) (dd rfl) ?_
      refine o_nil ?_
      exact c_use J ⟨Env.as rfl (congrArg Value.bool (by first | rfl | (simp_all; done) | (simp_all; omega) | (simp; omega))), (by repeat (first | exact trivial | refine ⟨rfl, ?_⟩))⟩ (by first | exact Ent.refl _ | exact eX (by repeat constructor))
    · refine o_off rfl rfl rfl (dd rfl) ?_
      refine o_off rfl rfl rfl (dd rfl) ?_
      refine o_off rfl rfl rfl (dd rfl) ?_
      refine o_val (v_pick_t rfl rfl) (dd rfl) ?_
      refine o_nil ?_
      exact c_use J ⟨Env.as rfl (congrArg Value.bool (by first | rfl | (simp_all; done) | (simp_all; omega) | (simp; omega))), (by repeat (first | exact trivial | refine ⟨rfl, ?_⟩))⟩ (by first | exact Ent.refl _ | exact eX (by repeat constructor))
  obtain ⟨s2, hs2⟩ : ∃ s2, s2 = (if n < 0 ∨ most < n then spoil9 s1 else s1) := ⟨_, rfl⟩
  rw [← hs2]
  refine c_joinR (γ := Unit) [(0, _), (2, _), (3, _), (4, _), (5, _)] (fun _ => True) (fun _ => []) (fun _ => [BlkR b3 40 [ptr i], BlkR b4 3 [.int .i64 most], Blk b7 62 [.slice none 0 0], BlkR b5 59 [.func (.func 25) #[ptr i] #[]], Blk i 92 [v1, .bool s2.2], Sl eByte v1 s2.1, G1 te pe, G3]) (by repeat (first | exact trivial | refine ⟨rfl, ?_⟩)) ?_ ?_
  rotate_left
  · intro MEET
    skip
    refine c_cond_p rfl (fun hq => ?_) (fun hq => ?_)
    · have e2 : s2 = (s1.1, true) := by rw [hs2, if_pos hq]; rfl
      subst e2
      refine c_region ?_
      refine o_val (v_load lone40 rfl (hX (by repeat constructor)) rfl) (dd rfl) ?_
      refine o_val (v_nilCheck rfl) (dd rfl) ?_
      refine o_val (v_fieldAddrC 1 Tryz.underlying92 rfl ti4 (by decide) rfl) (dd rfl) ?_
      refine o_step (s_store1 ti4 rfl rfl (by first | exact OneC.lit rfl | exact OneC.sl (hX (by repeat constructor)) ) (pB (by repeat constructor)) (by first | decide | exact Nat.le_of_ble_eq_true rfl | simp) (by first | (dsimp only [List.set_cons_succ, List.set_cons_zero]; first | done | exact rfl) | rfl) (?_))
      refine o_nil ?_
      refine c_use (MEET (()) (trivial)) (by repeat (first | exact trivial | refine ⟨rfl, ?_⟩)) (eX (by repeat constructor))
    · have e2 : s2 = s1 := by rw [hs2, if_neg hq]
      subst e2
      refine c_skip ?_
      refine c_use (MEET (()) (trivial)) (by repeat (first | exact trivial | refine ⟨rfl, ?_⟩)) (eX (by repeat constructor))
  have hs2l : s2.1.length ≤ big9 := by
    have h1 := goes_len goes_num s
    rw [hn] at h1
    have h2 : s2.1 = s1.1 := by rw [hs2]; split <;> rfl
    rw [h2]; exact Nat.le_trans h1 hs
  rintro ⟨⟩ -
  dsimp only [List.cons_append, List.nil_append]
  refine c_seq ?_
  refine c_seq ?_
  refine c_region ?_
  refine o_val (v_assign rfl) (dd rfl) ?_
  refine o_nil ?_
  refine c_block ?_
  refine c_loopR (γ := Nat × St9 × List Pr9 × Value × Value) [(0, _), (2, _), (3, _), (4, _), (5, _)] (fun g => n.toNat - g.1) (fun g => g.1 ≤ n.toNat ∧ g.2.2.1.length ≤ g.1 ∧ takeMany takePrim (n.toNat - g.1) g.2.1 g.2.2.1 = takeMany takePrim n.toNat s2 [] ∧ (fun q : St9 => q.1.length ≤ big9) g.2.1) (fun g => [(6, .int .i64 g.1)]) (fun g => [BlkR b3 40 [ptr i], BlkR b5 59 [.func (.func 25) #[ptr i] #[]], Blk b7 62 [g.2.2.2.2], Own ePr 58 g.2.2.2.2 g.2.2.1, Blk i 92 [g.2.2.2.1, .bool g.2.1.2], Sl eByte g.2.2.2.1 g.2.1.1, G1 te pe, G3]) ((0, s2, [], v1, .slice none 0 0)) (⟨Nat.zero_le _, Nat.le_refl _, rfl, hs2l⟩) (by repeat (first | exact trivial | refine ⟨rfl, ?_⟩)) (eX (by repeat constructor)) ?_
  rintro ⟨k, sk, out, r, v⟩ ⟨hk, hlk, hTk, hgo⟩ IH
  dsimp only at hk hlk hTk ⊢
  dsimp only at hgo
  try dsimp only [List.cons_append, List.nil_append]
  refine c_seq ?_
  refine c_seq ?_
  refine c_env (env' := [(0, _), (2, _), (3, _), (4, _), (5, _), (6, _)]) (by repeat (first | exact trivial | refine ⟨rfl, ?_⟩)) ?_
  refine c_joinb (d := 28) (decide ((k : Int) < n ∧ sk.2 = false)) ?_ ?_
  rotate_left
  · intro J
    refine c_region ?_
    refine o_val (v_move rfl) (dd rfl) ?_
    refine o_val (v_move rfl) (dd rfl) ?_
    refine o_val (v_lt rfl rfl) (dd rfl) ?_
    refine o_val (v_move rfl) (dd rfl) ?_
    first | refine o_guard_t rfl rfl (fun g22 => ?_) (fun g22 => ?_) | refine o_guard rfl rfl (fun g22 => ?_) (fun g22 => ?_)
    · refine o_val (v_load lone40 rfl (hX (by repeat constructor)) rfl) (dd rfl) ?_
      refine o_on rfl rfl ?_
      refine o_val (v_nilCheck rfl) (dd rfl) ?_
      refine o_on rfl rfl ?_
      refine o_val (v_fieldAddrC 1 Tryz.underlying92 rfl ti4 (by decide) rfl) (dd rfl) ?_
      refine o_on rfl rfl ?_
      refine o_val (v_load lone4 rfl (hX (by repeat constructor)) rfl) (dd rfl) ?_
      refine o_on rfl rfl ?_
      refine o_val (v_not rfl) (dd rfl) ?_
      refine o_val (v_pick_t rfl rfl) (dd rfl) ?_
      refine o_nil ?_
      exact c_use J ⟨Env.as rfl (congrArg Value.bool (by first | rfl | (simp_all; done) | (simp_all; omega))), (by repeat (first | exact trivial | refine ⟨rfl, ?_⟩))⟩ (by first | exact Ent.refl _ | exact eX (by repeat constructor))
    · refine o_off rfl rfl rfl (dd rfl) ?_
      refine o_off rfl rfl rfl (dd rfl) ?_
      refine o_off rfl rfl rfl (dd rfl) ?_
      refine o_off rfl rfl rfl (dd rfl) ?_
      refine o_off rfl rfl rfl (dd rfl) ?_
      refine o_val (v_pick_f rfl rfl) (dd rfl) ?_
      refine o_nil ?_
      exact c_use J ⟨Env.as rfl (congrArg Value.bool (by first | rfl | (simp_all; done) | (simp_all; omega))), (by repeat (first | exact trivial | refine ⟨rfl, ?_⟩))⟩ (by first | exact Ent.refl _ | exact eX (by repeat constructor))
  refine c_cond_p rfl (fun hlt => ?_) (fun hlt => ?_)
  · have hst := takeMany_step takePrim (n := n.toNat) (k := k) (out := out) (by omega) hlt.2
    refine c_skip ?_
    refine c_seq ?_
    refine c_block ?_
    refine c_heldk 5 [Blk b7 62 [v], BlkR b5 59 [.func (.func 25) #[ptr i] #[]]] rfl ?_
    refine k_take 0 rfl (by kernel_rfl) (by kernel_rfl) (by kernel_rfl) rfl (by kernel_rfl) (v_load lone62 rfl (hX (by repeat constructor)) rfl) (eX (by repeat constructor)) (dd rfl) ?_
    refine k_take 1 rfl (by kernel_rfl) (by kernel_rfl) (by kernel_rfl) rfl (by kernel_rfl) (v_load lone59 rfl (hX (by repeat constructor)) rfl) (eX (by repeat constructor)) (dd rfl) ?_
    refine k_one 2 rfl (by kernel_rfl) fun hc_ => (s_call cl25 (inPrim_con i r sk hgo te pe) (first := [ptr i]) (cap := []) rfl rfl (by rfl) (dd rfl) (pXs (by repeat constructor)) (fun g2 _ => k_on hc_ (eX (by repeat constructor)) ?_))
    refine k_one 3 rfl (by kernel_rfl) fun hc_ => (s_buildSlice Tryz.underlying62 ti58 rfl rfl rfl (by decide) (by decide) (beside_agg1 (beside_of (Lp := [Sl eStr g2.2.1 (takePrim sk).2.2.2.2.2.1, Sl eStr g2.2.2 (takePrim sk).2.2.2.2.2.2]) (pXs (by repeat constructor)) fun w O => pr_close (z := (takePrim sk).2) w O)) rfl rfl (dd rfl) (fun v2 => k_on hc_ (eX (by repeat constructor)) ?_))
    refine k_one 4 rfl (by kernel_rfl) fun hc_ => (s_append Tryz.underlying62 ti58 rfl (by decide) rfl rfl (dd rfl) (pB (by repeat constructor)) (pX (by repeat constructor)) rfl (by (first | omega | (simp only [maxLen, List.length_append, List.length_drop, List.length_take, List.length_nil, List.length_cons]; omega))) (by (first | omega | (simp only [maxLen, List.length_append, List.length_drop, List.length_take, List.length_nil, List.length_cons]; omega))) (fun v3 => k_on hc_ (eX (by repeat constructor)) ?_))
    refine k_one 5 rfl (by kernel_rfl) fun hc_ => (s_store1 ti62 rfl rfl (by first | exact OneC.lit rfl | exact OneC.sl (hX (by repeat constructor)) ) (pB (by repeat constructor)) (by first | decide | exact Nat.le_of_ble_eq_true rfl | simp) (by first | (dsimp only [List.set_cons_succ, List.set_cons_zero]; first | done | exact rfl) | rfl) (k_last hc_ (by kernel_rfl) ?_))
    refine k_done (by kernel_rfl) ?_ _
    refine c_inBlock ?_
    refine c_region ?_
    refine o_val (v_move rfl) (dd rfl) ?_
    refine o_val ((by first | exact v_add64 rfl rfl (by omega) | exact v_add rfl rfl)) (dd rfl) ?_
    refine o_val (v_assign rfl) (dd rfl) ?_
    refine o_nil ?_
    refine c_use (IH ((k + 1, (takePrim sk).1, out ++ [(takePrim sk).2], g2.1, v3)) (by first | omega | (dsimp only; omega)) (⟨by dsimp only; omega, by simp; omega, hst.symm.trans hTk, Nat.le_trans (goes_len goes_prim sk) hgo⟩)) (by repeat (first | exact trivial | refine ⟨rfl, ?_⟩)) (eX (by repeat constructor))
  · have hend : takeMany takePrim (n.toNat - k) sk out = (sk, out) := by
      cases hb : sk.2 with
      | true => exact takeMany_bad _ _ _ _ hb
      | false => exact takeMany_end _ (by have : ¬ (k : Int) < n := fun q => hlt ⟨q, hb⟩; omega)
    refine c_exit rfl ?_
    refine c_seq ?_
    refine c_region ?_
    refine o_val (v_load lone62 rfl (hX (by repeat constructor)) rfl) (dd rfl) ?_
    refine o_val (v_assign rfl) (dd rfl) ?_
    refine o_nil ?_
    refine c_ret1 Tryz.func95 rfl rfl fun w O hS => ?_
    exact ⟨(r, v), rfl, trivial, by rw [← hTk, hend]; exact Ent.get hS (eX (by repeat constructor))⟩
set_option maxRecDepth 100000 in
theorem alwaysP_con (v : Value) : Con Tryz.prog 97 [v] [] (γ := Unit) (fun _ => .bool true) (fun _ => True) (fun _ => []) := by
  refine con_of Tryz.func97 rfl (dd rfl) fun w0 O0 => ?_
  refine c_seq ?_
  refine c_region ?_
  refine o_val (v_assign rfl) (dd rfl) ?_
  refine o_nil ?_
  refine c_seq ?_
  refine c_region ?_
  refine o_val (v_assign rfl) (dd rfl) ?_
  refine o_nil ?_
  refine c_ret1 Tryz.func97 rfl rfl fun w O hS => ?_
  exact ⟨(), rfl, trivial, trivial⟩
set_option maxRecDepth 100000 in
theorem wholeP_con (i b3 b4 b5 b7 : Nat) (bv : Value) (s : St9) (most : Int) (hs : s.1.length ≤ big9) (te : TypeId) (pe : Value) : Con Tryz.prog 96 [ptr i, .func (.func 95) #[] #[ptr b3, ptr b4, ptr b7, ptr b5], .func (.func 97) #[] #[]] [BlkR b3 40 [ptr i], BlkR b4 3 [.int .i64 most], Blk b7 62 [.slice none 0 0], BlkR b5 59 [.func (.func 25) #[ptr i] #[]], Blk i 92 [bv, .bool s.2], Sl eByte bv s.1, G1 te pe, G3] (γ := Value × Value) (fun g => g.2) (fun _ => True) (fun g => [Blk i 92 [g.1, .bool (takeSome takePrim most s).1.2], Sl eByte g.1 (takeSome takePrim most s).1.1, Own ePr 58 g.2 (takeSome takePrim most s).2]) := by
  have h1 := someP1_con i b3 b4 b5 b7 bv s most hs te pe
  have h2 := fun v => alwaysP_con v
  rw [some_as]
  refine con_of Tryz.func96 rfl (dd rfl) fun w0 O0 => ?_
  refine c_seq ?_
  refine c_region ?_
  refine o_val (v_assign rfl) (dd rfl) ?_
  refine o_nil ?_
  refine c_seq ?_
  refine c_region ?_
  refine o_val (v_move rfl) (dd rfl) ?_
  refine o_val (v_nilCheck rfl) (dd rfl) ?_
  refine o_val (v_fieldAddrC 0 Tryz.underlying92 rfl ti25 (by decide) rfl) (dd rfl) ?_
  refine o_val (v_load lone25 rfl (hX (by repeat constructor)) rfl) (dd rfl) ?_
  refine o_val (v_assign rfl) (dd rfl) ?_
  refine o_nil ?_
  refine c_seq ?_
  refine c_region ?_
  refine o_val (v_move rfl) (dd rfl) ?_
  refine o_step (s_call cl95 (h1) (first := []) (cap := [ptr b3, ptr b4, ptr b7, ptr b5]) rfl rfl (by rfl) (dd rfl) (pXs (by repeat constructor)) fun g _ => ?_)
  refine o_val (v_assign rfl) (dd rfl) ?_
  refine o_nil ?_
  refine c_seq ?_
  refine c_seq ?_
  refine c_region ?_
  refine o_val (v_move rfl) (dd rfl) ?_
  refine o_val (v_nilCheck rfl) (dd rfl) ?_
  refine o_val (v_fieldAddrC 1 Tryz.underlying92 rfl ti4 (by decide) rfl) (dd rfl) ?_
  refine o_val (v_load lone4 rfl (hX (by repeat constructor)) rfl) (dd rfl) ?_
  refine o_val (v_not rfl) (dd rfl) ?_
  refine o_val (v_move rfl) (dd rfl) ?_
  refine o_guard rfl rfl (fun hb => ?_) (fun hb => ?_)
  · have hb2 : (somR takePrim most s).1.2 = false := by simpa using hb
    rw [if_neg (by rw [hb2]; decide)]
    refine o_val (v_move rfl) (dd rfl) ?_
    refine o_on rfl rfl ?_
    refine o_val (v_move rfl) (dd rfl) ?_
    refine o_on rfl rfl ?_
    refine o_step (s_call cl97 (h2 g.2) (first := []) (cap := []) rfl rfl (by rfl) (dd rfl) (pXs (by repeat constructor)) fun _ _ => ?_)
    refine o_val (v_pick_t rfl rfl) (dd rfl) ?_
    refine o_nil ?_
    refine c_cond_t rfl ?_
    refine c_seq ?_
    refine c_region ?_
    refine o_val (v_move rfl) (dd rfl) ?_
    refine o_val (v_assign rfl) (dd rfl) ?_
    refine o_nil ?_
    refine c_ret1 Tryz.func96 rfl rfl fun w O hS => ?_
    exact ⟨g, rfl, trivial, Ent.get hS (eX (by repeat constructor))⟩
  · have hb2 : (somR takePrim most s).1.2 = true := by simpa using hb
    rw [if_pos hb2]
    refine o_off rfl rfl rfl (dd rfl) ?_
    refine o_off rfl rfl rfl (dd rfl) ?_
    refine o_off rfl rfl rfl (dd rfl) ?_
    refine o_val (v_pick_f rfl rfl) (dd rfl) ?_
    refine o_nil ?_
    refine c_cond_f rfl ?_
    refine c_skip ?_
    refine c_seq ?_
    refine c_region ?_
    refine o_val (v_assign rfl) (dd rfl) ?_
    refine o_nil ?_
    refine c_seq ?_
    refine c_region ?_
    refine o_val (v_move rfl) (dd rfl) ?_
    refine o_val (v_move rfl) (dd rfl) ?_
    refine o_val (v_move rfl) (dd rfl) ?_
    refine o_val (v_nilCheck rfl) (dd rfl) ?_
    refine o_val (v_fieldAddrC 0 Tryz.underlying92 rfl ti25 (by decide) rfl) (dd rfl) ?_
    refine o_step (s_store1 ti25 rfl rfl (by first | exact OneC.lit rfl | exact OneC.sl (hX (by repeat constructor)) ) (pB (by repeat constructor)) (by first | decide | exact Nat.le_of_ble_eq_true rfl | simp) (by first | (dsimp only [List.set_cons_succ, List.set_cons_zero]; first | done | exact rfl) | rfl) (?_))
    refine o_val (v_nilCheck rfl) (dd rfl) ?_
    refine o_val (v_fieldAddrC 1 Tryz.underlying92 rfl ti4 (by decide) rfl) (dd rfl) ?_
    refine o_step (s_store1 ti4 rfl rfl (by first | exact OneC.lit rfl | exact OneC.sl (hX (by repeat constructor)) ) (pB (by repeat constructor)) (by first | decide | exact Nat.le_of_ble_eq_true rfl | simp) (by first | (dsimp only [List.set_cons_succ, List.set_cons_zero]; first | done | exact rfl) | rfl) (?_))
    refine o_nil ?_
    refine c_seq ?_
    refine c_region ?_
    refine o_val (v_move rfl) (dd rfl) ?_
    refine o_val (v_assign rfl) (dd rfl) ?_
    refine o_nil ?_
    refine c_ret1 Tryz.func96 rfl rfl fun w O hS => ?_
    exact ⟨(bv, .slice none 0 0), rfl, trivial, Ent.get hS (eX (by repeat constructor))⟩
set_option maxRecDepth 100000 in
theorem someP_con (i : Nat) (bv : Value) (s : St9) (most : Int) (hs : s.1.length ≤ big9) (te : TypeId) (pe : Value) : Con Tryz.prog 73 [ptr i, .int .i64 most, .func (.func 25) #[ptr i] #[]] [Blk i 92 [bv, .bool s.2], Sl eByte bv s.1, G1 te pe, G3] (γ := Value × Value) (fun g => g.2) (fun _ => True) (fun g => [Blk i 92 [g.1, .bool (takeSome takePrim most s).1.2], Sl eByte g.1 (takeSome takePrim most s).1.1, Own ePr 58 g.2 (takeSome takePrim most s).2]) := by
  refine con_of Tryz.func73 rfl (dd rfl) fun w0 O0 => ?_
  refine c_seq ?_
  refine c_region ?_
  refine o_step (s_box rfl (dd rfl) (fun b3 => ?_))
  refine o_step (s_box rfl (dd rfl) (fun b4 => ?_))
  refine o_step (s_box rfl (dd rfl) (fun b5 => ?_))
  refine o_val (v_assign rfl) (dd rfl) ?_
  refine o_nil ?_
  refine c_seq ?_
  refine c_region ?_
  refine o_step (s_alloc ti62 (dd rfl) (fun b7 => ?_))
  refine o_nil ?_
  refine c_seq ?_
  refine c_region ?_
  refine o_val (v_makeFunc rfl rfl) (dd rfl) ?_
  refine o_val (v_assign rfl) (dd rfl) ?_
  refine o_nil ?_
  refine c_seq ?_
  refine c_region ?_
  refine o_val (v_load lone40 rfl (hX (by repeat constructor)) rfl) (dd rfl) ?_
  refine o_val (v_move rfl) (dd rfl) ?_
  have h := wholeP_con i b3 b4 b5 b7 bv s most hs te pe
  refine o_step (s_callf cl96 (h) rfl (dd rfl) (pXs (by repeat constructor)) fun g _ => ?_)
  refine o_val (v_assign rfl) (dd rfl) ?_
  refine o_nil ?_
  refine c_ret1 Tryz.func73 rfl rfl fun w O hS => ?_
  exact ⟨g, rfl, trivial, Ent.get hS (eX (by repeat constructor))⟩
set_option maxRecDepth 100000 in
theorem inPrims_con (i : Nat) (bv : Value) (s : St9) (most : Int) (hs : s.1.length ≤ big9) (te : TypeId) (pe : Value) : Con Tryz.prog 28 [ptr i, .int .i64 most] [Blk i 92 [bv, .bool s.2], Sl eByte bv s.1, G1 te pe, G3] (γ := Value × Value) (fun g => g.2) (fun _ => True) (fun g => [Blk i 92 [g.1, .bool (takePrims most s).1.2], Sl eByte g.1 (takePrims most s).1.1, Own ePr 58 g.2 (takePrims most s).2]) := by
  have h := someP_con i bv s most hs te pe
  unfold takePrims
  refine con_of Tryz.func28 rfl (dd rfl) fun w0 O0 => ?_
  refine c_seq ?_
  refine c_region ?_
  refine o_val (v_assign rfl) (dd rfl) ?_
  refine o_nil ?_
  refine c_seq ?_
  refine c_region ?_
  refine o_val (v_move rfl) (dd rfl) ?_
  refine o_val (v_move rfl) (dd rfl) ?_
  refine o_val (v_move rfl) (dd rfl) ?_
  refine o_val (v_makeFunc rfl rfl) (dd rfl) ?_
  refine o_step (s_callf cl73 (h) rfl (dd rfl) (pXs (by repeat constructor)) fun g _ => ?_)
  refine o_val (v_assign rfl) (dd rfl) ?_
  refine o_nil ?_
  refine c_ret1 Tryz.func28 rfl rfl fun w O hS => ?_
  exact ⟨g, rfl, trivial, Ent.get hS (eX (by repeat constructor))⟩
end Go.Proofs.YtmgkeippepeggaaGreatDoor
/- Chapter 09: the program's reader: a patch. -/
namespace Go.Proofs.YtmgkeippepeggaaGreatDoor
open Go Go.SL Go.Lib
theorem rawT_ok {s : St9} (h : s.1.length ≤ big9) : SizeT (rawPatch s).2 := by
  have h1 := Nat.le_trans (goes_len goes_num s) h
  have h2 := Nat.le_trans (goes_len (goes_text 60) (takeNum s).1) h1
  have h3 := Nat.le_trans (goes_len (goes_some goes_num 8) (takeText 60 (takeNum s).1).1) h2
  unfold SizeT rawPatch
  dsimp only
  exact ⟨text_ok h1, Nat.le_trans (some_len (n := 8) (by decide)) (by decide), Nat.le_trans (some_len (take := takePrim) (n := 24) (by decide)) (by decide), some_ok (most := 24) goes_prim (fun _ hs => prim_ok hs) h3⟩
attribute [local irreducible] Cfg Kont StepK Val Con Qops Any Sl Own Blk BlkR Rd Pu ExA AllA Has Pick Ent Elem Beside Callable TI Lone OwnO AndA
set_option maxRecDepth 100000 in
theorem inRawT_con (i : Nat) (bv : Value) (s : St9) (hs : s.1.length ≤ big9) (te : TypeId) (pe : Value) : Con Tryz.prog 75 [ptr i] [Blk i 92 [bv, .bool s.2], Sl eByte bv s.1, G1 te pe, G3] (γ := Value × Value × Value)
    (fun g => .agg #[.int .i64 (rawPatch s).2.1, .string (rawPatch s).2.2.1, g.2.1, g.2.2]) (fun _ => True)
    (fun g => [Blk i 92 [g.1, .bool (rawPatch s).1.2], Sl eByte g.1 (rawPatch s).1.1, Sl (eInt .i64) g.2.1 (rawPatch s).2.2.2.1, Sl ePr g.2.2 (rawPatch s).2.2.2.2]) := by
  have l1 := Nat.le_trans (goes_len goes_num s) hs
  have c1 := inNum_con i bv s te pe
  obtain ⟨s1, k, h1⟩ : ∃ s1 k, takeNum s = (s1, k) := ⟨_, _, rfl⟩
  rw [h1] at c1 l1
  have l2 := Nat.le_trans (goes_len (goes_text 60) s1) l1
  have c2 := fun v => inText_con i v s1 60 te pe
  obtain ⟨s2, n, h2⟩ : ∃ s2 n, takeText 60 s1 = (s2, n) := ⟨_, _, rfl⟩
  rw [h2] at c2 l2
  have l3 := Nat.le_trans (goes_len (goes_some goes_num 8) s2) l2
  have c3 := fun v => someI_con i v s2 8 te pe
  obtain ⟨s3, d, h3⟩ : ∃ s3 d, takeSome takeNum 8 s2 = (s3, d) := ⟨_, _, rfl⟩
  rw [h3] at c3 l3
  have c4 := fun v => inPrims_con i v s3 24 l3 te pe
  obtain ⟨s4, l, h4⟩ : ∃ s4 l, takePrims 24 s3 = (s4, l) := ⟨_, _, rfl⟩
  rw [h4] at c4
  have hraw : rawPatch s = (s4, (k, n, d, l)) := by unfold rawPatch; simp only [h1, h2, h3, h4]
  rw [hraw]
  dsimp only at c1 c2 c3 c4 ⊢
  refine con_of Tryz.func75 rfl (dd rfl) fun w0 O0 => ?_
  refine c_seq ?_
  refine c_region ?_
  refine o_step (s_alloc ti67 (dd rfl) (fun b2 => ?_))
  refine o_nil ?_
  refine c_seq ?_
  refine c_region ?_
  refine o_val (v_move rfl) (dd rfl) ?_
  refine o_step (s_callf cl14 (c1) rfl (dd rfl) (pXs (by repeat constructor)) fun v1 _ => ?_)
  refine o_val (v_move rfl) (dd rfl) ?_
  refine o_step (s_callf cl16 (c2 v1) rfl (dd rfl) (pXs (by repeat constructor)) fun v2 _ => ?_)
  refine o_val (v_buildS (places := [(0, 1), (1, 1), (2, 1), (3, 1)]) (cells := [_, _, .slice none 0 0, .slice none 0 0]) Tryz.underlying67 ti67 (by kernel_rfl) rfl (by repeat (first | exact PartsC.nil | (apply PartsC.one (by first | exact OneC.lit rfl | exact OneC.sl (hX (by repeat constructor)) )) | (apply PartsC.lit rfl))) rfl) (dd rfl) ?_
  refine o_step (s_alloc ti67 (dd rfl) (fun b3 => ?_))
  refine o_step (s_store_all ti67 rfl rfl (by first | exact CellsV.lit rfl | exact CellsV.one (by first | exact OneC.lit rfl | exact OneC.sl (hX (by repeat constructor)) )) (by repeat (first | exact OneAll.nil | (refine OneAll.cons ?_ ?_; · first | exact OneC.lit rfl | exact OneC.sl (hX (by repeat constructor)) ) | exact OneAll.rd (hX (by repeat constructor)))) rfl (pB (by repeat constructor)) rfl (?_))
  refine o_nil ?_
  refine c_seq ?_
  refine c_region ?_
  refine o_val (v_move rfl) (dd rfl) ?_
  refine o_val (v_move rfl) (dd rfl) ?_
  refine o_val (v_makeFunc rfl rfl) (dd rfl) ?_
  refine o_step (s_callf cl98 (c3 v2) rfl (dd rfl) (pXs (by repeat constructor)) fun g3 _ => ?_)
  refine o_val (v_fieldAddrC 2 Tryz.underlying67 rfl ti32 (by decide) rfl) (dd rfl) ?_
  refine o_step (s_store1 ti32 rfl rfl (by first | exact OneC.lit rfl | exact OneC.sl (hX (by repeat constructor)) ) (pB (by repeat constructor)) (by first | decide | exact Nat.le_of_ble_eq_true rfl | simp) (by first | (dsimp only [List.set_cons_succ, List.set_cons_zero]; first | done | exact rfl) | rfl) (?_))
  refine o_nil ?_
  refine c_seq ?_
  refine c_region ?_
  refine o_val (v_move rfl) (dd rfl) ?_
  refine o_step (s_callf cl28 (c4 g3.1) rfl (dd rfl) (pXs (by repeat constructor)) fun g4 _ => ?_)
  refine o_val (v_fieldAddrC 3 Tryz.underlying67 rfl ti62 (by decide) rfl) (dd rfl) ?_
  refine o_step (s_store1 ti62 rfl rfl (by first | exact OneC.lit rfl | exact OneC.sl (hX (by repeat constructor)) ) (pB (by repeat constructor)) (by first | decide | exact Nat.le_of_ble_eq_true rfl | simp) (by first | (dsimp only [List.set_cons_succ, List.set_cons_zero]; first | done | exact rfl) | rfl) (?_))
  refine o_nil ?_
  refine c_seq ?_
  refine c_region ?_
  refine o_val (v_load_all ⟨_, Tryz.underlying67⟩ ti67 rfl (hX (by repeat constructor)) rfl) (dd rfl) ?_
  refine o_step (s_store_all ti67 rfl rfl (by first | exact CellsV.lit rfl | exact CellsV.one (by first | exact OneC.lit rfl | exact OneC.sl (hX (by repeat constructor)) )) (by repeat (first | exact OneAll.nil | (refine OneAll.cons ?_ ?_; · first | exact OneC.lit rfl | exact OneC.sl (hX (by repeat constructor)) ) | exact OneAll.rd (hX (by repeat constructor)))) rfl (pB (by repeat constructor)) rfl (?_))
  refine o_nil ?_
  refine c_ret_cell Tryz.func75 rfl ⟨_, Tryz.underlying67⟩ ti67 rfl (hX (by repeat constructor)) fun w O hS => ?_
  exact ⟨(g4.1, g3.2, g4.2), rfl, trivial, Ent.get hS (eX (by repeat constructor))⟩
set_option maxRecDepth 100000 in
theorem wholeT_con (i : Nat) (bv : Value) (s : St9) (hs : s.1.length ≤ big9) (te : TypeId) (pe : Value) : Con Tryz.prog 74 [ptr i, .func (.func 75) #[ptr i] #[], .func (.func 76) #[] #[]] [Blk i 92 [bv, .bool s.2], Sl eByte bv s.1, G1 te pe, G3] (γ := Value × Value × Value)
    (fun g => .agg #[.int .i64 (takePatch s).2.1, .string (takePatch s).2.2.1, g.2.1, g.2.2]) (fun _ => True)
    (fun g => [Blk i 92 [g.1, .bool (takePatch s).1.2], Sl eByte g.1 (takePatch s).1.1, Sl (eInt .i64) g.2.1 (takePatch s).2.2.2.1, Sl ePr g.2.2 (takePatch s).2.2.2.2]) := by
  have h1 := inRawT_con i bv s hs te pe
  have hok := rawT_ok hs
  unfold takePatch
  obtain ⟨s1, p, hp⟩ : ∃ s1 p, rawPatch s = (s1, p) := ⟨_, _, rfl⟩
  rw [hp] at h1 hok ⊢
  obtain ⟨k, n, d, l⟩ := p
  have h2 := fun dv lv => rightT_con (k, n, d, l) dv lv hok
  dsimp only at h1 h2 ⊢
  refine con_of Tryz.func74 rfl (dd rfl) fun w0 O0 => ?_
  refine c_seq ?_
  refine c_region ?_
  refine o_step (s_alloc ti67 (dd rfl) (fun b6 => ?_))
  refine o_nil ?_
  refine c_seq ?_
  refine c_region ?_
  refine o_val (v_move rfl) (dd rfl) ?_
  refine o_val (v_nilCheck rfl) (dd rfl) ?_
  refine o_val (v_fieldAddrC 0 Tryz.underlying92 rfl ti25 (by decide) rfl) (dd rfl) ?_
  refine o_val (v_load lone25 rfl (hX (by repeat constructor)) rfl) (dd rfl) ?_
  refine o_val (v_assign rfl) (dd rfl) ?_
  refine o_nil ?_
  refine c_seq ?_
  refine c_region ?_
  refine o_val (v_move rfl) (dd rfl) ?_
  refine o_step (s_call cl75 (h1) (first := [ptr i]) (cap := []) rfl rfl (by rfl) (dd rfl) (pXs (by repeat constructor)) fun g _ => ?_)
  refine o_step (s_alloc ti67 (dd rfl) (fun b8 => ?_))
  refine o_step (s_store_all ti67 rfl rfl (by first | exact CellsV.lit rfl | exact CellsV.one (by first | exact OneC.lit rfl | exact OneC.sl (hX (by repeat constructor)) )) (by repeat (first | exact OneAll.nil | (refine OneAll.cons ?_ ?_; · first | exact OneC.lit rfl | exact OneC.sl (hX (by repeat constructor)) ) | exact OneAll.rd (hX (by repeat constructor)))) rfl (pB (by repeat constructor)) rfl (?_))
  refine o_nil ?_
  refine c_seq ?_
  refine c_seq ?_
  refine c_region ?_
  refine o_val (v_move rfl) (dd rfl) ?_
  refine o_val (v_nilCheck rfl) (dd rfl) ?_
  refine o_val (v_fieldAddrC 1 Tryz.underlying92 rfl ti4 (by decide) rfl) (dd rfl) ?_
  refine o_val (v_load lone4 rfl (hX (by repeat constructor)) rfl) (dd rfl) ?_
  refine o_val (v_not rfl) (dd rfl) ?_
  refine o_val (v_move rfl) (dd rfl) ?_
  refine o_guard rfl rfl (fun hb => ?_) (fun hb => ?_)
  · have hb2 : s1.2 = false := by simpa using hb
    refine o_val (v_move rfl) (dd rfl) ?_
    refine o_on rfl rfl ?_
    refine o_val (v_load_all ⟨_, Tryz.underlying67⟩ ti67 rfl (hX (by repeat constructor)) rfl) (dd rfl) ?_
    refine o_on rfl rfl ?_
    refine o_step (s_call_keep cl76 (h2 g.2.1 g.2.2) (first := []) (cap := []) rfl rfl rfl (dd rfl) (rX (by repeat constructor)) (fun _ => sX) (fun _ _ => ?_))
    refine o_val (v_pick_t rfl rfl) (dd rfl) ?_
    refine o_nil ?_
    refine c_cond rfl (fun hr => ?_) (fun hr => ?_)
    · rw [if_neg (by rintro (q | q); rw [hb2] at q; cases q; rw [hr] at q; cases q)]
      refine c_seq ?_
      refine c_region ?_
      refine o_val (v_load_all ⟨_, Tryz.underlying67⟩ ti67 rfl (hX (by repeat constructor)) rfl) (dd rfl) ?_
      refine o_step (s_store_all ti67 rfl rfl (by first | exact CellsV.lit rfl | exact CellsV.one (by first | exact OneC.lit rfl | exact OneC.sl (hX (by repeat constructor)) )) (by repeat (first | exact OneAll.nil | (refine OneAll.cons ?_ ?_; · first | exact OneC.lit rfl | exact OneC.sl (hX (by repeat constructor)) ) | exact OneAll.rd (hX (by repeat constructor)))) rfl (pB (by repeat constructor)) rfl (?_))
      refine o_nil ?_
      refine c_ret_cell Tryz.func74 rfl ⟨_, Tryz.underlying67⟩ ti67 rfl (hX (by repeat constructor)) fun w O hS => ?_
      exact ⟨g, rfl, trivial, Ent.get hS (eX (by repeat constructor))⟩
    · rw [if_pos (.inr hr)]
      refine c_skip ?_
      refine c_seq ?_
      refine c_region ?_
      refine o_step (s_alloc ti67 (dd rfl) (fun b9 => ?_))
      refine o_nil ?_
      refine c_seq ?_
      refine c_region ?_
      refine o_val (v_move rfl) (dd rfl) ?_
      refine o_val (v_move rfl) (dd rfl) ?_
      refine o_val (v_move rfl) (dd rfl) ?_
      refine o_val (v_nilCheck rfl) (dd rfl) ?_
      refine o_val (v_fieldAddrC 0 Tryz.underlying92 rfl ti25 (by decide) rfl) (dd rfl) ?_
      refine o_step (s_store1 ti25 rfl rfl (by first | exact OneC.lit rfl | exact OneC.sl (hX (by repeat constructor)) ) (pB (by repeat constructor)) (by first | decide | exact Nat.le_of_ble_eq_true rfl | simp) (by first | (dsimp only [List.set_cons_succ, List.set_cons_zero]; first | done | exact rfl) | rfl) (?_))
      refine o_val (v_nilCheck rfl) (dd rfl) ?_
      refine o_val (v_fieldAddrC 1 Tryz.underlying92 rfl ti4 (by decide) rfl) (dd rfl) ?_
      refine o_step (s_store1 ti4 rfl rfl (by first | exact OneC.lit rfl | exact OneC.sl (hX (by repeat constructor)) ) (pB (by repeat constructor)) (by first | decide | exact Nat.le_of_ble_eq_true rfl | simp) (by first | (dsimp only [List.set_cons_succ, List.set_cons_zero]; first | done | exact rfl) | rfl) (?_))
      refine o_nil ?_
      refine c_seq ?_
      refine c_region ?_
      refine o_val (v_load_all ⟨_, Tryz.underlying67⟩ ti67 rfl (hX (by repeat constructor)) rfl) (dd rfl) ?_
      refine o_step (s_store_all ti67 rfl rfl (by first | exact CellsV.lit rfl | exact CellsV.one (by first | exact OneC.lit rfl | exact OneC.sl (hX (by repeat constructor)) )) (by repeat (first | exact OneAll.nil | (refine OneAll.cons ?_ ?_; · first | exact OneC.lit rfl | exact OneC.sl (hX (by repeat constructor)) ) | exact OneAll.rd (hX (by repeat constructor)))) rfl (pB (by repeat constructor)) rfl (?_))
      refine o_nil ?_
      refine c_ret_cell Tryz.func74 rfl ⟨_, Tryz.underlying67⟩ ti67 rfl (hX (by repeat constructor)) fun w O hS => ?_
      exact ⟨(bv, .slice none 0 0, .slice none 0 0), rfl, trivial, Ent.get hS (eX (by repeat constructor))⟩
  · have hb2 : s1.2 = true := by simpa using hb
    rw [if_pos (.inl hb2)]
    refine o_off rfl rfl rfl (dd rfl) ?_
    refine o_off rfl rfl rfl (dd rfl) ?_
    refine o_off rfl rfl rfl (dd rfl) ?_
    refine o_val (v_pick_f rfl rfl) (dd rfl) ?_
    refine o_nil ?_
    refine c_cond_f rfl ?_
    refine c_skip ?_
    refine c_seq ?_
    refine c_region ?_
    refine o_step (s_alloc ti67 (dd rfl) (fun b9 => ?_))
    refine o_nil ?_
    refine c_seq ?_
    refine c_region ?_
    refine o_val (v_move rfl) (dd rfl) ?_
    refine o_val (v_move rfl) (dd rfl) ?_
    refine o_val (v_move rfl) (dd rfl) ?_
    refine o_val (v_nilCheck rfl) (dd rfl) ?_
    refine o_val (v_fieldAddrC 0 Tryz.underlying92 rfl ti25 (by decide) rfl) (dd rfl) ?_
    refine o_step (s_store1 ti25 rfl rfl (by first | exact OneC.lit rfl | exact OneC.sl (hX (by repeat constructor)) ) (pB (by repeat constructor)) (by first | decide | exact Nat.le_of_ble_eq_true rfl | simp) (by first | (dsimp only [List.set_cons_succ, List.set_cons_zero]; first | done | exact rfl) | rfl) (?_))
    refine o_val (v_nilCheck rfl) (dd rfl) ?_
    refine o_val (v_fieldAddrC 1 Tryz.underlying92 rfl ti4 (by decide) rfl) (dd rfl) ?_
    refine o_step (s_store1 ti4 rfl rfl (by first | exact OneC.lit rfl | exact OneC.sl (hX (by repeat constructor)) ) (pB (by repeat constructor)) (by first | decide | exact Nat.le_of_ble_eq_true rfl | simp) (by first | (dsimp only [List.set_cons_succ, List.set_cons_zero]; first | done | exact rfl) | rfl) (?_))
    refine o_nil ?_
    refine c_seq ?_
    refine c_region ?_
    refine o_val (v_load_all ⟨_, Tryz.underlying67⟩ ti67 rfl (hX (by repeat constructor)) rfl) (dd rfl) ?_
    refine o_step (s_store_all ti67 rfl rfl (by first | exact CellsV.lit rfl | exact CellsV.one (by first | exact OneC.lit rfl | exact OneC.sl (hX (by repeat constructor)) )) (by repeat (first | exact OneAll.nil | (refine OneAll.cons ?_ ?_; · first | exact OneC.lit rfl | exact OneC.sl (hX (by repeat constructor)) ) | exact OneAll.rd (hX (by repeat constructor)))) rfl (pB (by repeat constructor)) rfl (?_))
    refine o_nil ?_
    refine c_ret_cell Tryz.func74 rfl ⟨_, Tryz.underlying67⟩ ti67 rfl (hX (by repeat constructor)) fun w O hS => ?_
    exact ⟨(bv, .slice none 0 0, .slice none 0 0), rfl, trivial, Ent.get hS (eX (by repeat constructor))⟩
set_option maxRecDepth 100000 in
theorem inPatch_con (i : Nat) (bv : Value) (s : St9) (hs : s.1.length ≤ big9) (te : TypeId) (pe : Value) : Con Tryz.prog 31 [ptr i] [Blk i 92 [bv, .bool s.2], Sl eByte bv s.1, G1 te pe, G3] (γ := Value × Value × Value)
    (fun g => .agg #[.int .i64 (takePatch s).2.1, .string (takePatch s).2.2.1, g.2.1, g.2.2]) (fun _ => True)
    (fun g => [Blk i 92 [g.1, .bool (takePatch s).1.2], Sl eByte g.1 (takePatch s).1.1, Sl (eInt .i64) g.2.1 (takePatch s).2.2.2.1, Sl ePr g.2.2 (takePatch s).2.2.2.2]) := by
  have h := wholeT_con i bv s hs te pe
  refine con_of Tryz.func31 rfl (dd rfl) fun w0 O0 => ?_
  refine c_seq ?_
  refine c_region ?_
  refine o_step (s_alloc ti67 (dd rfl) (fun b2 => ?_))
  refine o_nil ?_
  refine c_seq ?_
  refine c_region ?_
  refine o_val (v_move rfl) (dd rfl) ?_
  refine o_val (v_move rfl) (dd rfl) ?_
  refine o_val (v_makeFunc rfl rfl) (dd rfl) ?_
  refine o_step (s_callf cl74 (h) rfl (dd rfl) (pXs (by repeat constructor)) fun g _ => ?_)
  refine o_step (s_store_all ti67 rfl rfl (by first | exact CellsV.lit rfl | exact CellsV.one (by first | exact OneC.lit rfl | exact OneC.sl (hX (by repeat constructor)) )) (by repeat (first | exact OneAll.nil | (refine OneAll.cons ?_ ?_; · first | exact OneC.lit rfl | exact OneC.sl (hX (by repeat constructor)) ) | exact OneAll.rd (hX (by repeat constructor)))) rfl (pB (by repeat constructor)) rfl (?_))
  refine o_nil ?_
  refine c_ret_cell Tryz.func31 rfl ⟨_, Tryz.underlying67⟩ ti67 rfl (hX (by repeat constructor)) fun w O hS => ?_
  exact ⟨g, rfl, trivial, Ent.get hS (eX (by repeat constructor))⟩
end Go.Proofs.YtmgkeippepeggaaGreatDoor
/- Chapter 09: what is read is short; a reading, of each kind. -/
namespace Go.Proofs.YtmgkeippepeggaaGreatDoor
open Go Go.Lib
theorem some_short {α : Type} {take : St9 → St9 × α} (h : ∀ s s' x, take s = (s', x) → s'.2 = false → s'.1.length < s.1.length) {most : Int} {s : St9} : (takeSome take most s).2.length ≤ s.1.length := by
  unfold takeSome
  split
  · exact Nat.zero_le _
  · rename_i h1
    split
    · exact Nat.zero_le _
    · rename_i h2
      have hb : (takeMany take (takeNum s).2.toNat (takeNum s).1 []).1.2 = false := by
        cases q : (takeMany take (takeNum s).2.toNat (takeNum s).1 []).1.2 with
        | false => rfl
        | true => exact absurd q h2
      have h3 := takeMany_short h (takeNum s).2.toNat (takeNum s).1 [] hb
      have h4 := many_len (take := take) (takeNum s).2.toNat (takeNum s).1 []
      have h5 := goes_len goes_num s
      simp only [List.length_nil] at h4
      omega
theorem less_text (m : Int) : ∀ s s' x, takeText m s = (s', x) → s'.2 = false → s'.1.length < s.1.length := fun _ _ _ e hb => takeText_less e hb
theorem prim_short {s : St9} (h : s.1.length ≤ big9) : (takePrim s).2.2.2.2.2.1.length ≤ 1000000 ∧ (takePrim s).2.2.2.2.2.2.length ≤ 1000000 := ⟨(prim_ok h).2.2.1.1, (prim_ok h).2.2.2.1⟩
theorem prims_short {m : Int} {s : St9} (h : s.1.length ≤ big9) : ShortL (takePrims m s).2 :=
  ⟨Nat.le_trans (some_short (take := takePrim) fun _ _ _ e hb => takePrim_less e hb) h, fun p hp => some_ok (most := m) (ok := fun p : Pr9 => p.2.2.2.2.1.length ≤ 1000000 ∧ p.2.2.2.2.2.length ≤ 1000000) goes_prim (fun s hs => prim_short hs) h p hp⟩
theorem patch_size {s : St9} (h : s.1.length ≤ big9) : SizeT (takePatch s).2 := by
  unfold takePatch
  split
  · exact ⟨Nat.zero_le _, Nat.zero_le _, Nat.zero_le _, fun _ h => by cases h⟩
  · exact rawT_ok h
theorem patch_short {s : St9} (h : s.1.length ≤ big9) : ShortT (takePatch s).2 := by
  obtain ⟨_, h1, h2, h3⟩ := patch_size h
  exact ⟨h1, h2, fun p hp => ⟨(h3 p hp).2.2.1.1, (h3 p hp).2.2.2.1⟩⟩
/-- What is read next, and how much it may be. -/
abbrev Ask9 := Int × Int × Int
def stepR (a : Ask9) (s : St9) : St9 :=
  if a.1 = 0 then (takeNum s).1 else if a.1 = 1 then (takeFlag s).1 else if a.1 = 2 then (takeText a.2.1 s).1 else if a.1 = 3 then (takeTexts a.2.1 a.2.2 s).1
  else if a.1 = 4 then (takePrim s).1 else if a.1 = 5 then (takePrims a.2.1 s).1 else if a.1 = 6 then (takePatch s).1 else s
theorem stepR_ends {B : ByteArray} {s : St9} (a : Ask9) (h : EndsB B s) : EndsB B (stepR a s) := by
  unfold stepR
  split
  · exact h.goes goes_num
  · split
    · exact h.goes goes_flag
    · split
      · exact h.goes (goes_text _)
      · split
        · exact h.goes (goes_some (goes_text _) _)
        · split
          · exact h.goes goes_prim
          · split
            · exact h.goes (goes_some goes_prim _)
            · split
              · exact h.goes goes_patch
              · exact h
end Go.Proofs.YtmgkeippepeggaaGreatDoor
/- Chapter 09: CodeBack's things, read as they were written. -/
namespace Go.Proofs.YtmgkeippepeggaaGreatDoor
open Go Go.SL Go.Lib
theorem sizeP {p : Pr9} (h : manyP p ≤ 1000000) : SizeP p := by
  have := fitP h
  exact ⟨this.1, this.2.1, this.2.2.1, this.2.2.2.1, this.2.2.2.2⟩
theorem sizeT {q : Pt9} (h : many7 q ≤ 100000) : SizeT q := by
  unfold many7 at h
  have := many3_len q.2.2.2
  exact ⟨by omega, by omega, by omega, fun p hp => sizeP (by have := manyP_mem hp; omega)⟩
/-- A thing that may not be. -/
def badI (x : It9) : Prop := x.2.1 < -1099511627776 ∨ 1099511627776 < x.2.1 ∨ x.1 < 0 ∨ 6 < x.1 ∨ (x.1 = 4 ∧ rightP x.2.2.2.2.1 = false) ∨ (x.1 = 6 ∧ rightT x.2.2.2.2.2.2 = false)
instance (x : It9) : Decidable (badI x) := by unfold badI; infer_instance
def okI (x : It9) : Prop := ¬ badI x ∧ ∀ p ∈ x.2.2.2.2.2.1, rightP p = true
theorem fitP_of {p : Pr9} (h : manyP p ≤ 1000000) : FitP p := by
  unfold manyP at h; unfold FitP far9; omega
theorem ok_parts {x : It9} (h : okI x) : (-1099511627776 ≤ x.2.1 ∧ x.2.1 ≤ 1099511627776) ∧ (0 ≤ x.1 ∧ x.1 ≤ 6) ∧ (x.1 = 4 → rightP x.2.2.2.2.1 = true) ∧ (x.1 = 6 → rightT x.2.2.2.2.2.2 = true) := by
  have h1 := h.1
  unfold badI at h1
  refine ⟨by omega, by omega, fun e => ?_, fun e => ?_⟩
  · cases hr : rightP x.2.2.2.2.1 with
    | true => rfl
    | false => exact absurd (.inr (.inr (.inr (.inr (.inl ⟨e, hr⟩))))) h1
  · cases hr : rightT x.2.2.2.2.2.2 with
    | true => rfl
    | false => exact absurd (.inr (.inr (.inr (.inr (.inr ⟨e, hr⟩))))) h1
theorem back0 {x : It9} {r : List UInt8} (h : okI x) (hf : fewI x ≤ 8000) (e : x.1 = 0) : takeNum (itB x ++ r, false) = ((r, false), x.2.1) := by
  rw [show itB x = numB x.2.1 by unfold itB; rw [if_pos e]]
  exact takeNum_enc (ok_parts h).1 _
theorem back1 {x : It9} {r : List UInt8} (h : okI x) (hf : fewI x ≤ 8000) (e : x.1 = 1) : takeFlag (itB x ++ r, false) = ((r, false), decide (0 < x.2.1)) := by
  rw [show itB x = flagB (decide (0 < x.2.1)) by unfold itB; rw [if_neg (by omega), if_pos e]]
  exact takeFlag_enc _ _
theorem back2 {x : It9} {r : List UInt8} (h : okI x) (hf : fewI x ≤ 8000) (e : x.1 = 2) : takeText x.2.2.1.size (itB x ++ r, false) = ((r, false), x.2.2.1) := by
  rw [show itB x = textB x.2.2.1 by unfold itB; rw [if_neg (by omega), if_neg (by omega), if_pos e]]
  exact takeText_enc (Int.le_refl _) (by unfold far9; unfold fewI at hf; omega) _
theorem back3 {x : It9} {r : List UInt8} (h : okI x) (hf : fewI x ≤ 8000) (e : x.1 = 3) : takeTexts x.2.2.2.1.length 8000 (itB x ++ r, false) = ((r, false), x.2.2.2.1) := by
  rw [show itB x = textsB x.2.2.2.1 by unfold itB; rw [if_neg (by omega), if_neg (by omega), if_neg (by omega), if_pos e]]
  exact takeSome_enc (ok := fun s => s.size ≤ 8000) (fun s r hs => takeText_enc (by omega) (by unfold far9; omega) r) (Int.le_refl _) (by unfold far9; unfold fewI at hf; omega) (fun s hs => by have := sumS_mem hs; unfold fewI at hf; omega) _
theorem back4 {x : It9} {r : List UInt8} (h : okI x) (hf : fewI x ≤ 8000) (e : x.1 = 4) : takePrim (itB x ++ r, false) = ((r, false), x.2.2.2.2.1) := by
  rw [show itB x = primB x.2.2.2.2.1 by unfold itB; rw [if_neg (by omega), if_neg (by omega), if_neg (by omega), if_neg (by omega), if_pos e]]
  exact takePrim_enc ((ok_parts h).2.2.1 e) (fitP_of (by unfold fewI at hf; omega)) _
theorem back5 {x : It9} {r : List UInt8} (h : okI x) (hf : fewI x ≤ 8000) (e : x.1 = 5) : takePrims x.2.2.2.2.2.1.length (itB x ++ r, false) = ((r, false), x.2.2.2.2.2.1) := by
  rw [show itB x = primsB x.2.2.2.2.2.1 by unfold itB; rw [if_neg (by omega), if_neg (by omega), if_neg (by omega), if_neg (by omega), if_neg (by omega), if_pos e]]
  have hl := many3_len x.2.2.2.2.2.1
  exact takeSome_enc (ok := fun p => rightP p = true ∧ FitP p) (fun p r hp => takePrim_enc hp.1 hp.2 r) (Int.le_refl _) (by unfold far9; unfold fewI at hf; omega) (fun p hp => ⟨h.2 p hp, fitP_of (by have := manyP_mem hp; unfold fewI at hf; omega)⟩) _
theorem back6 {x : It9} {r : List UInt8} (h : okI x) (hf : fewI x ≤ 8000) (e : x.1 = 6) : takePatch (itB x ++ r, false) = ((r, false), x.2.2.2.2.2.2) := by
  rw [show itB x = patchB x.2.2.2.2.2.2 by unfold itB; rw [if_neg (by omega), if_neg (by omega), if_neg (by omega), if_neg (by omega), if_neg (by omega), if_neg (by omega), if_pos e]]
  exact takePatch_enc ((ok_parts h).2.2.2 e) (fun p hp => fitP_of (by have := manyP_mem hp; unfold fewI many7 at hf; omega)) _
theorem wrB_drop {l : List It9} {k : Nat} (hk : k < l.length) : wrB (l.drop k) = itB l[k] ++ wrB (l.drop (k + 1)) := by
  unfold wrB; rw [List.drop_eq_getElem_cons hk]; rfl
theorem take_all {α : Type} {P : α → Prop} {l : List α} {k : Nat} (hk : k < l.length) (h : ∀ x ∈ l.take k, P x) (h1 : P l[k]) : ∀ x ∈ l.take (k + 1), P x := by
  rw [List.take_succ_eq_append_getElem hk]
  intro x hx
  rcases List.mem_append.1 hx with hx | hx
  · exact h x hx
  · rw [List.mem_singleton.1 hx]; exact h1
end Go.Proofs.YtmgkeippepeggaaGreatDoor
/- Chapter 09: CodeBack. -/
namespace Go.Proofs.YtmgkeippepeggaaGreatDoor
open Go Go.SL Go.Lib
attribute [local irreducible] Cfg Kont StepK Val Con Qops Any Sl Own Blk BlkR Rd Pu ExA AllA Has Pick Ent Elem Beside Callable TI Lone OwnO AndA
set_option maxRecDepth 100000 in
theorem back_con (v : Value) (l : List It9) (hl : (l.map fewI).sum ≤ 1000000000000) (hll : l.length ≤ 1000000000000) (hi : ∀ x ∈ l, IntsI x) (te : TypeId) (pe : Value) : Con Tryz.prog 6 [v] [Sl eIt v l, G1 te pe, G3] (γ := Unit) (fun _ => .bool true) (fun _ => True) (fun _ => []) := by
  have hal := alive_con te pe
  have hfw := few_con v l hl hll
  refine con_of Tryz.func6 rfl (dd rfl) fun w0 O0 => ?_
  refine c_seq ?_
  refine c_region ?_
  refine o_val (v_assign rfl) (dd rfl) ?_
  refine o_nil ?_
  refine c_seq ?_
  refine c_seq ?_
  refine c_region ?_
  refine o_val (v_move rfl) (dd rfl) ?_
  refine o_step (s_callf_keep cl9 (hfw) rfl (dd rfl) (rX (by repeat constructor)) (fun _ => sX) (fun _ _ => ?_))
  refine o_val (v_not rfl) (dd rfl) ?_
  refine o_nil ?_
  refine c_cond rfl (fun hf => ?_) (fun hf => ?_)
  · skip
    refine c_seq ?_
    refine c_region ?_
    refine o_step (s_callf cl10 (hal) rfl (dd rfl) (pXs (by repeat constructor)) fun _ _ => ?_)
    refine o_val (v_assign rfl) (dd rfl) ?_
    refine o_nil ?_
    refine c_ret1 Tryz.func6 rfl rfl fun w O hS => ?_
    exact ⟨(), rfl, trivial, trivial⟩
  have hf' : fewP l = true := by simpa using hf
  obtain ⟨h30, h80⟩ := few_true hf'
  have hwt := wrB_len h80 h30
  refine c_skip ?_
  refine c_seq ?_
  refine c_region ?_
  refine o_step (s_alloc ti27 (dd rfl) (fun b3 => ?_))
  refine o_nil ?_
  refine c_seq ?_
  refine c_seq ?_
  refine c_region ?_
  refine o_val (v_move rfl) (dd rfl) ?_
  refine o_val ((by first | exact v_len_form Tryz.underlying22 rfl | exact v_len_sl Tryz.underlying22 rfl (hX (by repeat constructor)))) (dd rfl) ?_
  refine o_val (v_move rfl) (dd rfl) ?_
  refine o_nil ?_
  refine c_block ?_
  refine c_loopR (γ := Nat × Value) [(0, _), (2, _), (3, _), (16, _), (17, _)] (fun g => l.length - g.1) (fun g => g.1 ≤ l.length ∧ ∀ x ∈ l.take g.1, okI x) (fun g => [(18, .int .i64 g.1)]) (fun g => [Blk b3 27 [g.2], Own eByte 5 g.2 (wrB (l.take g.1)), Sl eIt v l, G1 te pe, G3]) ((0, .slice none 0 0)) (⟨Nat.zero_le _, fun x hx => by cases hx⟩) (by repeat (first | exact trivial | refine ⟨rfl, ?_⟩)) (eX (by repeat constructor)) ?_
  rintro ⟨k, w⟩ ⟨hk, hok⟩ IH
  dsimp only at hk hok ⊢
  try dsimp only [List.cons_append, List.nil_append]
  refine c_seq ?_
  refine c_region ?_
  refine o_val (v_lt rfl rfl) (dd rfl) ?_
  refine o_nil ?_
  refine c_seq ?_
  refine c_cond_p rfl (fun hlt => ?_) (fun hlt => ?_)
  · have hk' : k < l.length := by omega
    have h8 := few_mem h80 hk'
    have hI := hi _ (List.getElem_mem hk')
    have hpt := fun g => put_con b3 w (wrB (l.take k)) l[k] g h8 hI (by have := hwt k; omega)
    have hst := wrB_take hk'
    have hr4 := fun o w => rightRef_con l[k].2.2.2.2.1 o w (sizeP (by unfold fewI at h8; omega))
    have hr7 := fun d q => rightTRef_con l[k].2.2.2.2.2.2 d q (sizeT (by unfold fewI at h8; omega))
    have hrP : ∀ p ∈ l[k].2.2.2.2.2.1, SizeP p := fun p hp => sizeP (by have := manyP_mem hp; unfold fewI at h8; omega)
    refine c_skip ?_
    refine c_seq ?_
    refine c_block ?_
    refine c_seq ?_
    refine c_region ?_
    refine o_val ((by first | exact v_indexAddrN Tryz.underlying22 ti36 rfl rfl (hX (by repeat constructor)) (by omega) | exact v_indexAddr Tryz.underlying22 ti36 rfl rfl (hX (by repeat constructor)) (by omega))) (dd rfl) ?_
    refine o_step (s_load_shape ⟨_, Tryz.underlying36⟩ ti36 rfl (dd rfl) (by repeat (first|exact el1 (by omega)|exact el2 (by omega)|exact el3 (by omega)|apply Elem.there)) (it_open) (fun g => ?_))
    refine o_step (s_alloc ti36 (dd rfl) (fun b5 => ?_))
    refine o_step (s_store_all ti36 rfl rfl (by first | exact CellsV.lit rfl | exact CellsV.one (by first | exact OneC.lit rfl | exact OneC.sl (hX (by repeat constructor)) )) (by repeat (first | exact OneAll.nil | (refine OneAll.cons ?_ ?_; · first | exact OneC.lit rfl | exact OneC.sl (hX (by repeat constructor)) ) | exact OneAll.rd (hX (by repeat constructor)))) rfl (pB (by repeat constructor)) rfl (?_))
    refine o_nil ?_
    refine c_seq ?_
    refine c_seq ?_
    obtain ⟨lv, po, pw, ps, qd, ql⟩ := g
    dsimp only [itC, itL, List.cons_append, List.nil_append]
    obtain ⟨P, hP⟩ : ∃ P, P = decide (badI l[k]) := ⟨_, rfl⟩
    refine c_joinR (γ := Unit) [(0, _), (2, _), (3, _), (5, _), (16, _), (17, _), (18, _), (19, _), (20, _), (21, _)] (fun _ => True) (fun _ => [(61, .bool P)]) (fun _ => [Blk b5 36 (itC l[k] ⟨lv, po, pw, ps, qd, ql⟩), Sl eStr lv l[k].2.2.2.1, Sl eStr po l[k].2.2.2.2.1.2.2.2.2.1, Sl eStr pw l[k].2.2.2.2.1.2.2.2.2.2, Sl ePr ps l[k].2.2.2.2.2.1, Sl (eInt .i64) qd l[k].2.2.2.2.2.2.2.2.1, Sl ePr ql l[k].2.2.2.2.2.2.2.2.2, Blk b3 27 [w], Own eByte 5 w (wrB (l.take k)), Sl eIt v l, G1 te pe, G3]) (by repeat (first | exact trivial | refine ⟨rfl, ?_⟩)) ?_ ?_
    rotate_left
    · intro MEET
      unfold badI at hP
      refine c_region ?_
      refine o_val (v_fieldAddrC 1 Tryz.underlying36 rfl ti3 (by decide) rfl) (dd rfl) ?_
      refine o_val (v_load lone3 rfl (hX (by repeat constructor)) rfl) (dd rfl) ?_
      refine o_val (v_lt rfl rfl) (dd rfl) ?_
      refine o_val (v_move rfl) (dd rfl) ?_
      refine o_guard_f rfl rfl (fun g1 => ?_) (fun g1 => ?_)
      · skip
        refine o_val (v_fieldAddrC 1 Tryz.underlying36 rfl ti3 (by decide) rfl) (dd rfl) ?_
        refine o_on rfl rfl ?_
        refine o_val (v_load lone3 rfl (hX (by repeat constructor)) rfl) (dd rfl) ?_
        refine o_on rfl rfl ?_
        refine o_val (v_gt rfl rfl) (dd rfl) ?_
        refine o_val (v_pick_f rfl rfl) (dd rfl) ?_
        refine o_val (v_move rfl) (dd rfl) ?_
        refine o_guard_f rfl rfl (fun g2 => ?_) (fun g2 => ?_)
        · skip
          refine o_val (v_fieldAddrC 0 Tryz.underlying36 rfl ti3 (by decide) rfl) (dd rfl) ?_
          refine o_on rfl rfl ?_
          refine o_val (v_load lone3 rfl (hX (by repeat constructor)) rfl) (dd rfl) ?_
          refine o_on rfl rfl ?_
          refine o_val (v_lt rfl rfl) (dd rfl) ?_
          refine o_val (v_pick_f rfl rfl) (dd rfl) ?_
          refine o_val (v_move rfl) (dd rfl) ?_
          refine o_guard_f rfl rfl (fun g3 => ?_) (fun g3 => ?_)
          · skip
            refine o_val (v_fieldAddrC 0 Tryz.underlying36 rfl ti3 (by decide) rfl) (dd rfl) ?_
            refine o_on rfl rfl ?_
            refine o_val (v_load lone3 rfl (hX (by repeat constructor)) rfl) (dd rfl) ?_
            refine o_on rfl rfl ?_
            refine o_val (v_gt rfl rfl) (dd rfl) ?_
            refine o_val (v_pick_f rfl rfl) (dd rfl) ?_
            refine o_val (v_move rfl) (dd rfl) ?_
            refine o_guard_f rfl rfl (fun g4 => ?_) (fun g4 => ?_)
            · skip
              refine o_val (v_fieldAddrC 0 Tryz.underlying36 rfl ti3 (by decide) rfl) (dd rfl) ?_
              refine o_on rfl rfl ?_
              refine o_val (v_load lone3 rfl (hX (by repeat constructor)) rfl) (dd rfl) ?_
              refine o_on rfl rfl ?_
              refine o_val (v_eq rfl rfl) (dd rfl) ?_
              refine o_on rfl rfl ?_
              refine o_val (v_move rfl) (dd rfl) ?_
              refine o_guard_t rfl rfl (fun g5 => ?_) (fun g5 => ?_)
              · skip
                refine o_val (v_fieldAddrC 4 Tryz.underlying36 rfl ti30 (by decide) rfl) (dd rfl) ?_
                refine o_on rfl rfl ?_
                refine o_val (v_load_sub (ds := [.int .i64 l[k].2.2.2.2.1.1, .string l[k].2.2.2.2.1.2.1, .string l[k].2.2.2.2.1.2.2.1, .int .i64 l[k].2.2.2.2.1.2.2.2.1, po, pw]) ⟨_, Tryz.underlying30⟩ ti30 rfl (hX (by repeat constructor)) (by exact Nat.le_of_ble_eq_true rfl) rfl) (dd rfl) ?_
                refine o_on rfl rfl ?_
                refine o_step (s_callf_keep cl21 (hr4 po pw) rfl (dd rfl) (rX (by repeat constructor)) (fun _ => sX) (fun _ _ => ?_))
                refine o_on rfl rfl ?_
                refine o_val (v_not rfl) (dd rfl) ?_
                refine o_on rfl rfl ?_
                refine o_val (v_pick_t rfl rfl) (dd rfl) ?_
                refine o_val (v_pick_f rfl rfl) (dd rfl) ?_
                refine o_val (v_move rfl) (dd rfl) ?_
                refine o_guard rfl rfl (fun g6 => ?_) (fun g6 => ?_)
                · have hr : rightP l[k].2.2.2.2.1 = true := by simpa using g6
                  refine o_val (v_fieldAddrC 0 Tryz.underlying36 rfl ti3 (by decide) rfl) (dd rfl) ?_
                  refine o_on rfl rfl ?_
                  refine o_val (v_load lone3 rfl (hX (by repeat constructor)) rfl) (dd rfl) ?_
                  refine o_on rfl rfl ?_
                  refine o_val (v_eq rfl rfl) (dd rfl) ?_
                  refine o_on rfl rfl ?_
                  refine o_val (v_move rfl) (dd rfl) ?_
                  refine o_guard_t rfl rfl (fun g7 => ?_) (fun g7 => ?_)
                  · skip
                    exact absurd g7 (by omega)
                  · skip
                    refine o_off rfl rfl rfl (dd rfl) ?_
                    refine o_off rfl rfl rfl (dd rfl) ?_
                    refine o_off rfl rfl rfl (dd rfl) ?_
                    refine o_off rfl rfl rfl (dd rfl) ?_
                    refine o_on rfl rfl ?_
                    refine o_val (v_pick_f rfl rfl) (dd rfl) ?_
                    refine o_val (v_pick_f rfl rfl) (dd rfl) ?_
                    refine o_nil ?_
                    have e : P = false := by rw [hP]; exact decide_eq_false (by rintro (h | h | h | h | ⟨h, q⟩ | ⟨h, q⟩) <;> first | omega | (rw [hr] at q; cases q))
                    rw [e] at MEET
                    refine c_use (MEET (()) (trivial)) (by repeat (first | exact trivial | refine ⟨rfl, ?_⟩)) (eX (by repeat constructor))
                · have hr : rightP l[k].2.2.2.2.1 = false := by simpa using g6
                  refine o_off rfl rfl rfl (dd rfl) ?_
                  refine o_off rfl rfl rfl (dd rfl) ?_
                  refine o_off rfl rfl rfl (dd rfl) ?_
                  refine o_off rfl rfl rfl (dd rfl) ?_
                  refine o_offu rfl rfl (dd rfl) ?_
                  refine o_offu rfl rfl (dd rfl) ?_
                  refine o_offu rfl rfl (dd rfl) ?_
                  refine o_offu rfl rfl (dd rfl) ?_
                  refine o_off rfl rfl rfl (dd rfl) ?_
                  refine o_val (v_pick_t rfl rfl) (dd rfl) ?_
                  refine o_nil ?_
                  have e : P = true := by rw [hP]; exact decide_eq_true (.inr (.inr (.inr (.inr (.inl ⟨g5, hr⟩)))))
                  rw [e] at MEET
                  refine c_use (MEET (()) (trivial)) (by repeat (first | exact trivial | refine ⟨rfl, ?_⟩)) (eX (by repeat constructor))
              · skip
                refine o_off rfl rfl rfl (dd rfl) ?_
                refine o_off rfl rfl rfl (dd rfl) ?_
                refine o_off rfl rfl rfl (dd rfl) ?_
                refine o_off rfl rfl rfl (dd rfl) ?_
                refine o_on rfl rfl ?_
                refine o_val (v_pick_f rfl rfl) (dd rfl) ?_
                refine o_val (v_pick_f rfl rfl) (dd rfl) ?_
                refine o_val (v_move rfl) (dd rfl) ?_
                refine o_on rfl rfl ?_
                refine o_val (v_fieldAddrC 0 Tryz.underlying36 rfl ti3 (by decide) rfl) (dd rfl) ?_
                refine o_on rfl rfl ?_
                refine o_val (v_load lone3 rfl (hX (by repeat constructor)) rfl) (dd rfl) ?_
                refine o_on rfl rfl ?_
                refine o_val (v_eq rfl rfl) (dd rfl) ?_
                refine o_on rfl rfl ?_
                refine o_val (v_move rfl) (dd rfl) ?_
                refine o_guard_t rfl rfl (fun g7 => ?_) (fun g7 => ?_)
                · skip
                  refine o_val (v_fieldAddrC 11 Tryz.underlying36 rfl ti34 (by decide) rfl) (dd rfl) ?_
                  refine o_on rfl rfl ?_
                  refine o_val (v_load_sub (ds := [.int .i64 l[k].2.2.2.2.2.2.1, .string l[k].2.2.2.2.2.2.2.1, qd, ql]) ⟨_, Tryz.underlying34⟩ ti34 rfl (hX (by repeat constructor)) (by exact Nat.le_of_ble_eq_true rfl) rfl) (dd rfl) ?_
                  refine o_on rfl rfl ?_
                  refine o_step (s_callf_keep cl22 (hr7 qd ql) rfl (dd rfl) (rX (by repeat constructor)) (fun _ => sX) (fun _ _ => ?_))
                  refine o_on rfl rfl ?_
                  refine o_val (v_not rfl) (dd rfl) ?_
                  refine o_on rfl rfl ?_
                  refine o_val (v_pick_t rfl rfl) (dd rfl) ?_
                  refine o_val (v_pick_f rfl rfl) (dd rfl) ?_
                  refine o_nil ?_
                  have e : P = !rightT l[k].2.2.2.2.2.2 := by
                    rw [hP]
                    rcases Bool.eq_false_or_eq_true (rightT l[k].2.2.2.2.2.2) with hr | hr
                    · rw [show (!rightT l[k].2.2.2.2.2.2) = false by rw [hr]; rfl]
                      exact decide_eq_false (by rintro (h | h | h | h | ⟨h, q⟩ | ⟨h, q⟩) <;> first | omega | (rw [hr] at q; cases q))
                    · rw [show (!rightT l[k].2.2.2.2.2.2) = true by rw [hr]; rfl]
                      exact decide_eq_true (.inr (.inr (.inr (.inr (.inr ⟨g7, hr⟩)))))
                  rw [e] at MEET
                  refine c_use (MEET (()) (trivial)) (by repeat (first | exact trivial | refine ⟨rfl, ?_⟩)) (eX (by repeat constructor))
                · skip
                  refine o_off rfl rfl rfl (dd rfl) ?_
                  refine o_off rfl rfl rfl (dd rfl) ?_
                  refine o_off rfl rfl rfl (dd rfl) ?_
                  refine o_off rfl rfl rfl (dd rfl) ?_
                  refine o_on rfl rfl ?_
                  refine o_val (v_pick_f rfl rfl) (dd rfl) ?_
                  refine o_val (v_pick_f rfl rfl) (dd rfl) ?_
                  refine o_nil ?_
                  have e : P = false := by rw [hP]; exact decide_eq_false (by rintro (h | h | h | h | ⟨h, q⟩ | ⟨h, q⟩) <;> omega)
                  rw [e] at MEET
                  refine c_use (MEET (()) (trivial)) (by repeat (first | exact trivial | refine ⟨rfl, ?_⟩)) (eX (by repeat constructor))
            · skip
              refine o_off rfl rfl rfl (dd rfl) ?_
              refine o_off rfl rfl rfl (dd rfl) ?_
              refine o_off rfl rfl rfl (dd rfl) ?_
              refine o_off rfl rfl rfl (dd rfl) ?_
              refine o_offu rfl rfl (dd rfl) ?_
              refine o_offu rfl rfl (dd rfl) ?_
              refine o_offu rfl rfl (dd rfl) ?_
              refine o_offu rfl rfl (dd rfl) ?_
              refine o_off rfl rfl rfl (dd rfl) ?_
              refine o_val (v_pick_t rfl rfl) (dd rfl) ?_
              refine o_val (v_move rfl) (dd rfl) ?_
              refine o_off rfl rfl rfl (dd rfl) ?_
              refine o_off rfl rfl rfl (dd rfl) ?_
              refine o_off rfl rfl rfl (dd rfl) ?_
              refine o_off rfl rfl rfl (dd rfl) ?_
              refine o_offu rfl rfl (dd rfl) ?_
              refine o_offu rfl rfl (dd rfl) ?_
              refine o_offu rfl rfl (dd rfl) ?_
              refine o_offu rfl rfl (dd rfl) ?_
              refine o_off rfl rfl rfl (dd rfl) ?_
              refine o_val (v_pick_t rfl rfl) (dd rfl) ?_
              refine o_nil ?_
              have e : P = true := by rw [hP]; exact decide_eq_true (by omega)
              rw [e] at MEET
              refine c_use (MEET (()) (trivial)) (by repeat (first | exact trivial | refine ⟨rfl, ?_⟩)) (eX (by repeat constructor))
          · skip
            refine o_off rfl rfl rfl (dd rfl) ?_
            refine o_off rfl rfl rfl (dd rfl) ?_
            refine o_off rfl rfl rfl (dd rfl) ?_
            refine o_val (v_pick_t rfl rfl) (dd rfl) ?_
            refine o_val (v_move rfl) (dd rfl) ?_
            refine o_off rfl rfl rfl (dd rfl) ?_
            refine o_off rfl rfl rfl (dd rfl) ?_
            refine o_off rfl rfl rfl (dd rfl) ?_
            refine o_off rfl rfl rfl (dd rfl) ?_
            refine o_offu rfl rfl (dd rfl) ?_
            refine o_offu rfl rfl (dd rfl) ?_
            refine o_offu rfl rfl (dd rfl) ?_
            refine o_offu rfl rfl (dd rfl) ?_
            refine o_off rfl rfl rfl (dd rfl) ?_
            refine o_val (v_pick_t rfl rfl) (dd rfl) ?_
            refine o_val (v_move rfl) (dd rfl) ?_
            refine o_off rfl rfl rfl (dd rfl) ?_
            refine o_off rfl rfl rfl (dd rfl) ?_
            refine o_off rfl rfl rfl (dd rfl) ?_
            refine o_off rfl rfl rfl (dd rfl) ?_
            refine o_offu rfl rfl (dd rfl) ?_
            refine o_offu rfl rfl (dd rfl) ?_
            refine o_offu rfl rfl (dd rfl) ?_
            refine o_offu rfl rfl (dd rfl) ?_
            refine o_off rfl rfl rfl (dd rfl) ?_
            refine o_val (v_pick_t rfl rfl) (dd rfl) ?_
            refine o_nil ?_
            have e : P = true := by rw [hP]; exact decide_eq_true (by omega)
            rw [e] at MEET
            refine c_use (MEET (()) (trivial)) (by repeat (first | exact trivial | refine ⟨rfl, ?_⟩)) (eX (by repeat constructor))
        · skip
          refine o_off rfl rfl rfl (dd rfl) ?_
          refine o_off rfl rfl rfl (dd rfl) ?_
          refine o_off rfl rfl rfl (dd rfl) ?_
          refine o_val (v_pick_t rfl rfl) (dd rfl) ?_
          refine o_val (v_move rfl) (dd rfl) ?_
          refine o_off rfl rfl rfl (dd rfl) ?_
          refine o_off rfl rfl rfl (dd rfl) ?_
          refine o_off rfl rfl rfl (dd rfl) ?_
          refine o_val (v_pick_t rfl rfl) (dd rfl) ?_
          refine o_val (v_move rfl) (dd rfl) ?_
          refine o_off rfl rfl rfl (dd rfl) ?_
          refine o_off rfl rfl rfl (dd rfl) ?_
          refine o_off rfl rfl rfl (dd rfl) ?_
          refine o_off rfl rfl rfl (dd rfl) ?_
          refine o_offu rfl rfl (dd rfl) ?_
          refine o_offu rfl rfl (dd rfl) ?_
          refine o_offu rfl rfl (dd rfl) ?_
          refine o_offu rfl rfl (dd rfl) ?_
          refine o_off rfl rfl rfl (dd rfl) ?_
          refine o_val (v_pick_t rfl rfl) (dd rfl) ?_
          refine o_val (v_move rfl) (dd rfl) ?_
          refine o_off rfl rfl rfl (dd rfl) ?_
          refine o_off rfl rfl rfl (dd rfl) ?_
          refine o_off rfl rfl rfl (dd rfl) ?_
          refine o_off rfl rfl rfl (dd rfl) ?_
          refine o_offu rfl rfl (dd rfl) ?_
          refine o_offu rfl rfl (dd rfl) ?_
          refine o_offu rfl rfl (dd rfl) ?_
          refine o_offu rfl rfl (dd rfl) ?_
          refine o_off rfl rfl rfl (dd rfl) ?_
          refine o_val (v_pick_t rfl rfl) (dd rfl) ?_
          refine o_nil ?_
          have e : P = true := by rw [hP]; exact decide_eq_true (by omega)
          rw [e] at MEET
          refine c_use (MEET (()) (trivial)) (by repeat (first | exact trivial | refine ⟨rfl, ?_⟩)) (eX (by repeat constructor))
      · skip
        refine o_off rfl rfl rfl (dd rfl) ?_
        refine o_off rfl rfl rfl (dd rfl) ?_
        refine o_off rfl rfl rfl (dd rfl) ?_
        refine o_val (v_pick_t rfl rfl) (dd rfl) ?_
        refine o_val (v_move rfl) (dd rfl) ?_
        refine o_off rfl rfl rfl (dd rfl) ?_
        refine o_off rfl rfl rfl (dd rfl) ?_
        refine o_off rfl rfl rfl (dd rfl) ?_
        refine o_val (v_pick_t rfl rfl) (dd rfl) ?_
        refine o_val (v_move rfl) (dd rfl) ?_
        refine o_off rfl rfl rfl (dd rfl) ?_
        refine o_off rfl rfl rfl (dd rfl) ?_
        refine o_off rfl rfl rfl (dd rfl) ?_
        refine o_val (v_pick_t rfl rfl) (dd rfl) ?_
        refine o_val (v_move rfl) (dd rfl) ?_
        refine o_off rfl rfl rfl (dd rfl) ?_
        refine o_off rfl rfl rfl (dd rfl) ?_
        refine o_off rfl rfl rfl (dd rfl) ?_
        refine o_off rfl rfl rfl (dd rfl) ?_
        refine o_offu rfl rfl (dd rfl) ?_
        refine o_offu rfl rfl (dd rfl) ?_
        refine o_offu rfl rfl (dd rfl) ?_
        refine o_offu rfl rfl (dd rfl) ?_
        refine o_off rfl rfl rfl (dd rfl) ?_
        refine o_val (v_pick_t rfl rfl) (dd rfl) ?_
        refine o_val (v_move rfl) (dd rfl) ?_
        refine o_off rfl rfl rfl (dd rfl) ?_
        refine o_off rfl rfl rfl (dd rfl) ?_
        refine o_off rfl rfl rfl (dd rfl) ?_
        refine o_off rfl rfl rfl (dd rfl) ?_
        refine o_offu rfl rfl (dd rfl) ?_
        refine o_offu rfl rfl (dd rfl) ?_
        refine o_offu rfl rfl (dd rfl) ?_
        refine o_offu rfl rfl (dd rfl) ?_
        refine o_off rfl rfl rfl (dd rfl) ?_
        refine o_val (v_pick_t rfl rfl) (dd rfl) ?_
        refine o_nil ?_
        have e : P = true := by rw [hP]; exact decide_eq_true (by omega)
        rw [e] at MEET
        refine c_use (MEET (()) (trivial)) (by repeat (first | exact trivial | refine ⟨rfl, ?_⟩)) (eX (by repeat constructor))
    rintro - -
    subst hP
    dsimp only [itC, List.cons_append, List.nil_append]
    refine c_cond_p rfl (fun hbad => ?_) (fun hbad => ?_)
    · skip
      refine c_seq ?_
      refine c_region ?_
      refine o_step (s_callf cl10 (hal) rfl (dd rfl) (pXs (by repeat constructor)) fun _ _ => ?_)
      refine o_val (v_assign rfl) (dd rfl) ?_
      refine o_nil ?_
      refine c_ret1 Tryz.func6 rfl rfl fun w O hS => ?_
      exact ⟨(), rfl, trivial, trivial⟩
    refine c_skip ?_
    refine c_seq ?_
    refine c_seq ?_
    refine c_region ?_
    refine o_val (v_fieldAddrC 10 Tryz.underlying36 rfl ti31 (by decide) rfl) (dd rfl) ?_
    refine o_val (v_load lone31 rfl (hX (by repeat constructor)) rfl) (dd rfl) ?_
    refine o_val ((by first | exact v_len_form Tryz.underlying31 rfl | exact v_len_sl Tryz.underlying31 rfl (hX (by repeat constructor)))) (dd rfl) ?_
    refine o_val (v_move rfl) (dd rfl) ?_
    refine o_nil ?_
    refine c_block ?_
    refine c_loopR (γ := Nat) [(0, _), (2, _), (3, _), (5, _), (16, _), (17, _), (18, _), (19, _), (20, _), (21, _), (61, _), (63, _), (64, _), (65, _)] (fun j => l[k].2.2.2.2.2.1.length - j) (fun j => j ≤ l[k].2.2.2.2.2.1.length ∧ ∀ p ∈ l[k].2.2.2.2.2.1.take j, rightP p = true) (fun j => [(66, .int .i64 j)]) (fun _ => [Blk b5 36 (itC l[k] ⟨lv, po, pw, ps, qd, ql⟩), Sl eStr lv l[k].2.2.2.1, Sl eStr po l[k].2.2.2.2.1.2.2.2.2.1, Sl eStr pw l[k].2.2.2.2.1.2.2.2.2.2, Sl ePr ps l[k].2.2.2.2.2.1, Sl (eInt .i64) qd l[k].2.2.2.2.2.2.2.2.1, Sl ePr ql l[k].2.2.2.2.2.2.2.2.2, Blk b3 27 [w], Own eByte 5 w (wrB (l.take k)), Sl eIt v l, G1 te pe, G3]) (0) (⟨Nat.zero_le _, fun p hp => by cases hp⟩) (by repeat (first | exact trivial | refine ⟨rfl, ?_⟩)) (eX (by repeat constructor)) ?_
    rintro j ⟨hj, hjr⟩ IH2
    try dsimp only [List.cons_append, List.nil_append]
    refine c_seq ?_
    refine c_region ?_
    refine o_val (v_lt rfl rfl) (dd rfl) ?_
    refine o_nil ?_
    refine c_seq ?_
    refine c_cond_p rfl (fun hlt2 => ?_) (fun hlt2 => ?_)
    · have hj' : j < l[k].2.2.2.2.2.1.length := by omega
      have hmany := many3_len l[k].2.2.2.2.2.1
      have hfI : fewI l[k] = l[k].2.2.1.size + (many3 l[k].2.2.2.2.2.1 + 1 + manyP l[k].2.2.2.2.1) + many7 l[k].2.2.2.2.2.2 + l[k].2.2.2.1.length + sumS l[k].2.2.2.1 := rfl
      have hr := fun o w => rightRef_con l[k].2.2.2.2.2.1[j] o w (hrP _ (List.getElem_mem hj'))
      refine c_skip ?_
      refine c_seq ?_
      refine c_block ?_
      refine c_seq ?_
      refine c_region ?_
      refine o_val ((by first | exact v_indexAddrN Tryz.underlying31 ti30 rfl rfl (hX (by repeat constructor)) (by omega) | exact v_indexAddr Tryz.underlying31 ti30 rfl rfl (hX (by repeat constructor)) (by omega))) (dd rfl) ?_
      refine o_step (s_load_shape ⟨_, Tryz.underlying30⟩ ti30 rfl (dd rfl) (by repeat (first|exact el1 (by omega)|exact el2 (by omega)|exact el3 (by omega)|apply Elem.there)) (pr_open) (fun g => ?_))
      refine o_step (s_alloc ti30 (dd rfl) (fun b7 => ?_))
      refine o_step (s_store_all ti30 rfl rfl (by first | exact CellsV.lit rfl | exact CellsV.one (by first | exact OneC.lit rfl | exact OneC.sl (hX (by repeat constructor)) )) (by repeat (first | exact OneAll.nil | (refine OneAll.cons ?_ ?_; · first | exact OneC.lit rfl | exact OneC.sl (hX (by repeat constructor)) ) | exact OneAll.rd (hX (by repeat constructor)))) rfl (pB (by repeat constructor)) rfl (?_))
      refine o_nil ?_
      refine c_seq ?_
      refine c_region ?_
      refine o_val (v_load_all ⟨_, Tryz.underlying30⟩ ti30 rfl (hX (by repeat constructor)) rfl) (dd rfl) ?_
      refine o_step (s_callf_keep cl21 (hr g.1 g.2) rfl (dd rfl) (rX (by repeat constructor)) (fun _ => sX) (fun _ _ => ?_))
      refine o_val (v_not rfl) (dd rfl) ?_
      refine o_nil ?_
      refine c_cond rfl (fun hq => ?_) (fun hq => ?_)
      · skip
        refine c_seq ?_
        refine c_region ?_
        refine o_step (s_callf cl10 (hal) rfl (dd rfl) (pXs (by repeat constructor)) fun _ _ => ?_)
        refine o_val (v_assign rfl) (dd rfl) ?_
        refine o_nil ?_
        refine c_ret1 Tryz.func6 rfl rfl fun w O hS => ?_
        exact ⟨(), rfl, trivial, trivial⟩
      refine c_skip ?_
      refine c_inBlock ?_
      refine c_region ?_
      refine o_val ((by first | exact v_add64 rfl rfl (by omega) | exact v_add rfl rfl)) (dd rfl) ?_
      refine o_val (v_move rfl) (dd rfl) ?_
      refine o_nil ?_
      refine c_use (IH2 (j + 1) (by first | omega | (dsimp only; omega)) (⟨by omega, take_all hj' hjr (by simpa using hq)⟩)) (by repeat (first | exact trivial | refine ⟨rfl, ?_⟩)) (eX (by repeat constructor))
    have hjl : l[k].2.2.2.2.2.1.take j = l[k].2.2.2.2.2.1 := List.take_of_length_le (by omega)
    rw [hjl] at hjr
    have hok1 := take_all hk' hok ⟨hbad, hjr⟩
    refine c_exit rfl ?_
    refine c_region ?_
    refine o_val (v_load_all ⟨_, Tryz.underlying36⟩ ti36 rfl (hX (by repeat constructor)) rfl) (dd rfl) ?_
    refine o_step (s_callf cl11 (hpt ⟨lv, po, pw, ps, qd, ql⟩) rfl (dd rfl) (pXs (by repeat constructor)) fun w1 _ => ?_)
    refine o_nil ?_
    refine c_inBlock ?_
    refine c_region ?_
    refine o_val ((by first | exact v_add64 rfl rfl (by omega) | exact v_add rfl rfl)) (dd rfl) ?_
    refine o_val (v_move rfl) (dd rfl) ?_
    refine o_nil ?_
    rw [← hst]
    refine c_use (IH ((k + 1, w1)) (by first | omega | (dsimp only; omega)) (⟨by dsimp only; omega, hok1⟩)) (by repeat (first | exact trivial | refine ⟨rfl, ?_⟩)) (eX (by repeat constructor))
  have hkl : l.take k = l := List.take_of_length_le (by omega)
  rw [hkl] at hok ⊢
  have hwl : (wrB l).length ≤ 547000 := by have := hwt l.length; rwa [List.take_of_length_le (Nat.le_refl _)] at this
  refine c_exit rfl ?_
  refine c_seq ?_
  refine c_region ?_
  refine o_step (s_callf_keep cl12 (bytes_con b3 w (wrB l) (by omega)) rfl (dd rfl) (rX (by repeat constructor)) (fun _ => sX) (fun r _ => ?_))
  refine o_step (s_callf cl13 (of_con r (wrB l) (by omega)) rfl (dd rfl) (pXs (by repeat constructor)) fun i _ => ?_)
  refine o_val (v_assign rfl) (dd rfl) ?_
  refine o_nil ?_
  refine c_seq ?_
  refine c_seq ?_
  refine c_region ?_
  refine o_val (v_move rfl) (dd rfl) ?_
  refine o_val (v_eq_ptr_nil Tryz.underlying40 rfl rfl) (dd rfl) ?_
  refine o_nil ?_
  refine c_cond_f rfl ?_
  refine c_skip ?_
  refine c_seq ?_
  refine c_seq ?_
  refine c_region ?_
  refine o_val (v_move rfl) (dd rfl) ?_
  refine o_val ((by first | exact v_len_form Tryz.underlying22 rfl | exact v_len_sl Tryz.underlying22 rfl (hX (by repeat constructor)))) (dd rfl) ?_
  refine o_val (v_move rfl) (dd rfl) ?_
  refine o_nil ?_
  refine c_block ?_
  obtain ⟨i, bv⟩ := i
  dsimp only
  refine c_loopR (γ := Nat × Value) [(2, _), (8, _), (82, _), (83, _)] (fun g => l.length - g.1) (fun g => g.1 ≤ l.length) (fun g => [(84, .int .i64 g.1)]) (fun g => [Blk i 92 [g.2, .bool false], Sl eByte g.2 (wrB (l.drop g.1)), Sl eIt v l, G1 te pe, G3]) ((0, bv)) (Nat.zero_le _) (by repeat (first | exact trivial | refine ⟨rfl, ?_⟩)) (eX (by repeat constructor)) ?_
  rintro ⟨m, q⟩ hm IH
  dsimp only at hm ⊢
  try dsimp only [List.cons_append, List.nil_append]
  refine c_seq ?_
  refine c_region ?_
  refine o_val (v_lt rfl rfl) (dd rfl) ?_
  refine o_nil ?_
  refine c_seq ?_
  refine c_cond_p rfl (fun hlt => ?_) (fun hlt => ?_)
  · have hm' : m < l.length := by omega
    have h8 := few_mem h80 hm'
    have ho := hok _ (List.getElem_mem hm')
    have hop := ok_parts ho
    have hmany := many3_len l[m].2.2.2.2.2.1
    have hfI : fewI l[m] = l[m].2.2.1.size + (many3 l[m].2.2.2.2.2.1 + 1 + manyP l[m].2.2.2.2.1) + many7 l[m].2.2.2.2.2.2 + l[m].2.2.2.1.length + sumS l[m].2.2.2.1 := rfl
    obtain ⟨R, hR⟩ : ∃ R, R = wrB (l.drop (m + 1)) := ⟨_, rfl⟩
    have hRl : (itB l[m] ++ R).length ≤ 547000 := by
      rw [hR, ← wrB_drop hm']
      have e : wrB l = wrB (l.take m) ++ wrB (l.drop m) := by unfold wrB; rw [← List.flatten_append, ← List.map_append, List.take_append_drop]
      have := congrArg List.length e
      rw [List.length_append] at this; omega
    rw [wrB_drop hm', ← hR]
    refine c_skip ?_
    refine c_seq ?_
    refine c_block ?_
    refine c_seq ?_
    refine c_region ?_
    refine o_val ((by first | exact v_indexAddrN Tryz.underlying22 ti36 rfl rfl (hX (by repeat constructor)) (by omega) | exact v_indexAddr Tryz.underlying22 ti36 rfl rfl (hX (by repeat constructor)) (by omega))) (dd rfl) ?_
    refine o_step (s_load_shape ⟨_, Tryz.underlying36⟩ ti36 rfl (dd rfl) (by repeat (first|exact el1 (by omega)|exact el2 (by omega)|exact el3 (by omega)|apply Elem.there)) (it_open) (fun g => ?_))
    refine o_step (s_alloc ti36 (dd rfl) (fun b10 => ?_))
    refine o_step (s_store_all ti36 rfl rfl (by first | exact CellsV.lit rfl | exact CellsV.one (by first | exact OneC.lit rfl | exact OneC.sl (hX (by repeat constructor)) )) (by repeat (first | exact OneAll.nil | (refine OneAll.cons ?_ ?_; · first | exact OneC.lit rfl | exact OneC.sl (hX (by repeat constructor)) ) | exact OneAll.rd (hX (by repeat constructor)))) rfl (pB (by repeat constructor)) rfl (?_))
    refine o_nil ?_
    refine c_seq ?_
    refine c_region ?_
    refine o_val (v_assign rfl) (dd rfl) ?_
    refine o_nil ?_
    refine c_seq ?_
    refine c_seq ?_
    obtain ⟨lv, po, pw, ps, qd, ql⟩ := g
    dsimp only [itC, itL, List.cons_append, List.nil_append]
    refine c_region ?_
    refine o_val (v_fieldAddrC 0 Tryz.underlying36 rfl ti3 (by decide) rfl) (dd rfl) ?_
    refine o_val (v_load lone3 rfl (hX (by repeat constructor)) rfl) (dd rfl) ?_
    refine o_nil ?_
    refine c_block ?_
    refine c_seq ?_
    refine c_region ?_
    refine o_val (v_eq rfl rfl) (dd rfl) ?_
    refine o_val (v_assign rfl) (dd rfl) ?_
    refine o_nil ?_
    refine c_joinR (γ := Value) [(2, _), (8, _), (10, _), (82, _), (83, _), (84, _), (85, _), (86, _), (87, _), (88, _), (89, _), (90, _), (91, _)] (fun _ => True) (fun _ => [(11, .bool true)]) (fun w => [Blk i 92 [w, .bool false], Sl eByte w R, Sl eIt v l, G1 te pe, G3]) (by repeat (first | exact trivial | refine ⟨rfl, ?_⟩)) ?_ ?_
    rotate_left
    · intro MEET
      refine c_cond_p rfl (fun h0 => ?_) (fun h0 => ?_)
      · have e := back0 (r := R) ho h8 h0
        have hr := inNum_con i q (itB l[m] ++ R, false) te pe
        rw [e] at hr
        dsimp only at hr
        refine c_held [BlkR b10 36 (itC l[m] ⟨lv, po, pw, ps, qd, ql⟩)] rfl ?_
        refine a_take 0 rfl (by kernel_rfl) (by kernel_rfl) (by kernel_rfl) (v_move rfl) (eX (by repeat constructor)) (dd rfl) ?_
        refine a_take 2 rfl (by kernel_rfl) (by kernel_rfl) (by kernel_rfl) (v_fieldAddrC 1 Tryz.underlying36 rfl ti3 (by decide) rfl) (eX (by repeat constructor)) (dd rfl) ?_
        refine a_take 3 rfl (by kernel_rfl) (by kernel_rfl) (by kernel_rfl) (v_load lone3 rfl (hX (by repeat constructor)) rfl) (eX (by repeat constructor)) (dd rfl) ?_
        refine a_one 1 rfl (by kernel_rfl) (s_callf cl14 (hr) rfl (dd rfl) (pXs (by repeat constructor)) (fun u _ => a_on (eX (by repeat constructor)) ?_))
        refine a_take 4 rfl (by kernel_rfl) (by kernel_rfl) (by kernel_rfl) (v_eq rfl rfl) (eX (by repeat constructor)) (dd rfl) ?_
        refine a_take 5 rfl (by kernel_rfl) (by kernel_rfl) (by kernel_rfl) (v_assign rfl) (eX (by repeat constructor)) (dd rfl) ?_
        refine a_done (by kernel_rfl) ?_ _
        rw [show decide (l[m].2.1 = l[m].2.1) = true from decide_eq_true rfl]
        refine c_use (MEET (u) (trivial)) (by repeat (first | exact trivial | refine ⟨rfl, ?_⟩)) (eX (by repeat constructor))
      · skip
        refine c_seq ?_
        refine c_region ?_
        refine o_val (v_eq rfl rfl) (dd rfl) ?_
        refine o_val (v_assign rfl) (dd rfl) ?_
        refine o_nil ?_
        refine c_cond_p rfl (fun h1 => ?_) (fun h1 => ?_)
        · have e := back1 (r := R) ho h8 h1
          have hr := inFlag_con i q (itB l[m] ++ R, false) te pe
          rw [e] at hr
          dsimp only at hr
          refine c_held [BlkR b10 36 (itC l[m] ⟨lv, po, pw, ps, qd, ql⟩)] rfl ?_
          refine a_take 0 rfl (by kernel_rfl) (by kernel_rfl) (by kernel_rfl) (v_move rfl) (eX (by repeat constructor)) (dd rfl) ?_
          refine a_take 2 rfl (by kernel_rfl) (by kernel_rfl) (by kernel_rfl) (v_fieldAddrC 1 Tryz.underlying36 rfl ti3 (by decide) rfl) (eX (by repeat constructor)) (dd rfl) ?_
          refine a_take 3 rfl (by kernel_rfl) (by kernel_rfl) (by kernel_rfl) (v_load lone3 rfl (hX (by repeat constructor)) rfl) (eX (by repeat constructor)) (dd rfl) ?_
          refine a_take 4 rfl (by kernel_rfl) (by kernel_rfl) (by kernel_rfl) (v_gt rfl rfl) (eX (by repeat constructor)) (dd rfl) ?_
          refine a_one 1 rfl (by kernel_rfl) (s_callf cl15 (hr) rfl (dd rfl) (pXs (by repeat constructor)) (fun u _ => a_on (eX (by repeat constructor)) ?_))
          refine a_take 5 rfl (by kernel_rfl) (by kernel_rfl) (by kernel_rfl) (v_beq Tryz.underlying4 rfl rfl) (eX (by repeat constructor)) (dd rfl) ?_
          refine a_take 6 rfl (by kernel_rfl) (by kernel_rfl) (by kernel_rfl) (v_assign rfl) (eX (by repeat constructor)) (dd rfl) ?_
          refine a_done (by kernel_rfl) ?_ _
          rw [show decide (decide (0 < l[m].2.1) = decide (0 < l[m].2.1)) = true from decide_eq_true rfl]
          refine c_use (MEET (u) (trivial)) (by repeat (first | exact trivial | refine ⟨rfl, ?_⟩)) (eX (by repeat constructor))
        · skip
          refine c_seq ?_
          refine c_region ?_
          refine o_val (v_eq rfl rfl) (dd rfl) ?_
          refine o_val (v_assign rfl) (dd rfl) ?_
          refine o_nil ?_
          refine c_cond_p rfl (fun h2 => ?_) (fun h2 => ?_)
          · have e := back2 (r := R) ho h8 h2
            have hr := inText_con i q (itB l[m] ++ R, false) l[m].2.2.1.size te pe
            rw [e] at hr
            dsimp only at hr
            refine c_held [BlkR b10 36 (itC l[m] ⟨lv, po, pw, ps, qd, ql⟩)] rfl ?_
            refine a_take 0 rfl (by kernel_rfl) (by kernel_rfl) (by kernel_rfl) (v_move rfl) (eX (by repeat constructor)) (dd rfl) ?_
            refine a_take 1 rfl (by kernel_rfl) (by kernel_rfl) (by kernel_rfl) (v_fieldAddrC 2 Tryz.underlying36 rfl ti9 (by decide) rfl) (eX (by repeat constructor)) (dd rfl) ?_
            refine a_take 2 rfl (by kernel_rfl) (by kernel_rfl) (by kernel_rfl) (v_load lone9 rfl (hX (by repeat constructor)) rfl) (eX (by repeat constructor)) (dd rfl) ?_
            refine a_take 3 rfl (by kernel_rfl) (by kernel_rfl) (by kernel_rfl) (v_len_str Tryz.underlying9 rfl) (eX (by repeat constructor)) (dd rfl) ?_
            refine a_take 5 rfl (by kernel_rfl) (by kernel_rfl) (by kernel_rfl) (v_fieldAddrC 2 Tryz.underlying36 rfl ti9 (by decide) rfl) (eX (by repeat constructor)) (dd rfl) ?_
            refine a_take 6 rfl (by kernel_rfl) (by kernel_rfl) (by kernel_rfl) (v_load lone9 rfl (hX (by repeat constructor)) rfl) (eX (by repeat constructor)) (dd rfl) ?_
            refine a_one 4 rfl (by kernel_rfl) (s_callf cl16 (hr) rfl (dd rfl) (pXs (by repeat constructor)) (fun u _ => a_on (eX (by repeat constructor)) ?_))
            refine a_take 7 rfl (by kernel_rfl) (by kernel_rfl) (by kernel_rfl) (v_seq rfl rfl) (eX (by repeat constructor)) (dd rfl) ?_
            refine a_take 8 rfl (by kernel_rfl) (by kernel_rfl) (by kernel_rfl) (v_assign rfl) (eX (by repeat constructor)) (dd rfl) ?_
            refine a_done (by kernel_rfl) ?_ _
            rw [show decide (l[m].2.2.1 = l[m].2.2.1) = true from decide_eq_true rfl]
            refine c_use (MEET (u) (trivial)) (by repeat (first | exact trivial | refine ⟨rfl, ?_⟩)) (eX (by repeat constructor))
          · skip
            refine c_seq ?_
            refine c_region ?_
            refine o_val (v_eq rfl rfl) (dd rfl) ?_
            refine o_val (v_assign rfl) (dd rfl) ?_
            refine o_nil ?_
            refine c_cond_p rfl (fun h3 => ?_) (fun h3 => ?_)
            · have e := back3 (r := R) ho h8 h3
              have hr := inTexts_con i q (itB l[m] ++ R, false) l[m].2.2.2.1.length 8000 te pe
              have hc := fun u v => same_ref_con u v l[m].2.2.2.1 l[m].2.2.2.1 (by omega) (by omega)
              rw [e] at hr
              dsimp only at hr
              refine c_held [BlkR b10 36 (itC l[m] ⟨lv, po, pw, ps, qd, ql⟩), Sl eStr lv l[m].2.2.2.1] rfl ?_
              refine a_take 0 rfl (by kernel_rfl) (by kernel_rfl) (by kernel_rfl) (v_move rfl) (eX (by repeat constructor)) (dd rfl) ?_
              refine a_take 1 rfl (by kernel_rfl) (by kernel_rfl) (by kernel_rfl) (v_fieldAddrC 3 Tryz.underlying36 rfl ti28 (by decide) rfl) (eX (by repeat constructor)) (dd rfl) ?_
              refine a_take 2 rfl (by kernel_rfl) (by kernel_rfl) (by kernel_rfl) (v_load lone28 rfl (hX (by repeat constructor)) rfl) (eX (by repeat constructor)) (dd rfl) ?_
              refine a_take 3 rfl (by kernel_rfl) (by kernel_rfl) (by kernel_rfl) ((by first | exact v_len_form Tryz.underlying28 rfl | exact v_len_sl Tryz.underlying28 rfl (hX (by repeat constructor)))) (eX (by repeat constructor)) (dd rfl) ?_
              refine a_take 5 rfl (by kernel_rfl) (by kernel_rfl) (by kernel_rfl) (v_fieldAddrC 3 Tryz.underlying36 rfl ti28 (by decide) rfl) (eX (by repeat constructor)) (dd rfl) ?_
              refine a_take 6 rfl (by kernel_rfl) (by kernel_rfl) (by kernel_rfl) (v_load lone28 rfl (hX (by repeat constructor)) rfl) (eX (by repeat constructor)) (dd rfl) ?_
              refine a_one 4 rfl (by kernel_rfl) (s_callf cl17 (hr) rfl (dd rfl) (pXs (by repeat constructor)) (fun u _ => a_on (eX (by repeat constructor)) ?_))
              refine a_one 7 rfl (by kernel_rfl) (s_callf_keep cl23 (hc u.2 lv) rfl (dd rfl) (rX (by repeat constructor)) (fun _ => sX) (fun _ _ => a_on (eX (by repeat constructor)) ?_))
              refine a_take 8 rfl (by kernel_rfl) (by kernel_rfl) (by kernel_rfl) (v_assign rfl) (eX (by repeat constructor)) (dd rfl) ?_
              refine a_done (by kernel_rfl) ?_ _
              rw [show decide (l[m].2.2.2.1 = l[m].2.2.2.1) = true from decide_eq_true rfl]
              refine c_use (MEET (u.1) (trivial)) (by repeat (first | exact trivial | refine ⟨rfl, ?_⟩)) (eX (by repeat constructor))
            · skip
              refine c_seq ?_
              refine c_region ?_
              refine o_val (v_eq rfl rfl) (dd rfl) ?_
              refine o_val (v_assign rfl) (dd rfl) ?_
              refine o_nil ?_
              refine c_cond_p rfl (fun h4 => ?_) (fun h4 => ?_)
              · have e := back4 (r := R) ho h8 h4
                have hr := inPrim_con i q (itB l[m] ++ R, false) (by unfold big9; dsimp only; omega) te pe
                have hpl : l[m].2.2.2.2.1.2.2.2.2.1.length ≤ 1000000 ∧ l[m].2.2.2.2.1.2.2.2.2.2.length ≤ 1000000 := by unfold manyP at hfI; omega
                have hc := fun u v => samePrR_con l[m].2.2.2.2.1 l[m].2.2.2.2.1 u v po pw hpl hpl
                rw [e] at hr
                dsimp only at hr
                refine c_held [BlkR b10 36 (itC l[m] ⟨lv, po, pw, ps, qd, ql⟩), Sl eStr po l[m].2.2.2.2.1.2.2.2.2.1, Sl eStr pw l[m].2.2.2.2.1.2.2.2.2.2] rfl ?_
                refine a_take 0 rfl (by kernel_rfl) (by kernel_rfl) (by kernel_rfl) (v_move rfl) (eX (by repeat constructor)) (dd rfl) ?_
                refine a_take 2 rfl (by kernel_rfl) (by kernel_rfl) (by kernel_rfl) (v_fieldAddrC 4 Tryz.underlying36 rfl ti30 (by decide) rfl) (eX (by repeat constructor)) (dd rfl) ?_
                refine a_take 3 rfl (by kernel_rfl) (by kernel_rfl) (by kernel_rfl) (v_load_sub (ds := [.int .i64 l[m].2.2.2.2.1.1, .string l[m].2.2.2.2.1.2.1, .string l[m].2.2.2.2.1.2.2.1, .int .i64 l[m].2.2.2.2.1.2.2.2.1, po, pw]) ⟨_, Tryz.underlying30⟩ ti30 rfl (hX (by repeat constructor)) (by exact Nat.le_of_ble_eq_true rfl) rfl) (eX (by repeat constructor)) (dd rfl) ?_
                refine a_one 1 rfl (by kernel_rfl) (s_callf cl25 (hr) rfl (dd rfl) (pXs (by repeat constructor)) (fun u _ => a_on (eX (by repeat constructor)) ?_))
                refine a_one 4 rfl (by kernel_rfl) (s_callf_keep cl24 (hc u.2.1 u.2.2) rfl (dd rfl) (rX (by repeat constructor)) (fun _ => sX) (fun _ _ => a_on (eX (by repeat constructor)) ?_))
                refine a_take 5 rfl (by kernel_rfl) (by kernel_rfl) (by kernel_rfl) (v_assign rfl) (eX (by repeat constructor)) (dd rfl) ?_
                refine a_done (by kernel_rfl) ?_ _
                rw [show decide (l[m].2.2.2.2.1 = l[m].2.2.2.2.1) = true from decide_eq_true rfl]
                refine c_use (MEET (u.1) (trivial)) (by repeat (first | exact trivial | refine ⟨rfl, ?_⟩)) (eX (by repeat constructor))
              · skip
                refine c_seq ?_
                refine c_region ?_
                refine o_val (v_eq rfl rfl) (dd rfl) ?_
                refine o_val (v_assign rfl) (dd rfl) ?_
                refine o_nil ?_
                refine c_cond_p rfl (fun h5 => ?_) (fun h5 => ?_)
                · have e := back5 (r := R) ho h8 h5
                  have hr := inPrims_con i q (itB l[m] ++ R, false) l[m].2.2.2.2.2.1.length (by unfold big9; dsimp only; omega) te pe
                  have hsh : ShortL l[m].2.2.2.2.2.1 := ⟨by omega, fun p hp => by have := manyP_mem hp; unfold manyP at this; omega⟩
                  have hc := fun u => oldPr_con u l[m].2.2.2.2.2.1 (by omega)
                  have hd := fun u => allR_con u ps l[m].2.2.2.2.2.1 l[m].2.2.2.2.2.1 hsh hsh
                  rw [e] at hr
                  dsimp only at hr
                  refine c_held [BlkR b10 36 (itC l[m] ⟨lv, po, pw, ps, qd, ql⟩), Sl ePr ps l[m].2.2.2.2.2.1] rfl ?_
                  refine a_take 0 rfl (by kernel_rfl) (by kernel_rfl) (by kernel_rfl) (v_move rfl) (eX (by repeat constructor)) (dd rfl) ?_
                  refine a_take 1 rfl (by kernel_rfl) (by kernel_rfl) (by kernel_rfl) (v_fieldAddrC 10 Tryz.underlying36 rfl ti31 (by decide) rfl) (eX (by repeat constructor)) (dd rfl) ?_
                  refine a_take 2 rfl (by kernel_rfl) (by kernel_rfl) (by kernel_rfl) (v_load lone31 rfl (hX (by repeat constructor)) rfl) (eX (by repeat constructor)) (dd rfl) ?_
                  refine a_take 3 rfl (by kernel_rfl) (by kernel_rfl) (by kernel_rfl) ((by first | exact v_len_form Tryz.underlying31 rfl | exact v_len_sl Tryz.underlying31 rfl (hX (by repeat constructor)))) (eX (by repeat constructor)) (dd rfl) ?_
                  refine a_take 6 rfl (by kernel_rfl) (by kernel_rfl) (by kernel_rfl) (v_fieldAddrC 10 Tryz.underlying36 rfl ti31 (by decide) rfl) (eX (by repeat constructor)) (dd rfl) ?_
                  refine a_take 7 rfl (by kernel_rfl) (by kernel_rfl) (by kernel_rfl) (v_load lone31 rfl (hX (by repeat constructor)) rfl) (eX (by repeat constructor)) (dd rfl) ?_
                  refine a_one 4 rfl (by kernel_rfl) (s_callf cl28 (hr) rfl (dd rfl) (pXs (by repeat constructor)) (fun u _ => a_on (eX (by repeat constructor)) ?_))
                  refine a_one 5 rfl (by kernel_rfl) (s_callf cl27 (hc u.2) rfl (dd rfl) (pXs (by repeat constructor)) (fun o _ => a_on (eX (by repeat constructor)) ?_))
                  refine a_one 8 rfl (by kernel_rfl) (s_callf_keep cl26 (hd o) rfl (dd rfl) (rX (by repeat constructor)) (fun _ => sX) (fun _ _ => a_on (eX (by repeat constructor)) ?_))
                  refine a_take 9 rfl (by kernel_rfl) (by kernel_rfl) (by kernel_rfl) (v_assign rfl) (eX (by repeat constructor)) (dd rfl) ?_
                  refine a_done (by kernel_rfl) ?_ _
                  rw [show decide (l[m].2.2.2.2.2.1 = l[m].2.2.2.2.2.1) = true from decide_eq_true rfl]
                  refine c_use (MEET (u.1) (trivial)) (by repeat (first | exact trivial | refine ⟨rfl, ?_⟩)) (eX (by repeat constructor))
                · skip
                  refine c_seq ?_
                  refine c_region ?_
                  refine o_val (v_eq rfl rfl) (dd rfl) ?_
                  refine o_val (v_assign rfl) (dd rfl) ?_
                  refine o_nil ?_
                  have h6 : l[m].1 = 6 := by omega
                  refine c_cond_p rfl (fun h6' => ?_) (fun h6' => ?_)
                  · have e := back6 (r := R) ho h8 h6
                    have hr := inPatch_con i q (itB l[m] ++ R, false) (by unfold big9; dsimp only; omega) te pe
                    have hsh : ShortT l[m].2.2.2.2.2.2 := ⟨by unfold many7 at hfI; omega, by have := many3_len l[m].2.2.2.2.2.2.2.2.2; unfold many7 at hfI; omega, fun p hp => by have := manyP_mem hp; unfold manyP at this; unfold many7 at hfI; omega⟩
                    have hc := fun d u => oldT_con l[m].2.2.2.2.2.2 d u hsh.2.1
                    have hd := fun d u => sameTR_con l[m].2.2.2.2.2.2 l[m].2.2.2.2.2.2 d u qd ql hsh hsh
                    rw [e] at hr
                    dsimp only at hr
                    refine c_held [BlkR b10 36 (itC l[m] ⟨lv, po, pw, ps, qd, ql⟩), Sl (eInt .i64) qd l[m].2.2.2.2.2.2.2.2.1, Sl ePr ql l[m].2.2.2.2.2.2.2.2.2] rfl ?_
                    refine a_take 0 rfl (by kernel_rfl) (by kernel_rfl) (by kernel_rfl) (v_move rfl) (eX (by repeat constructor)) (dd rfl) ?_
                    refine a_take 3 rfl (by kernel_rfl) (by kernel_rfl) (by kernel_rfl) (v_fieldAddrC 11 Tryz.underlying36 rfl ti34 (by decide) rfl) (eX (by repeat constructor)) (dd rfl) ?_
                    refine a_take 4 rfl (by kernel_rfl) (by kernel_rfl) (by kernel_rfl) (v_load_sub (ds := [.int .i64 l[m].2.2.2.2.2.2.1, .string l[m].2.2.2.2.2.2.2.1, qd, ql]) ⟨_, Tryz.underlying34⟩ ti34 rfl (hX (by repeat constructor)) (by exact Nat.le_of_ble_eq_true rfl) rfl) (eX (by repeat constructor)) (dd rfl) ?_
                    refine a_one 1 rfl (by kernel_rfl) (s_callf cl31 (hr) rfl (dd rfl) (pXs (by repeat constructor)) (fun u _ => a_on (eX (by repeat constructor)) ?_))
                    refine a_one 2 rfl (by kernel_rfl) (s_callf cl30 (hc u.2.1 u.2.2) rfl (dd rfl) (pXs (by repeat constructor)) (fun o _ => a_on (eX (by repeat constructor)) ?_))
                    refine a_one 5 rfl (by kernel_rfl) (s_callf_keep cl29 (hd u.2.1 o) rfl (dd rfl) (rX (by repeat constructor)) (fun _ => sX) (fun _ _ => a_on (eX (by repeat constructor)) ?_))
                    refine a_take 6 rfl (by kernel_rfl) (by kernel_rfl) (by kernel_rfl) (v_assign rfl) (eX (by repeat constructor)) (dd rfl) ?_
                    refine a_done (by kernel_rfl) ?_ _
                    rw [show decide (l[m].2.2.2.2.2.2 = l[m].2.2.2.2.2.2) = true from decide_eq_true rfl]
                    refine c_use (MEET (u.1) (trivial)) (by repeat (first | exact trivial | refine ⟨rfl, ?_⟩)) (eX (by repeat constructor))
                  · skip
                    exact absurd h6 h6'
    rintro u -
    dsimp only [List.cons_append, List.nil_append]
    rw [hR]
    refine c_inBlock ?_
    refine c_seq ?_
    refine c_region ?_
    refine o_val (v_move rfl) (dd rfl) ?_
    refine o_val (v_not rfl) (dd rfl) ?_
    refine o_nil ?_
    refine c_cond_f rfl ?_
    refine c_skip ?_
    refine c_inBlock ?_
    refine c_region ?_
    refine o_val ((by first | exact v_add64 rfl rfl (by omega) | exact v_add rfl rfl)) (dd rfl) ?_
    refine o_val (v_move rfl) (dd rfl) ?_
    refine o_nil ?_
    refine c_use (IH ((m + 1, u)) (by first | omega | (dsimp only; omega)) (by dsimp only; omega)) (by repeat (first | exact trivial | refine ⟨rfl, ?_⟩)) (eX (by repeat constructor))
  have hml : l.drop m = [] := List.drop_of_length_le (by omega)
  have hd := done_con i q (wrB (l.drop m), false)
  rw [hml] at hd ⊢
  dsimp only at hd
  refine c_exit rfl ?_
  refine c_seq ?_
  refine c_region ?_
  refine o_step (s_callf_keep cl10 (hal) rfl (dd rfl) (rX (by repeat constructor)) (fun _ => sX) (fun _ _ => ?_))
  refine o_val (v_move rfl) (dd rfl) ?_
  refine o_guard rfl rfl (fun _ => ?_) (fun h_ => absurd ((show _ = true from rfl).symm.trans h_) (by decide))
  refine o_val (v_move rfl) (dd rfl) ?_
  refine o_on rfl rfl ?_
  refine o_step (s_callf_keep cl20 (hd) rfl (dd rfl) (rX (by repeat constructor)) (fun _ => sX) (fun _ _ => ?_))
  refine o_val (v_pick_t rfl rfl) (dd rfl) ?_
  refine o_val (v_assign rfl) (dd rfl) ?_
  refine o_nil ?_
  refine c_ret1 Tryz.func6 rfl rfl fun w O hS => ?_
  exact ⟨(), congrArg Value.bool (decide_eq_true rfl), trivial, trivial⟩
end Go.Proofs.YtmgkeippepeggaaGreatDoor
namespace Go.Proofs.YtmgkeippepeggaaGreatDoor
open Go Go.SL Go.RowKit Go.ChangeShapes Go.WideShapes Go.ChangeAt Go.Lib
set_option linter.unusedVariables false
set_option maxRecDepth 100000 in
theorem codeBack_lifted (os : Os) (started : os.Started) (H : Type) (enc : TypeId × Value → H) (F : Stop.Interp) :
    ReturnsInHanded {} Tryz.checked os 6 .any ((Rows.OpenSpec.upto Rows.codeBackSpec).preRow enc Tryz.prog Tryz.f6 Rows.codeBackUptoRow.domain false laidL) (((Rows.OpenSpec.upto Rows.codeBackSpec).at F).post enc Tryz.prog Tryz.f6 false true false false) := by
  obtain ⟨places, hx⟩ : ∃ places, DataW.whole enc Tryz.prog ((World.laidAll Tryz.prog os laidL).forCall (fun _ _ => 0) ⟨#[], #[.slice none 0 0], []⟩).memory Tryz.f6.params.toList Rows.codeBackSpec.vars false (#[.slice none 0 0] : Array Value).toList 12 = some ([.nil], [], places) := ⟨[], by kernel_rfl⟩
  refine lift_upto (C := Tryz.checked) (t := 4) own started (by kernel_rfl) Tryz.func6 rfl (fun ds h => ?_) rfl Tryz.underlying4 laidOut (by kernel_rfl)
    (witness_row_atRef (enc := enc) (C := Tryz.checked) false (World.laidAll Tryz.prog os laidL) #[.slice none 0 0] (World.laidAll_os _ _ _) (by kernel_rfl) (by kernel_rfl) (by kernel_rfl)
      (OpenSpec.preRow_of_cond 12 hx (by kernel_rfl) (fun k hk => by cases hk; kernel_rfl) (by kernel_rfl) (start_met os _))) ?_
  · match ds, h with
    | [d0], _ => rfl
  · intro W base args ds ps hsh hlaid hval0 hA0 hwt0 hbulk
    have hval : ∀ (j : Nat) t v, Tryz.f6.params[j]? = some t → args[j]? = some v → Value.okWide Tryz.prog W .any base t v := hval0
    have hA : DataW.TrodAll enc Tryz.prog W 0 (fun _ => true) true Tryz.f6.params.toList args.toList ds ps := hA0
    have hwt : ∀ (j : Nat) t d, Tryz.f6.params.toList[j]? = some t → ds[j]? = some d → ∀ n ∈ d.weights Tryz.prog t, n ≤ reachBytes := hwt0
    clear hval0 hA0 hwt0
    rw [Tryz.params6] at hA hval hwt
    obtain ⟨v0, vs0, d0, ds0, p0, q0, hargs, rfl, rfl, h0, r0⟩ := trodAll_cons hA
    obtain ⟨rfl, rfl, rfl⟩ := trodAll_nil r0
    obtain rfl : args = #[v0] := by cases args; simp_all
    obtain ⟨x0, e0, g0⟩ := open_arg op22 h0 (hwt 0 22 d0 rfl rfl)
    have a0 := arg_slice Tryz.underlying22 (hval 0 22 v0 rfl rfl) e0
    obtain ⟨te, pe, hg1, hg3⟩ := g13 hsh hlaid
    have hb0 := bulk_arg k22 h0 e0
    have hf0 := mL_few x0
    have hbd : Rows.uptoBulk d0 ≤ 1048576 := by simp only [Rows.uptoBulkAll] at hbulk; omega
    exact calls_of_con (back_con v0 x0 (by omega) (by omega) g0 te pe) (List.forall_mem_cons.2 ⟨a0, List.forall_mem_cons.2 ⟨hg1, List.forall_mem_cons.2 ⟨hg3, fun _ h => by cases h⟩⟩⟩)
theorem codeBack_row : Rows.CodeBackUptoSaid :=
  OpenClaim.holds_of_cond 6 Tryz.f6 rfl rfl rfl rfl rfl rfl rfl ⟨rfl, rfl, rfl, rfl, rfl⟩ rfl rfl rfl rfl rfl (by kernel_rfl) Tryz.func6 (by kernel_rfl)
    (of_decide_eq_true (by kernel_rfl)) (by unfold Func.isWrapper; first | (rw [if_pos (by decide +kernel)]; kernel_rfl) | (rw [if_neg (by decide +kernel)]; exact ⟨rfl, rfl⟩))
    (fun os started H enc _ F => by rw [OpenClaim.pre_eq_preRow]; exact codeBack_lifted os started H enc F)
/-- CodeBack: where its arguments hold no more than the bound, it returns true, and they read behind the call as before; the listed variables tied to the program's text. -/
theorem codeBackUpto_card : Rows.CodeBackUptoCardSaid :=
  Claim7.holds_tied_plain_at .later [] [.data, .data, .data, .data, .sentinel, .sentinel, .pinned] true (true, "6d03a9e2d4cfed1b2d9285196519f58a923d9b52a2270e802c816d31694e04cb") true
    codeBack_row (fun _ h => by cases h) (by kernel_rfl) (fun _ h => by cases h) codeBackUpto_row_tie rfl ⟨rfl, rfl⟩ (by kernel_rfl) rfl
    (fun f fn hf hfn => by
      obtain rfl : f = 6 := Option.some.inj ((show Tryz.prog.funcNamed Tryz.f6.name = some 6 by kernel_rfl).symm.trans hf) |>.symm
      obtain rfl : fn = Tryz.f6 := (Option.some.inj (Tryz.func6.symm.trans hfn)).symm
      exact ⟨by kernel_rfl, fun j t ht => by
        rw [Tryz.params6] at ht
        have hm : t ∈ [22] := by simpa using Array.mem_of_getElem? ht
        have hall : ([22].all fun u => !Tryz.prog.wantsStandIn u) = true := by kernel_rfl
        exact (show Tryz.prog.wantsStandIn t = false by simpa using List.all_eq_true.1 hall t hm)⟩)
    (by kernel_rfl)
#print axioms codeBackUpto_card
end Go.Proofs.YtmgkeippepeggaaGreatDoor

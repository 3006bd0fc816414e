/- The texts I6, I7, S1, S2, S3, DA, DB, E1, E2, E3, E4, DC, F1, H1, H2, H3, H4, E5, one behind the other. -/
import Derived.Test.YtlfehnnmpkohkaaGreatDoorYC3
set_option linter.unusedVariables false
set_option linter.unusedSimpArgs false
/- Chapter 09: the program's reader: changes. -/
namespace Go.Proofs.YtlfehnnmpkohkaaGreatDoor
open Go Go.SL Go.Lib
attribute [local irreducible] Cfg Kont StepK Val Con Qops Any Sl Own Blk BlkR Rd Pu ExA AllA Has Pick Ent Elem Beside Callable TI Lone OwnO AndA
set_option maxRecDepth 100000 in
theorem someP1_con (i b3 b4 b5 b7 : Nat) (bv : Value) (s : St9) (most : Int) (hs : s.1.length ≤ big9) (te : TypeId) (pe : Value) : Con Tryz.prog 143 [ptr b3, ptr b4, ptr b7, ptr b5] [BlkR b3 103 [ptr i], BlkR b4 3 [.int .i64 most], Blk b7 30 [.slice none 0 0], BlkR b5 149 [.func (.func 121) #[ptr i] #[]], Blk i 141 [bv, .bool s.2], Sl eByte bv s.1, G1 te pe, G3] (γ := Value × Value) (fun g => g.2) (fun _ => True) (fun g => [Blk i 141 [g.1, .bool (somR takePrim most s).1.2], Sl eByte g.1 (somR takePrim most s).1.1, Own ePr 74 g.2 (somR takePrim most s).2]) := by
  have hfar := num_far (s := s)
  have hN := inNum_con i bv s te pe
  unfold somR
  obtain ⟨s1, n, hn⟩ : ∃ s1 n, takeNum s = (s1, n) := ⟨_, _, rfl⟩
  rw [hn] at hN hfar ⊢
  dsimp only at hN hfar ⊢
  unfold far9 at hfar
  refine con_of Tryz.func143 rfl (dd rfl) fun w0 O0 => ?_
  refine c_seq (c_region ?_)
  refine oV vA ?_
  refine o_nil (c_seq (c_region ?_))
  refine oV (vL lone103) ?_
  refine oC cl63 (hN) fun v1 _ => ?_
  refine oV vA ?_
  refine o_nil (c_seq (c_seq ?_))
  refine c_env (env' := [(0, _), (1, _), (2, _), (3, _), (4, _), (5, _)]) (by repeat (first | exact trivial | refine ⟨rfl, ?_⟩)) ?_
  refine c_joinb (d := 15) (decide (n < 0 ∨ most < n)) ?_ ?_
  rotate_left
  · intro J
    refine c_region ?_
    refine oV vM ?_
    refine oV (v_lt rfl rfl) ?_
    refine oV vM ?_
    first | refine o_guard_f rfl rfl (fun g11 => ?_) (fun g11 => ?_) | refine o_guard rfl rfl (fun g11 => ?_) (fun g11 => ?_)
    · refine oV vM ?_
      refine oN ?_
      refine oV (vL lone3) ?_
      refine oN ?_
      refine oV (v_gt rfl rfl) ?_
      refine oV vQ ?_
      refine o_nil ?_
      exact cJ J rfl (by first | rfl | (simp_all; done) | (simp_all; omega) | (simp; omega))
    · refine oX ?_
      iterate 2 refine oX ?_
      refine oV vT ?_
      refine o_nil ?_
      exact cJ J rfl (by first | rfl | (simp_all; done) | (simp_all; omega) | (simp; omega))
  obtain ⟨s2, hs2⟩ : ∃ s2, s2 = (if n < 0 ∨ most < n then spoil9 s1 else s1) := ⟨_, rfl⟩
  rw [← hs2]
  refine c_joinR (γ := Unit) [(0, _), (2, _), (3, _), (4, _), (5, _)] (fun _ => True) (fun _ => []) (fun _ => [BlkR b3 103 [ptr i], BlkR b4 3 [.int .i64 most], Blk b7 30 [.slice none 0 0], BlkR b5 149 [.func (.func 121) #[ptr i] #[]], Blk i 141 [v1, .bool s2.2], Sl eByte v1 s2.1, G1 te pe, G3]) (by repeat (first | exact trivial | refine ⟨rfl, ?_⟩)) ?_ ?_
  rotate_left
  · intro MEET
    skip
    refine c_cond_p rfl (fun hq => ?_) (fun hq => ?_)
    · have e2 : s2 = (s1.1, true) := by rw [hs2, if_pos hq]; rfl
      subst e2
      refine c_region ?_
      refine oV (vL lone103) ?_
      refine oV (v_nilCheck rfl) ?_
      refine oV (vF 1 Tryz.underlying141 ti4) ?_
      refine o_step (s_store1 ti4 rfl rfl (by first | exact OneC.lit rfl | exact OneC.sl (hX (by repeat constructor)) ) (pB (by repeat constructor)) (by first | decide | exact Nat.le_of_ble_eq_true rfl | simp) (by first | (dsimp only [List.set_cons_succ, List.set_cons_zero]; first | done | exact rfl) | rfl) (?_))
      refine o_nil ?_
      refine cU (MEET (()) (trivial))
    · have e2 : s2 = s1 := by rw [hs2, if_neg hq]
      subst e2
      refine c_skip ?_
      refine cU (MEET (()) (trivial))
  have hs2l : s2.1.length ≤ big9 := by
    have h1 := goes_len goes_num s
    rw [hn] at h1
    have h2 : s2.1 = s1.1 := by rw [hs2]; split <;> rfl
    rw [h2]; exact Nat.le_trans h1 hs
  rintro ⟨⟩ -
  dsimp only [List.cons_append, List.nil_append]
  refine c_seq (c_seq (c_region ?_))
  refine oV vA ?_
  refine o_nil (c_block ?_)
  refine c_loopR (γ := Nat × St9 × List Pr9 × Value × Value) [(0, _), (2, _), (3, _), (4, _), (5, _)] (fun g => n.toNat - g.1) (fun g => g.1 ≤ n.toNat ∧ g.2.2.1.length ≤ g.1 ∧ takeMany takePrim (n.toNat - g.1) g.2.1 g.2.2.1 = takeMany takePrim n.toNat s2 [] ∧ (fun q : St9 => q.1.length ≤ big9) g.2.1) (fun g => [(6, .int .i64 g.1)]) (fun g => [BlkR b3 103 [ptr i], BlkR b5 149 [.func (.func 121) #[ptr i] #[]], Blk b7 30 [g.2.2.2.2], Own ePr 74 g.2.2.2.2 g.2.2.1, Blk i 141 [g.2.2.2.1, .bool g.2.1.2], Sl eByte g.2.2.2.1 g.2.1.1, G1 te pe, G3]) ((0, s2, [], v1, .slice none 0 0)) (⟨Nat.zero_le _, Nat.le_refl _, rfl, hs2l⟩) (by repeat (first | exact trivial | refine ⟨rfl, ?_⟩)) (eX (by repeat constructor)) ?_
  rintro ⟨k, sk, out, r, v⟩ ⟨hk, hlk, hTk, hgo⟩ IH
  dsimp only at hk hlk hTk ⊢
  dsimp only at hgo
  try dsimp only [List.cons_append, List.nil_append]
  refine c_seq (c_seq ?_)
  refine c_env (env' := [(0, _), (2, _), (3, _), (4, _), (5, _), (6, _)]) (by repeat (first | exact trivial | refine ⟨rfl, ?_⟩)) ?_
  refine c_joinb (d := 28) (decide ((k : Int) < n ∧ sk.2 = false)) ?_ ?_
  rotate_left
  · intro J
    refine c_region ?_
    iterate 2 refine oV vM ?_
    refine oV (v_lt rfl rfl) ?_
    refine oV vM ?_
    first | refine o_guard_t rfl rfl (fun g22 => ?_) (fun g22 => ?_) | refine o_guard rfl rfl (fun g22 => ?_) (fun g22 => ?_)
    · refine oV (vL lone103) ?_
      refine oN ?_
      refine oV (v_nilCheck rfl) ?_
      refine oN ?_
      refine oV (vF 1 Tryz.underlying141 ti4) ?_
      refine oN ?_
      refine oV (vL lone4) ?_
      refine oN ?_
      refine oV (v_not rfl) ?_
      refine oV vT ?_
      refine o_nil ?_
      exact cJ J rfl (by first | rfl | (simp_all; done) | (simp_all; omega))
    · refine oX ?_
      iterate 4 refine oX ?_
      refine oV vQ ?_
      refine o_nil ?_
      exact cJ J rfl (by first | rfl | (simp_all; done) | (simp_all; omega))
  refine c_cond_p rfl (fun hlt => ?_) (fun hlt => ?_)
  · have hst := takeMany_step takePrim (n := n.toNat) (k := k) (out := out) (by omega) hlt.2
    refine c_skip (c_seq (c_block ?_))
    refine c_heldk 5 [Blk b7 30 [v], BlkR b5 149 [.func (.func 121) #[ptr i] #[]]] rfl ?_
    refine k_take 0 rfl (by kernel_rfl) (by kernel_rfl) (by kernel_rfl) rfl (by kernel_rfl) (vL lone30) (eX (by repeat constructor)) (dd rfl) ?_
    refine k_take 1 rfl (by kernel_rfl) (by kernel_rfl) (by kernel_rfl) rfl (by kernel_rfl) (vL lone149) (eX (by repeat constructor)) (dd rfl) ?_
    refine k_one 2 rfl (by kernel_rfl) fun hc_ => (s_call cl121 (inPrim_con i r sk hgo te pe) (first := [ptr i]) (cap := []) rfl rfl (by rfl) (dd rfl) (pXs (by repeat constructor)) (fun g2 _ => k_on hc_ (eX (by repeat constructor)) ?_))
    refine k_one 3 rfl (by kernel_rfl) fun hc_ => (s_buildSlice Tryz.underlying30 ti74 rfl rfl rfl (by decide) (by decide) (beside_agg1 (beside_of (Lp := [Sl eStr g2.2.1 (takePrim sk).2.2.2.2.2.1, Sl eStr g2.2.2 (takePrim sk).2.2.2.2.2.2]) (pXs (by repeat constructor)) fun w O => pr_close (z := (takePrim sk).2) w O)) rfl rfl (dd rfl) (fun v2 => k_on hc_ (eX (by repeat constructor)) ?_))
    refine k_one 4 rfl (by kernel_rfl) fun hc_ => (s_append Tryz.underlying30 ti74 rfl (by decide) rfl rfl (dd rfl) (pB (by repeat constructor)) (pX (by repeat constructor)) rfl (by (first | omega | (simp only [maxLen, List.length_append, List.length_drop, List.length_take, List.length_nil, List.length_cons]; omega))) (by (first | omega | (simp only [maxLen, List.length_append, List.length_drop, List.length_take, List.length_nil, List.length_cons]; omega))) (fun v3 => k_on hc_ (eX (by repeat constructor)) ?_))
    refine k_one 5 rfl (by kernel_rfl) fun hc_ => (s_store1 ti30 rfl rfl (by first | exact OneC.lit rfl | exact OneC.sl (hX (by repeat constructor)) ) (pB (by repeat constructor)) (by first | decide | exact Nat.le_of_ble_eq_true rfl | simp) (by first | (dsimp only [List.set_cons_succ, List.set_cons_zero]; first | done | exact rfl) | rfl) (k_last hc_ (by kernel_rfl) ?_))
    refine k_done (by kernel_rfl) ?_ _
    refine c_inBlock (c_region ?_)
    refine oV vM ?_
    refine oV ((by first | exact v_add64 rfl rfl (by omega) | exact v_add rfl rfl)) ?_
    refine oV vA ?_
    refine o_nil ?_
    refine cU (IH ((k + 1, (takePrim sk).1, out ++ [(takePrim sk).2], g2.1, v3)) (by first | omega | (dsimp only; omega)) (⟨by dsimp only; omega, by simp; omega, hst.symm.trans hTk, Nat.le_trans (goes_len goes_prim sk) hgo⟩))
  · have hend : takeMany takePrim (n.toNat - k) sk out = (sk, out) := by
      cases hb : sk.2 with
      | true => exact takeMany_bad _ _ _ _ hb
      | false => exact takeMany_end _ (by have : ¬ (k : Int) < n := fun q => hlt ⟨q, hb⟩; omega)
    refine c_exit rfl ?_
    refine c_seq (c_region ?_)
    refine oV (vL lone30) ?_
    refine oV vA ?_
    refine o_nil ?_
    refine c_ret1 Tryz.func143 rfl rfl fun w O hS => ?_
    exact ⟨(r, v), rfl, trivial, by rw [← hTk, hend]; exact Ent.get hS (eX (by repeat constructor))⟩
set_option maxRecDepth 100000 in
theorem alwaysP_con (v : Value) : Con Tryz.prog 145 [v] [] (γ := Unit) (fun _ => .bool true) (fun _ => True) (fun _ => []) := by
  refine con_of Tryz.func145 rfl (dd rfl) fun w0 O0 => ?_
  refine c_seq (c_region ?_)
  refine oV vA ?_
  refine o_nil (c_seq (c_region ?_))
  refine oV vA ?_
  refine o_nil ?_
  refine c_ret1 Tryz.func145 rfl rfl fun w O hS => ?_
  exact ⟨(), rfl, trivial, trivial⟩
set_option maxRecDepth 100000 in
theorem wholeP_con (i b3 b4 b5 b7 : Nat) (bv : Value) (s : St9) (most : Int) (hs : s.1.length ≤ big9) (te : TypeId) (pe : Value) : Con Tryz.prog 144 [ptr i, .func (.func 143) #[] #[ptr b3, ptr b4, ptr b7, ptr b5], .func (.func 145) #[] #[]] [BlkR b3 103 [ptr i], BlkR b4 3 [.int .i64 most], Blk b7 30 [.slice none 0 0], BlkR b5 149 [.func (.func 121) #[ptr i] #[]], Blk i 141 [bv, .bool s.2], Sl eByte bv s.1, G1 te pe, G3] (γ := Value × Value) (fun g => g.2) (fun _ => True) (fun g => [Blk i 141 [g.1, .bool (takeSome takePrim most s).1.2], Sl eByte g.1 (takeSome takePrim most s).1.1, Own ePr 74 g.2 (takeSome takePrim most s).2]) := by
  have h1 := someP1_con i b3 b4 b5 b7 bv s most hs te pe
  have h2 := fun v => alwaysP_con v
  rw [some_as]
  refine con_of Tryz.func144 rfl (dd rfl) fun w0 O0 => ?_
  refine c_seq (c_region ?_)
  refine oV vA ?_
  refine o_nil (c_seq (c_region ?_))
  refine oV vM ?_
  refine oV (v_nilCheck rfl) ?_
  refine oV (vF 0 Tryz.underlying141 ti38) ?_
  refine oV (vL lone38) ?_
  refine oV vA ?_
  refine o_nil (c_seq (c_region ?_))
  refine oV vM ?_
  refine o_step (s_call cl143 (h1) (first := []) (cap := [ptr b3, ptr b4, ptr b7, ptr b5]) rfl rfl (by rfl) (dd rfl) (pXs (by repeat constructor)) fun g _ => ?_)
  refine oV vA ?_
  refine o_nil (c_seq (c_seq (c_region ?_)))
  refine oV vM ?_
  refine oV (v_nilCheck rfl) ?_
  refine oV (vF 1 Tryz.underlying141 ti4) ?_
  refine oV (vL lone4) ?_
  refine oV (v_not rfl) ?_
  refine oV vM ?_
  refine o_guard rfl rfl (fun hb => ?_) (fun hb => ?_)
  · have hb2 : (somR takePrim most s).1.2 = false := by simpa using hb
    rw [if_neg (by rw [hb2]; decide)]
    refine oV vM ?_
    refine oN ?_
    refine oV vM ?_
    refine oN ?_
    refine o_step (s_call cl145 (h2 g.2) (first := []) (cap := []) rfl rfl (by rfl) (dd rfl) (pXs (by repeat constructor)) fun _ _ => ?_)
    refine oV vT ?_
    refine o_nil ?_
    refine c_cond_t rfl ?_
    refine c_seq (c_region ?_)
    refine oV vM ?_
    refine oV vA ?_
    refine o_nil ?_
    refine c_ret1 Tryz.func144 rfl rfl fun w O hS => ?_
    exact ⟨g, rfl, trivial, Ent.get hS (eX (by repeat constructor))⟩
  · have hb2 : (somR takePrim most s).1.2 = true := by simpa using hb
    rw [if_pos hb2]
    iterate 3 refine oX ?_
    refine oV vQ ?_
    refine o_nil ?_
    refine c_cond_f rfl ?_
    refine c_skip (c_seq (c_region ?_))
    refine oV vA ?_
    refine o_nil (c_seq (c_region ?_))
    iterate 3 refine oV vM ?_
    refine oV (v_nilCheck rfl) ?_
    refine oV (vF 0 Tryz.underlying141 ti38) ?_
    refine o_step (s_store1 ti38 rfl rfl (by first | exact OneC.lit rfl | exact OneC.sl (hX (by repeat constructor)) ) (pB (by repeat constructor)) (by first | decide | exact Nat.le_of_ble_eq_true rfl | simp) (by first | (dsimp only [List.set_cons_succ, List.set_cons_zero]; first | done | exact rfl) | rfl) (?_))
    refine oV (v_nilCheck rfl) ?_
    refine oV (vF 1 Tryz.underlying141 ti4) ?_
    refine o_step (s_store1 ti4 rfl rfl (by first | exact OneC.lit rfl | exact OneC.sl (hX (by repeat constructor)) ) (pB (by repeat constructor)) (by first | decide | exact Nat.le_of_ble_eq_true rfl | simp) (by first | (dsimp only [List.set_cons_succ, List.set_cons_zero]; first | done | exact rfl) | rfl) (?_))
    refine o_nil (c_seq (c_region ?_))
    refine oV vM ?_
    refine oV vA ?_
    refine o_nil ?_
    refine c_ret1 Tryz.func144 rfl rfl fun w O hS => ?_
    exact ⟨(bv, .slice none 0 0), rfl, trivial, Ent.get hS (eX (by repeat constructor))⟩
set_option maxRecDepth 100000 in
theorem someP_con (i : Nat) (bv : Value) (s : St9) (most : Int) (hs : s.1.length ≤ big9) (te : TypeId) (pe : Value) : Con Tryz.prog 120 [ptr i, .int .i64 most, .func (.func 121) #[ptr i] #[]] [Blk i 141 [bv, .bool s.2], Sl eByte bv s.1, G1 te pe, G3] (γ := Value × Value) (fun g => g.2) (fun _ => True) (fun g => [Blk i 141 [g.1, .bool (takeSome takePrim most s).1.2], Sl eByte g.1 (takeSome takePrim most s).1.1, Own ePr 74 g.2 (takeSome takePrim most s).2]) := by
  refine con_of Tryz.func120 rfl (dd rfl) fun w0 O0 => ?_
  refine c_seq (c_region ?_)
  refine o_step (s_box rfl (dd rfl) (fun b3 => ?_))
  refine o_step (s_box rfl (dd rfl) (fun b4 => ?_))
  refine o_step (s_box rfl (dd rfl) (fun b5 => ?_))
  refine oV vA ?_
  refine o_nil (c_seq (c_region ?_))
  refine o_step (s_alloc ti30 (dd rfl) (fun b7 => ?_))
  refine o_nil (c_seq (c_region ?_))
  refine oV (v_makeFunc rfl rfl) ?_
  refine oV vA ?_
  refine o_nil (c_seq (c_region ?_))
  refine oV (vL lone103) ?_
  refine oV vM ?_
  have h := wholeP_con i b3 b4 b5 b7 bv s most hs te pe
  refine oC cl144 (h) fun g _ => ?_
  refine oV vA ?_
  refine o_nil ?_
  refine c_ret1 Tryz.func120 rfl rfl fun w O hS => ?_
  exact ⟨g, rfl, trivial, Ent.get hS (eX (by repeat constructor))⟩
set_option maxRecDepth 100000 in
theorem inPrims_con (i : Nat) (bv : Value) (s : St9) (most : Int) (hs : s.1.length ≤ big9) (te : TypeId) (pe : Value) : Con Tryz.prog 67 [ptr i, .int .i64 most] [Blk i 141 [bv, .bool s.2], Sl eByte bv s.1, G1 te pe, G3] (γ := Value × Value) (fun g => g.2) (fun _ => True) (fun g => [Blk i 141 [g.1, .bool (takePrims most s).1.2], Sl eByte g.1 (takePrims most s).1.1, Own ePr 74 g.2 (takePrims most s).2]) := by
  have h := someP_con i bv s most hs te pe
  unfold takePrims
  refine con_of Tryz.func67 rfl (dd rfl) fun w0 O0 => ?_
  refine c_seq (c_region ?_)
  refine oV vA ?_
  refine o_nil (c_seq (c_region ?_))
  iterate 3 refine oV vM ?_
  refine oV (v_makeFunc rfl rfl) ?_
  refine oC cl120 (h) fun g _ => ?_
  refine oV vA ?_
  refine o_nil ?_
  refine c_ret1 Tryz.func67 rfl rfl fun w O hS => ?_
  exact ⟨g, rfl, trivial, Ent.get hS (eX (by repeat constructor))⟩
end Go.Proofs.YtlfehnnmpkohkaaGreatDoor
/- Chapter 09: the program's reader: a patch. -/
namespace Go.Proofs.YtlfehnnmpkohkaaGreatDoor
open Go Go.SL Go.Lib
attribute [local irreducible] Cfg Kont StepK Val Con Qops Any Sl Own Blk BlkR Rd Pu ExA AllA Has Pick Ent Elem Beside Callable TI Lone OwnO AndA
end Go.Proofs.YtlfehnnmpkohkaaGreatDoor
/- Chapter 09: which changes and patches are the same. -/
namespace Go.Proofs.YtlfehnnmpkohkaaGreatDoor
open Go Go.SL Go.Lib
instance decPr9 : DecidableEq Pr9 := fun a b => inferInstanceAs (Decidable (a = b))
attribute [local irreducible] Cfg Kont StepK Val Con Qops Any Sl Own Blk BlkR Rd Pu ExA AllA Has Pick Ent Elem Beside Callable TI Lone OwnO AndA
set_option maxRecDepth 100000 in
theorem samePr_con (p q : Pr9) (ov wv ov' wv' : Value) (hp : p.2.2.2.2.1.length ≤ 1000000 ∧ p.2.2.2.2.2.length ≤ 1000000) (hq : q.2.2.2.2.1.length ≤ 1000000 ∧ q.2.2.2.2.2.length ≤ 1000000) : Con Tryz.prog 107 [.agg #[.int .i64 p.1, .string p.2.1, .string p.2.2.1, .int .i64 p.2.2.2.1, ov, wv], .agg #[.int .i64 q.1, .string q.2.1, .string q.2.2.1, .int .i64 q.2.2.2.1, ov', wv']] [Sl eStr ov p.2.2.2.2.1, Sl eStr wv p.2.2.2.2.2, Sl eStr ov' q.2.2.2.2.1, Sl eStr wv' q.2.2.2.2.2] (γ := Unit) (fun _ => .bool (decide (p = q))) (fun _ => True) (fun _ => []) := by
  obtain ⟨k, n, t, a, o, z⟩ := p
  obtain ⟨k', n', t', a', o', z'⟩ := q
  obtain ⟨hp1, hp2⟩ := hp
  obtain ⟨hq1, hq2⟩ := hq
  dsimp only at hp1 hp2 hq1 hq2 ⊢
  have h1 := same_con ov ov' o o' hp1 hq1
  have h2 := same_con wv wv' z z' hp2 hq2
  refine con_of Tryz.func107 rfl (dd rfl) fun w0 O0 => ?_
  refine c_seq (c_region ?_)
  refine o_step (s_box rfl (dd rfl) (fun b2 => ?_))
  refine o_step (s_box rfl (dd rfl) (fun b3 => ?_))
  refine oV vA ?_
  refine o_nil (c_seq (c_region ?_))
  refine oV (vF 0 Tryz.underlying74 ti3) ?_
  refine oV (vL lone3) ?_
  refine oV (vF 0 Tryz.underlying74 ti3) ?_
  refine oV (vL lone3) ?_
  refine oV (v_eq rfl rfl) ?_
  refine oV vM ?_
  refine o_guard_t rfl rfl (fun g1 => ?_) (fun g1 => ?_)
  · refine oV (vF 1 Tryz.underlying74 ti9) ?_
    refine oN ?_
    refine oV (vL lone9) ?_
    refine oN ?_
    refine oV (vF 1 Tryz.underlying74 ti9) ?_
    refine oN ?_
    refine oV (vL lone9) ?_
    refine oN ?_
    refine oV (v_seq rfl rfl) ?_
    refine oV vT ?_
    refine oV vM ?_
    refine o_guard_t rfl rfl (fun g2 => ?_) (fun g2 => ?_)
    · refine oV (vF 2 Tryz.underlying74 ti9) ?_
      refine oN ?_
      refine oV (vL lone9) ?_
      refine oN ?_
      refine oV (vF 2 Tryz.underlying74 ti9) ?_
      refine oN ?_
      refine oV (vL lone9) ?_
      refine oN ?_
      refine oV (v_seq rfl rfl) ?_
      refine oV vT ?_
      refine oV vM ?_
      refine o_guard_t rfl rfl (fun g3 => ?_) (fun g3 => ?_)
      · refine oV (vF 3 Tryz.underlying74 ti3) ?_
        refine oN ?_
        refine oV (vL lone3) ?_
        refine oN ?_
        refine oV (vF 3 Tryz.underlying74 ti3) ?_
        refine oN ?_
        refine oV (vL lone3) ?_
        refine oN ?_
        refine oV (v_eq rfl rfl) ?_
        refine oV vT ?_
        refine oV vM ?_
        refine o_guard_t rfl rfl (fun g4 => ?_) (fun g4 => ?_)
        · refine oV (vF 4 Tryz.underlying74 ti23) ?_
          refine oN ?_
          refine oV (vL lone23) ?_
          refine oN ?_
          refine oV (vF 4 Tryz.underlying74 ti23) ?_
          refine oN ?_
          refine oV (vL lone23) ?_
          refine oN ?_
          refine o_step (s_callf_keep cl46 (h1) rfl (dd rfl) (rX (by repeat constructor)) (fun _ => sX) (fun _ _ => ?_))
          refine oV vT ?_
          refine oV vM ?_
          refine o_guard rfl rfl (fun g5 => ?_) (fun g5 => ?_)
          · have g5' : o = o' := of_decide_eq_true g5
            refine oV (vF 5 Tryz.underlying74 ti23) ?_
            refine oN ?_
            refine oV (vL lone23) ?_
            refine oN ?_
            refine oV (vF 5 Tryz.underlying74 ti23) ?_
            refine oN ?_
            refine oV (vL lone23) ?_
            refine oN ?_
            refine o_step (s_callf_keep cl46 (h2) rfl (dd rfl) (rX (by repeat constructor)) (fun _ => sX) (fun _ _ => ?_))
            refine oV vT ?_
            refine oV vA ?_
            refine o_nil ?_
            refine c_ret1 Tryz.func107 rfl rfl fun w O hS => ?_
            subst g1; subst g2; subst g3; subst g4; subst g5'
            exact ⟨(), congrArg Value.bool (decide_eq_decide.2 ⟨fun h => by rw [h], fun h => by injection h with _ h; injection h with _ h; injection h with _ h; injection h with _ h; injection h with _ h⟩), trivial, trivial⟩
          · have g5' : ¬ o = o' := of_decide_eq_false g5
            iterate 5 refine oX ?_
            refine oV vQ ?_
            refine oV vA ?_
            refine o_nil ?_
            refine c_ret1 Tryz.func107 rfl rfl fun w O hS => ?_
            refine ⟨(), ?_, trivial, trivial⟩
            rw [decide_eq_false]
            intro q
            injection q
            simp_all
        · skip
          iterate 5 refine oX ?_
          refine oV vQ ?_
          refine oV vM ?_
          iterate 5 refine oX ?_
          refine oV vQ ?_
          refine oV vA ?_
          refine o_nil ?_
          refine c_ret1 Tryz.func107 rfl rfl fun w O hS => ?_
          refine ⟨(), ?_, trivial, trivial⟩
          rw [decide_eq_false]
          intro q
          injection q
          simp_all
      · skip
        iterate 5 refine oX ?_
        refine oV vQ ?_
        refine oV vM ?_
        iterate 5 refine oX ?_
        refine oV vQ ?_
        refine oV vM ?_
        iterate 5 refine oX ?_
        refine oV vQ ?_
        refine oV vA ?_
        refine o_nil ?_
        refine c_ret1 Tryz.func107 rfl rfl fun w O hS => ?_
        refine ⟨(), ?_, trivial, trivial⟩
        rw [decide_eq_false]
        intro q
        injection q
        simp_all
    · skip
      iterate 5 refine oX ?_
      refine oV vQ ?_
      refine oV vM ?_
      iterate 5 refine oX ?_
      refine oV vQ ?_
      refine oV vM ?_
      iterate 5 refine oX ?_
      refine oV vQ ?_
      refine oV vM ?_
      iterate 5 refine oX ?_
      refine oV vQ ?_
      refine oV vA ?_
      refine o_nil ?_
      refine c_ret1 Tryz.func107 rfl rfl fun w O hS => ?_
      refine ⟨(), ?_, trivial, trivial⟩
      rw [decide_eq_false]
      intro q
      injection q
      simp_all
  · skip
    iterate 5 refine oX ?_
    refine oV vQ ?_
    refine oV vM ?_
    iterate 5 refine oX ?_
    refine oV vQ ?_
    refine oV vM ?_
    iterate 5 refine oX ?_
    refine oV vQ ?_
    refine oV vM ?_
    iterate 5 refine oX ?_
    refine oV vQ ?_
    refine oV vM ?_
    iterate 5 refine oX ?_
    refine oV vQ ?_
    refine oV vA ?_
    refine o_nil ?_
    refine c_ret1 Tryz.func107 rfl rfl fun w O hS => ?_
    refine ⟨(), ?_, trivial, trivial⟩
    rw [decide_eq_false]
    intro q
    injection q
    simp_all
set_option maxRecDepth 100000 in
theorem samePrR_con (p q : Pr9) (ov wv ov' wv' : Value) (hp : p.2.2.2.2.1.length ≤ 1000000 ∧ p.2.2.2.2.2.length ≤ 1000000) (hq : q.2.2.2.2.1.length ≤ 1000000 ∧ q.2.2.2.2.2.length ≤ 1000000) : Con Tryz.prog 80 [.agg #[.int .i64 p.1, .string p.2.1, .string p.2.2.1, .int .i64 p.2.2.2.1, ov, wv], .agg #[.int .i64 q.1, .string q.2.1, .string q.2.2.1, .int .i64 q.2.2.2.1, ov', wv']] [Sl eStr ov p.2.2.2.2.1, Sl eStr wv p.2.2.2.2.2, Sl eStr ov' q.2.2.2.2.1, Sl eStr wv' q.2.2.2.2.2] (γ := Unit) (fun _ => .bool (decide (p = q))) (fun _ => True) (fun _ => []) := by
  obtain ⟨k, n, t, a, o, z⟩ := p
  obtain ⟨k', n', t', a', o', z'⟩ := q
  obtain ⟨hp1, hp2⟩ := hp
  obtain ⟨hq1, hq2⟩ := hq
  dsimp only at hp1 hp2 hq1 hq2 ⊢
  have h1 := same_ref_con ov ov' o o' hp1 hq1
  have h2 := same_ref_con wv wv' z z' hp2 hq2
  refine con_of Tryz.func80 rfl (dd rfl) fun w0 O0 => ?_
  refine c_seq (c_region ?_)
  refine o_step (s_box rfl (dd rfl) (fun b2 => ?_))
  refine o_step (s_box rfl (dd rfl) (fun b3 => ?_))
  refine oV vA ?_
  refine o_nil (c_seq (c_region ?_))
  refine oV (vF 0 Tryz.underlying129 ti3) ?_
  refine oV (vL lone3) ?_
  refine oV (vF 0 Tryz.underlying129 ti3) ?_
  refine oV (vL lone3) ?_
  refine oV (v_eq rfl rfl) ?_
  refine oV vM ?_
  refine o_guard_t rfl rfl (fun g1 => ?_) (fun g1 => ?_)
  · refine oV (vF 1 Tryz.underlying129 ti9) ?_
    refine oN ?_
    refine oV (vL lone9) ?_
    refine oN ?_
    refine oV (vF 1 Tryz.underlying129 ti9) ?_
    refine oN ?_
    refine oV (vL lone9) ?_
    refine oN ?_
    refine oV (v_seq rfl rfl) ?_
    refine oV vT ?_
    refine oV vM ?_
    refine o_guard_t rfl rfl (fun g2 => ?_) (fun g2 => ?_)
    · refine oV (vF 2 Tryz.underlying129 ti9) ?_
      refine oN ?_
      refine oV (vL lone9) ?_
      refine oN ?_
      refine oV (vF 2 Tryz.underlying129 ti9) ?_
      refine oN ?_
      refine oV (vL lone9) ?_
      refine oN ?_
      refine oV (v_seq rfl rfl) ?_
      refine oV vT ?_
      refine oV vM ?_
      refine o_guard_t rfl rfl (fun g3 => ?_) (fun g3 => ?_)
      · refine oV (vF 3 Tryz.underlying129 ti3) ?_
        refine oN ?_
        refine oV (vL lone3) ?_
        refine oN ?_
        refine oV (vF 3 Tryz.underlying129 ti3) ?_
        refine oN ?_
        refine oV (vL lone3) ?_
        refine oN ?_
        refine oV (v_eq rfl rfl) ?_
        refine oV vT ?_
        refine oV vM ?_
        refine o_guard_t rfl rfl (fun g4 => ?_) (fun g4 => ?_)
        · refine oV (vF 4 Tryz.underlying129 ti23) ?_
          refine oN ?_
          refine oV (vL lone23) ?_
          refine oN ?_
          refine oV (vF 4 Tryz.underlying129 ti23) ?_
          refine oN ?_
          refine oV (vL lone23) ?_
          refine oN ?_
          refine o_step (s_callf_keep cl49 (h1) rfl (dd rfl) (rX (by repeat constructor)) (fun _ => sX) (fun _ _ => ?_))
          refine oV vT ?_
          refine oV vM ?_
          refine o_guard rfl rfl (fun g5 => ?_) (fun g5 => ?_)
          · have g5' : o = o' := of_decide_eq_true g5
            refine oV (vF 5 Tryz.underlying129 ti23) ?_
            refine oN ?_
            refine oV (vL lone23) ?_
            refine oN ?_
            refine oV (vF 5 Tryz.underlying129 ti23) ?_
            refine oN ?_
            refine oV (vL lone23) ?_
            refine oN ?_
            refine o_step (s_callf_keep cl49 (h2) rfl (dd rfl) (rX (by repeat constructor)) (fun _ => sX) (fun _ _ => ?_))
            refine oV vT ?_
            refine oV vA ?_
            refine o_nil ?_
            refine c_ret1 Tryz.func80 rfl rfl fun w O hS => ?_
            subst g1; subst g2; subst g3; subst g4; subst g5'
            exact ⟨(), congrArg Value.bool (decide_eq_decide.2 ⟨fun h => by rw [h], fun h => by injection h with _ h; injection h with _ h; injection h with _ h; injection h with _ h; injection h with _ h⟩), trivial, trivial⟩
          · have g5' : ¬ o = o' := of_decide_eq_false g5
            iterate 5 refine oX ?_
            refine oV vQ ?_
            refine oV vA ?_
            refine o_nil ?_
            refine c_ret1 Tryz.func80 rfl rfl fun w O hS => ?_
            refine ⟨(), ?_, trivial, trivial⟩
            rw [decide_eq_false]
            intro q
            injection q
            simp_all
        · skip
          iterate 5 refine oX ?_
          refine oV vQ ?_
          refine oV vM ?_
          iterate 5 refine oX ?_
          refine oV vQ ?_
          refine oV vA ?_
          refine o_nil ?_
          refine c_ret1 Tryz.func80 rfl rfl fun w O hS => ?_
          refine ⟨(), ?_, trivial, trivial⟩
          rw [decide_eq_false]
          intro q
          injection q
          simp_all
      · skip
        iterate 5 refine oX ?_
        refine oV vQ ?_
        refine oV vM ?_
        iterate 5 refine oX ?_
        refine oV vQ ?_
        refine oV vM ?_
        iterate 5 refine oX ?_
        refine oV vQ ?_
        refine oV vA ?_
        refine o_nil ?_
        refine c_ret1 Tryz.func80 rfl rfl fun w O hS => ?_
        refine ⟨(), ?_, trivial, trivial⟩
        rw [decide_eq_false]
        intro q
        injection q
        simp_all
    · skip
      iterate 5 refine oX ?_
      refine oV vQ ?_
      refine oV vM ?_
      iterate 5 refine oX ?_
      refine oV vQ ?_
      refine oV vM ?_
      iterate 5 refine oX ?_
      refine oV vQ ?_
      refine oV vM ?_
      iterate 5 refine oX ?_
      refine oV vQ ?_
      refine oV vA ?_
      refine o_nil ?_
      refine c_ret1 Tryz.func80 rfl rfl fun w O hS => ?_
      refine ⟨(), ?_, trivial, trivial⟩
      rw [decide_eq_false]
      intro q
      injection q
      simp_all
  · skip
    iterate 5 refine oX ?_
    refine oV vQ ?_
    refine oV vM ?_
    iterate 5 refine oX ?_
    refine oV vQ ?_
    refine oV vM ?_
    iterate 5 refine oX ?_
    refine oV vQ ?_
    refine oV vM ?_
    iterate 5 refine oX ?_
    refine oV vQ ?_
    refine oV vM ?_
    iterate 5 refine oX ?_
    refine oV vQ ?_
    refine oV vA ?_
    refine o_nil ?_
    refine c_ret1 Tryz.func80 rfl rfl fun w O hS => ?_
    refine ⟨(), ?_, trivial, trivial⟩
    rw [decide_eq_false]
    intro q
    injection q
    simp_all
end Go.Proofs.YtlfehnnmpkohkaaGreatDoor
/- Chapter 09: which rows of changes, and which patches, are the same; changes as the document's, and the program's. -/
namespace Go.Proofs.YtlfehnnmpkohkaaGreatDoor
open Go Go.SL Go.Lib
/-- Rows of changes that are short enough to be compared. -/
def ShortL (l : List Pr9) : Prop := l.length ≤ 1000000 ∧ ∀ p ∈ l, p.2.2.2.2.1.length ≤ 1000000 ∧ p.2.2.2.2.2.length ≤ 1000000
theorem take_next {α : Type} {xs ys : List α} {k : Nat} (h1 : k < xs.length) (h2 : k < ys.length) (he : xs.take k = ys.take k) (hx : xs[k] = ys[k]) : xs.take (k + 1) = ys.take (k + 1) := by
  rw [List.take_succ_eq_append_getElem h1, List.take_succ_eq_append_getElem h2, he, hx]
attribute [local irreducible] Cfg Kont StepK Val Con Qops Any Sl Own Blk BlkR Rd Pu ExA AllA Has Pick Ent Elem Beside Callable TI Lone OwnO AndA
set_option maxRecDepth 100000 in
theorem allR_con (v u : Value) (xs ys : List Pr9) (hx : ShortL xs) (hy : ShortL ys) : Con Tryz.prog 37 [v, u] [Sl ePr v xs, Sl ePr u ys] (γ := Unit) (fun _ => .bool (decide (xs = ys))) (fun _ => True) (fun _ => []) := by
  obtain ⟨hx1, hx2⟩ := hx
  obtain ⟨hy1, hy2⟩ := hy
  refine con_of Tryz.func37 rfl (dd rfl) fun w0 O0 => ?_
  refine c_seq (c_region ?_)
  refine oV vA ?_
  refine o_nil (c_seq (c_seq (c_region ?_)))
  refine oV vM ?_
  refine oV ((by first | exact v_len_form Tryz.underlying24 rfl | exact v_len_sl Tryz.underlying24 rfl (hX (by repeat constructor)))) ?_
  refine oV vM ?_
  refine oV ((by first | exact v_len_form Tryz.underlying24 rfl | exact v_len_sl Tryz.underlying24 rfl (hX (by repeat constructor)))) ?_
  refine oV (v_ne rfl rfl) ?_
  refine o_nil ?_
  refine c_cond_p rfl (fun h => ?_) (fun h => ?_)
  · refine c_seq (c_region ?_)
    refine oV vA ?_
    refine o_nil ?_
    refine c_ret1 Tryz.func37 rfl rfl fun w O hS => ?_
    exact ⟨(), by rw [decide_eq_false (fun e => h (by rw [e]))], trivial, trivial⟩
  · refine c_skip (c_seq (c_seq (c_region ?_)))
    refine oV vA ?_
    refine o_nil (c_block ?_)
    refine c_loopR (γ := Nat) [(0, _), (1, _), (4, _)] (fun k => xs.length - k) (fun k => k ≤ xs.length ∧ xs.take k = ys.take k) (fun k => [(5, .int .i64 k)]) (fun _ => [Sl ePr v xs, Sl ePr u ys]) (0) (⟨Nat.zero_le _, rfl⟩) (by repeat (first | exact trivial | refine ⟨rfl, ?_⟩)) (eX (by repeat constructor)) ?_
    rintro k ⟨hk, he⟩ IH
    try dsimp only [List.cons_append, List.nil_append]
    refine c_seq (c_seq (c_region ?_))
    iterate 2 refine oV vM ?_
    refine oV ((by first | exact v_len_form Tryz.underlying24 rfl | exact v_len_sl Tryz.underlying24 rfl (hX (by repeat constructor)))) ?_
    refine oV (v_lt rfl rfl) ?_
    refine o_nil ?_
    refine c_cond_p rfl (fun hlt => ?_) (fun hlt => ?_)
    · have hkx : k < xs.length := by omega
      have hky : k < ys.length := by omega
      have hS := fun ov wv ov' wv' => samePrR_con xs[k] ys[k] ov wv ov' wv' (hx2 _ (List.getElem_mem hkx)) (hy2 _ (List.getElem_mem hky))
      refine c_skip (c_seq (c_block (c_seq ?_)))
      refine c_held [Sl ePr v xs, Sl ePr u ys] rfl ?_
      refine aT 0 rfl vM ?_
      refine aT 1 rfl vM ?_
      refine aT 2 rfl ((by first | exact v_indexAddrN Tryz.underlying24 ti129 rfl rfl (hX (by repeat constructor)) (by omega) | exact v_indexAddr Tryz.underlying24 ti129 rfl rfl (hX (by repeat constructor)) (by omega))) ?_
      refine aT 4 rfl vM ?_
      refine aT 5 rfl vM ?_
      refine aT 6 rfl ((by first | exact v_indexAddrN Tryz.underlying24 ti129 rfl rfl (hX (by repeat constructor)) (by omega) | exact v_indexAddr Tryz.underlying24 ti129 rfl rfl (hX (by repeat constructor)) (by omega))) ?_
      refine a_two 3 7 rfl rfl (by kernel_rfl) ?_ ?_
      · skip
        refine s_load_shape ⟨_, Tryz.underlying129⟩ ti129 rfl (dd rfl) (by repeat (first|exact el1 (by omega)|exact el2 (by omega)|exact el3 (by omega)|apply Elem.there)) (pr_open) (fun g => aK ?_)
        refine aO 7 rfl (s_load_shape ⟨_, Tryz.underlying129⟩ ti129 rfl (dd rfl) (by repeat (first|exact el1 (by omega)|exact el2 (by omega)|exact el3 (by omega)|apply Elem.there)) (pr_open) (fun g' => aK ?_))
        refine aO 8 rfl (s_callf_keep cl80 (hS g.1 g.2 g'.1 g'.2) rfl (dd rfl) (rX (by repeat constructor)) (fun _ => sX) (fun _ _ => aK ?_))
        refine aT 9 rfl (v_not rfl) ?_
        refine a_done (by kernel_rfl) ?_ _
        refine c_cond rfl (fun hb => ?_) (fun hb => ?_)
        · have hne : ¬ xs[k] = ys[k] := by intro q; rw [decide_eq_true q] at hb; cases hb
          refine c_seq (c_region ?_)
          refine oV vA ?_
          refine o_nil ?_
          refine c_ret1 Tryz.func37 rfl rfl fun w O hS => ?_
          exact ⟨(), by rw [decide_eq_false]; intro q; subst q; exact hne rfl, trivial, trivial⟩
        · have heq : xs[k] = ys[k] := Classical.byContradiction fun q => by rw [decide_eq_false q] at hb; cases hb
          refine c_skip (c_inBlock (c_region ?_))
          refine oV vM ?_
          refine oV ((by first | exact v_add64 rfl rfl (by omega) | exact v_add rfl rfl)) ?_
          refine oV vA ?_
          refine o_nil ?_
          refine cU (IH (k + 1) (by first | omega | (dsimp only; omega)) (⟨by omega, take_next hkx hky he heq⟩))
      · skip
        refine s_load_shape ⟨_, Tryz.underlying129⟩ ti129 rfl (dd rfl) (by repeat (first|exact el1 (by omega)|exact el2 (by omega)|exact el3 (by omega)|apply Elem.there)) (pr_open) (fun g' => aK ?_)
        refine aO 3 rfl (s_load_shape ⟨_, Tryz.underlying129⟩ ti129 rfl (dd rfl) (by repeat (first|exact el1 (by omega)|exact el2 (by omega)|exact el3 (by omega)|apply Elem.there)) (pr_open) (fun g => aK ?_))
        refine aO 8 rfl (s_callf_keep cl80 (hS g.1 g.2 g'.1 g'.2) rfl (dd rfl) (rX (by repeat constructor)) (fun _ => sX) (fun _ _ => aK ?_))
        refine aT 9 rfl (v_not rfl) ?_
        refine a_done (by kernel_rfl) ?_ _
        refine c_cond rfl (fun hb => ?_) (fun hb => ?_)
        · have hne : ¬ xs[k] = ys[k] := by intro q; rw [decide_eq_true q] at hb; cases hb
          refine c_seq (c_region ?_)
          refine oV vA ?_
          refine o_nil ?_
          refine c_ret1 Tryz.func37 rfl rfl fun w O hS => ?_
          exact ⟨(), by rw [decide_eq_false]; intro q; subst q; exact hne rfl, trivial, trivial⟩
        · have heq : xs[k] = ys[k] := Classical.byContradiction fun q => by rw [decide_eq_false q] at hb; cases hb
          refine c_skip (c_inBlock (c_region ?_))
          refine oV vM ?_
          refine oV ((by first | exact v_add64 rfl rfl (by omega) | exact v_add rfl rfl)) ?_
          refine oV vA ?_
          refine o_nil ?_
          refine cU (IH (k + 1) (by first | omega | (dsimp only; omega)) (⟨by omega, take_next hkx hky he heq⟩))
    · refine c_exit rfl ?_
      refine c_seq (c_region ?_)
      refine oV vA ?_
      refine o_nil ?_
      refine c_ret1 Tryz.func37 rfl rfl fun w O hS => ?_
      refine ⟨(), ?_, trivial, trivial⟩
      rw [List.take_of_length_le (by omega), List.take_of_length_le (by omega)] at he
      rw [decide_eq_true he]
end Go.Proofs.YtlfehnnmpkohkaaGreatDoor
/- Chapter 09: which patches are the same. -/
namespace Go.Proofs.YtlfehnnmpkohkaaGreatDoor
open Go Go.SL Go.Lib
instance decPt9 : DecidableEq Pt9 := fun a b => inferInstanceAs (Decidable (a = b))
attribute [local irreducible] Cfg Kont StepK Val Con Qops Any Sl Own Blk BlkR Rd Pu ExA AllA Has Pick Ent Elem Beside Callable TI Lone OwnO AndA
set_option maxRecDepth 100000 in
theorem eqPrims_con (v u : Value) (xs ys : List Pr9) (hx : ShortL xs) (hy : ShortL ys) : Con Tryz.prog 106 [v, u, .func (.func 107) #[] #[]] [Sl ePr v xs, Sl ePr u ys] (γ := Unit) (fun _ => .bool (decide (xs = ys))) (fun _ => True) (fun _ => []) := by
  obtain ⟨hx1, hx2⟩ := hx
  obtain ⟨hy1, hy2⟩ := hy
  refine con_of Tryz.func106 rfl (dd rfl) fun w0 O0 => ?_
  refine c_seq (c_region ?_)
  refine oV vA ?_
  refine o_nil (c_seq (c_seq (c_region ?_)))
  refine oV vM ?_
  refine oV ((by first | exact v_len_form Tryz.underlying30 rfl | exact v_len_sl Tryz.underlying30 rfl (hX (by repeat constructor)))) ?_
  refine oV vM ?_
  refine oV ((by first | exact v_len_form Tryz.underlying30 rfl | exact v_len_sl Tryz.underlying30 rfl (hX (by repeat constructor)))) ?_
  refine oV (v_ne rfl rfl) ?_
  refine o_nil ?_
  refine c_cond_p rfl (fun h => ?_) (fun h => ?_)
  · refine c_seq (c_region ?_)
    refine oV vA ?_
    refine o_nil ?_
    refine c_ret1 Tryz.func106 rfl rfl fun w O hS => ?_
    exact ⟨(), by rw [decide_eq_false (fun e => h (by rw [e]))], trivial, trivial⟩
  · refine c_skip (c_seq (c_seq (c_region ?_)))
    refine oV vM ?_
    refine oV ((by first | exact v_len_form Tryz.underlying30 rfl | exact v_len_sl Tryz.underlying30 rfl (hX (by repeat constructor)))) ?_
    refine oV vM ?_
    refine o_nil (c_block ?_)
    refine c_loopR (γ := Nat) [(1, _), (2, _), (6, _), (15, _), (16, _)] (fun k => xs.length - k) (fun k => k ≤ xs.length ∧ xs.take k = ys.take k) (fun k => [(17, .int .i64 k)]) (fun _ => [Sl ePr v xs, Sl ePr u ys]) (0) (⟨Nat.zero_le _, rfl⟩) (by repeat (first | exact trivial | refine ⟨rfl, ?_⟩)) (eX (by repeat constructor)) ?_
    rintro k ⟨hk, he⟩ IH
    try dsimp only [List.cons_append, List.nil_append]
    refine c_seq (c_region ?_)
    refine oV (v_lt rfl rfl) ?_
    refine o_nil (c_seq ?_)
    refine c_cond_p rfl (fun hlt => ?_) (fun hlt => ?_)
    · have hkx : k < xs.length := by omega
      have hky : k < ys.length := by omega
      have hS := fun ov wv ov' wv' => samePr_con xs[k] ys[k] ov wv ov' wv' (hx2 _ (List.getElem_mem hkx)) (hy2 _ (List.getElem_mem hky))
      refine c_skip (c_seq (c_block (c_seq (c_region ?_))))
      refine oV vM ?_
      refine oV ((by first | exact v_indexAddrN Tryz.underlying30 ti74 rfl rfl (hX (by repeat constructor)) (by omega) | exact v_indexAddr Tryz.underlying30 ti74 rfl rfl (hX (by repeat constructor)) (by omega))) ?_
      refine o_step (s_load_shape ⟨_, Tryz.underlying74⟩ ti74 rfl (dd rfl) (by repeat (first|exact el1 (by omega)|exact el2 (by omega)|exact el3 (by omega)|apply Elem.there)) (pr_open) (fun g => ?_))
      refine o_step (s_alloc ti74 (dd rfl) (fun b8 => ?_))
      refine oV vA ?_
      refine o_step (s_store_all ti74 rfl rfl (by first | exact CellsV.lit rfl | exact CellsV.one (by first | exact OneC.lit rfl | exact OneC.sl (hX (by repeat constructor)) )) (by repeat (first | exact OneAll.nil | (refine OneAll.cons ?_ ?_; · first | exact OneC.lit rfl | exact OneC.sl (hX (by repeat constructor)) ) | exact OneAll.rd (hX (by repeat constructor)))) rfl (pB (by repeat constructor)) rfl (?_))
      refine o_nil (c_seq (c_region ?_))
      iterate 2 refine oV vM ?_
      refine oV ((by first | exact v_indexAddrN Tryz.underlying30 ti74 rfl rfl (hX (by repeat constructor)) (by omega) | exact v_indexAddr Tryz.underlying30 ti74 rfl rfl (hX (by repeat constructor)) (by omega))) ?_
      refine o_step (s_load_shape ⟨_, Tryz.underlying74⟩ ti74 rfl (dd rfl) (by repeat (first|exact el1 (by omega)|exact el2 (by omega)|exact el3 (by omega)|apply Elem.there)) (pr_open) (fun g' => ?_))
      refine o_step (s_alloc ti74 (dd rfl) (fun b9 => ?_))
      refine o_step (s_store_all ti74 rfl rfl (by first | exact CellsV.lit rfl | exact CellsV.one (by first | exact OneC.lit rfl | exact OneC.sl (hX (by repeat constructor)) )) (by repeat (first | exact OneAll.nil | (refine OneAll.cons ?_ ?_; · first | exact OneC.lit rfl | exact OneC.sl (hX (by repeat constructor)) ) | exact OneAll.rd (hX (by repeat constructor)))) rfl (pB (by repeat constructor)) rfl (?_))
      refine o_nil (c_seq (c_region ?_))
      refine oV vM ?_
      refine oV (vW Tryz.underlying74 ti74) ?_
      refine oV (vW Tryz.underlying74 ti74) ?_
      refine o_step (s_call_keep cl107 (hS g.1 g.2 g'.1 g'.2) (first := []) (cap := []) rfl rfl rfl (dd rfl) (rX (by repeat constructor)) (fun _ => sX) (fun _ _ => ?_))
      refine oV (v_not rfl) ?_
      refine o_nil ?_
      refine c_cond rfl (fun hb => ?_) (fun hb => ?_)
      · have hne : ¬ xs[k] = ys[k] := by intro q; rw [decide_eq_true q] at hb; cases hb
        refine c_seq (c_region ?_)
        refine oV vA ?_
        refine o_nil ?_
        refine c_ret1 Tryz.func106 rfl rfl fun w O hS => ?_
        exact ⟨(), by rw [decide_eq_false]; intro q; subst q; exact hne rfl, trivial, trivial⟩
      · have heq : xs[k] = ys[k] := Classical.byContradiction fun q => by rw [decide_eq_false q] at hb; cases hb
        refine c_skip (c_inBlock (c_region ?_))
        refine oV ((by first | exact v_add64 rfl rfl (by omega) | exact v_add rfl rfl)) ?_
        refine oV vM ?_
        refine o_nil ?_
        refine cU (IH (k + 1) (by first | omega | (dsimp only; omega)) (⟨by omega, take_next hkx hky he heq⟩))
    · refine c_exit rfl ?_
      refine c_seq (c_region ?_)
      refine oV vA ?_
      refine o_nil ?_
      refine c_ret1 Tryz.func106 rfl rfl fun w O hS => ?_
      refine ⟨(), ?_, trivial, trivial⟩
      rw [List.take_of_length_le (by omega), List.take_of_length_le (by omega)] at he
      rw [decide_eq_true he]
set_option maxRecDepth 100000 in
theorem samePrims_con (v u : Value) (xs ys : List Pr9) (hx : ShortL xs) (hy : ShortL ys) : Con Tryz.prog 47 [v, u] [Sl ePr v xs, Sl ePr u ys] (γ := Unit) (fun _ => .bool (decide (xs = ys))) (fun _ => True) (fun _ => []) := by
  have h := eqPrims_con v u xs ys hx hy
  refine con_of Tryz.func47 rfl (dd rfl) fun w0 O0 => ?_
  refine c_seq (c_region ?_)
  refine oV vA ?_
  refine o_nil (c_seq (c_region ?_))
  iterate 2 refine oV vM ?_
  refine oC cl106 (h) fun _ _ => ?_
  refine oV vA ?_
  refine o_nil ?_
  refine c_ret1 Tryz.func47 rfl rfl fun w O hS => ?_
  exact ⟨(), rfl, trivial, trivial⟩
set_option maxRecDepth 100000 in
theorem eqInts_con (v u : Value) (xs ys : List Int) (hx : xs.length ≤ 1000000) (hy : ys.length ≤ 1000000) : Con Tryz.prog 45 [v, u] [Sl (eInt .i64) v xs, Sl (eInt .i64) u ys] (γ := Unit) (fun _ => .bool (decide (xs = ys))) (fun _ => True) (fun _ => []) := by
  refine con_of Tryz.func45 rfl (dd rfl) fun w0 O0 => ?_
  refine c_seq (c_region ?_)
  refine oV vA ?_
  refine o_nil (c_seq (c_seq (c_region ?_)))
  refine oV vM ?_
  refine oV ((by first | exact v_len_form Tryz.underlying22 rfl | exact v_len_sl Tryz.underlying22 rfl (hX (by repeat constructor)))) ?_
  refine oV vM ?_
  refine oV ((by first | exact v_len_form Tryz.underlying22 rfl | exact v_len_sl Tryz.underlying22 rfl (hX (by repeat constructor)))) ?_
  refine oV (v_ne rfl rfl) ?_
  refine o_nil ?_
  refine c_cond_p rfl (fun h => ?_) (fun h => ?_)
  · refine c_seq (c_region ?_)
    refine oV vA ?_
    refine o_nil ?_
    refine c_ret1 Tryz.func45 rfl rfl fun w O hS => ?_
    exact ⟨(), by rw [decide_eq_false (fun e => h (by rw [e]))], trivial, trivial⟩
  · refine c_skip (c_seq (c_seq (c_region ?_)))
    refine oV vM ?_
    refine oV ((by first | exact v_len_form Tryz.underlying22 rfl | exact v_len_sl Tryz.underlying22 rfl (hX (by repeat constructor)))) ?_
    refine oV vM ?_
    refine o_nil (c_block ?_)
    refine c_loopR (γ := Nat) [(0, _), (1, _), (4, _), (12, _)] (fun k => xs.length - k) (fun k => k ≤ xs.length ∧ xs.take k = ys.take k) (fun k => [(13, .int .i64 k)]) (fun _ => [Sl (eInt .i64) v xs, Sl (eInt .i64) u ys]) (0) (⟨Nat.zero_le _, rfl⟩) (by repeat (first | exact trivial | refine ⟨rfl, ?_⟩)) (eX (by repeat constructor)) ?_
    rintro k ⟨hk, he⟩ IH
    try dsimp only [List.cons_append, List.nil_append]
    refine c_seq (c_region ?_)
    refine oV (v_lt rfl rfl) ?_
    refine o_nil (c_seq ?_)
    refine c_cond_p rfl (fun hlt => ?_) (fun hlt => ?_)
    · have hkx : k < xs.length := by omega
      have hky : k < ys.length := by omega
      refine c_skip (c_seq (c_block (c_seq (c_region ?_))))
      refine oV vM ?_
      refine oV vA ?_
      refine o_nil (c_seq ?_)
      refine c_quiet rfl (by kernel_rfl) ?_
      refine qV vM ?_
      refine qV vM ?_
      refine qV ((by first | exact v_indexAddrN Tryz.underlying22 ti3 rfl rfl (hX (by repeat constructor)) (by omega) | exact v_indexAddr Tryz.underlying22 ti3 rfl rfl (hX (by repeat constructor)) (by omega))) ?_
      refine qV (v_load_int lone3 rfl (by repeat (first | exact Elem.sl (List.getElem?_eq_getElem (by omega)) | exact Elem.own (List.getElem?_eq_getElem (by omega)) | exact Elem.ownO (List.getElem?_eq_getElem (by omega)) | apply Elem.there))) ?_
      refine qV vM ?_
      refine qV vM ?_
      refine qV ((by first | exact v_indexAddrN Tryz.underlying22 ti3 rfl rfl (hX (by repeat constructor)) (by omega) | exact v_indexAddr Tryz.underlying22 ti3 rfl rfl (hX (by repeat constructor)) (by omega))) ?_
      refine qV (v_load_int lone3 rfl (by repeat (first | exact Elem.sl (List.getElem?_eq_getElem (by omega)) | exact Elem.own (List.getElem?_eq_getElem (by omega)) | exact Elem.ownO (List.getElem?_eq_getElem (by omega)) | apply Elem.there))) ?_
      refine qV (v_ne rfl rfl) ?_
      refine q_nil ?_
      refine c_cond_p rfl (fun hne => ?_) (fun hne => ?_)
      · refine c_seq (c_region ?_)
        refine oV vA ?_
        refine o_nil ?_
        refine c_ret1 Tryz.func45 rfl rfl fun w O hS => ?_
        exact ⟨(), by rw [decide_eq_false]; intro q; subst q; exact hne rfl, trivial, trivial⟩
      · refine c_skip (c_inBlock (c_region ?_))
        refine oV ((by first | exact v_add64 rfl rfl (by omega) | exact v_add rfl rfl)) ?_
        refine oV vM ?_
        refine o_nil ?_
        refine cU (IH (k + 1) (by first | omega | (dsimp only; omega)) (⟨by omega, take_next hkx hky he (Classical.not_not.1 hne)⟩))
    · refine c_exit rfl ?_
      refine c_seq (c_region ?_)
      refine oV vA ?_
      refine o_nil ?_
      refine c_ret1 Tryz.func45 rfl rfl fun w O hS => ?_
      refine ⟨(), ?_, trivial, trivial⟩
      rw [List.take_of_length_le (by omega), List.take_of_length_le (by omega)] at he
      rw [decide_eq_true he]
/-- Patches that are short enough to be compared. -/
def ShortT (p : Pt9) : Prop := p.2.2.1.length ≤ 1000000 ∧ ShortL p.2.2.2
end Go.Proofs.YtlfehnnmpkohkaaGreatDoor
/- Chapter 09: what is read is short; a reading, of each kind. -/
namespace Go.Proofs.YtlfehnnmpkohkaaGreatDoor
open Go Go.Lib
/-- What is read next, and how much it may be. -/
abbrev Ask9 := Int × Int × Int
def stepR (a : Ask9) (s : St9) : St9 :=
  if a.1 = 0 then (takeNum s).1 else if a.1 = 1 then (takeFlag s).1 else if a.1 = 2 then (takeText a.2.1 s).1 else if a.1 = 3 then (takeTexts a.2.1 a.2.2 s).1
  else if a.1 = 4 then (takePrim s).1 else if a.1 = 5 then (takePrims a.2.1 s).1 else if a.1 = 6 then (takePatch s).1 else s
end Go.Proofs.YtlfehnnmpkohkaaGreatDoor
/- Chapter 09: what is read can be written: sizes, bounds; bytes that are read to the end are those that are written. -/
namespace Go.Proofs.YtlfehnnmpkohkaaGreatDoor
open Go Go.Lib
theorem takeFlag_back {s s' : St9} {b : Bool} (h : takeFlag s = (s', b)) (hb : s'.2 = false) : s.2 = false ∧ s.1 = flagB b ++ s'.1 := by
  unfold takeFlag num9 at h
  by_cases hs : s.2 = true
  · rw [if_pos hs] at h
    cases h; cases hb
  · rw [if_neg hs] at h
    cases hn : numberR 59 s.1 with
    | none => rw [hn] at h; cases h; cases hb
    | some p =>
      obtain ⟨n', m⟩ := p
      rw [hn] at h
      dsimp only at h
      split at h
      · rename_i hf
        cases h
        obtain ⟨r, h1, h2, _⟩ := number_some hn
        refine ⟨by simpa using hs, ?_⟩
        have e : flagB (decide (n' = 1)) = itoa n' ++ [59] := by
          rcases hf with q | q <;> subst q <;> decide +kernel
        rw [e, h1, h2, show (itoa n').length + 1 = (itoa n' ++ [59]).length by simp, show itoa n' ++ 59 :: r = (itoa n' ++ [59]) ++ r by simp, List.drop_left]
      · cases h; cases hb
theorem text_zero {m : Int} {s : St9} (h : (takeText m s).1.2 = true) : (takeText m s).2 = ⟨#[]⟩ := by
  revert h
  unfold takeText
  split
  · split
    · intro h; cases h
    · intro _; rfl
  · intro _; rfl
theorem some_zero {α : Type} {take : St9 → St9 × α} {m : Int} {s : St9} (h : (takeSome take m s).1.2 = true) : (takeSome take m s).2 = [] := by
  revert h
  unfold takeSome
  split
  · intro _; rfl
  · split
    · intro _; rfl
    · intro h; rename_i q; exact absurd h q
theorem le_or {s s' : St9} {X : List UInt8} (h0 : s'.2 = true → X.length ≤ 40) (h1 : s'.2 = false → s.1 = X ++ s'.1) : X.length ≤ s.1.length + 40 := by
  cases h : s'.2 with
  | true => have := h0 h; omega
  | false => rw [h1 h, List.length_append]; omega
theorem text_len9 {m : Int} {s : St9} : (textB (takeText m s).2).length ≤ s.1.length + 40 :=
  le_or (s' := (takeText m s).1) (fun h => by rw [text_zero h]; decide +kernel) fun h => (takeText_back rfl h).2.1
theorem some_back {α : Type} {take : St9 → St9 × α} {put : α → List UInt8} (hh : ∀ s s' x, take s = (s', x) → s'.2 = false → s.2 = false ∧ s.1 = put x ++ s'.1 ∧ True) {m : Int} {s : St9} (h : (takeSome take m s).1.2 = false) : s.1 = manyB put (takeSome take m s).2 ++ (takeSome take m s).1.1 :=
  (takeSome_back (ok := fun _ => True) hh rfl h).2.1
theorem some_len9 {α : Type} {take : St9 → St9 × α} {put : α → List UInt8} (hh : ∀ s s' x, take s = (s', x) → s'.2 = false → s.2 = false ∧ s.1 = put x ++ s'.1 ∧ True) {m : Int} {s : St9} : (manyB put (takeSome take m s).2).length ≤ s.1.length + 40 :=
  le_or (s' := (takeSome take m s).1) (fun h => by rw [some_zero h]; unfold manyB; have := numB_len (([] : List α).length); simp at this ⊢; omega) fun h => some_back hh h
theorem back_text (m : Int) : ∀ s s' x, takeText m s = (s', x) → s'.2 = false → s.2 = false ∧ s.1 = textB x ++ s'.1 ∧ True := fun _ _ _ e hb => ⟨(takeText_back e hb).1, (takeText_back e hb).2.1, trivial⟩
theorem back_prim : ∀ s s' x, takePrim s = (s', x) → s'.2 = false → s.2 = false ∧ s.1 = primB x ++ s'.1 ∧ True := fun _ _ _ e hb => ⟨(takePrim_back e hb).1, (takePrim_back e hb).2.1, trivial⟩
theorem far_int {n : Int} (h : -far9 ≤ n ∧ n ≤ far9) : -9223372036854775808 ≤ n ∧ n ≤ 9223372036854775807 := by unfold far9 at h; omega
theorem prim_count {s : St9} (h : s.1.length ≤ big9) : CountP (takePrim s).2 := by
  have hs := prim_ok h
  refine ⟨?_, ?_, Nat.le_trans hs.2.2.1.1 (by decide), Nat.le_trans hs.2.2.2.1 (by decide)⟩
  · unfold takePrim
    split
    · exact ⟨show (-9223372036854775808 : Int) ≤ 0 by decide, show (0 : Int) ≤ 9223372036854775807 by decide⟩
    · exact far_int num_far
  · unfold takePrim
    split
    · exact ⟨show (-9223372036854775808 : Int) ≤ 0 by decide, show (0 : Int) ≤ 9223372036854775807 by decide⟩
    · exact far_int num_far
theorem prims_count {m : Int} {s : St9} (h : s.1.length ≤ big9) : ∀ p ∈ (takePrims m s).2, CountP p := fun p hp => some_ok (most := m) goes_prim (fun s hs => prim_count hs) h p hp
end Go.Proofs.YtlfehnnmpkohkaaGreatDoor
/- Chapter 16: requests, what they are written as, and what is read, in plain words. -/
namespace Go.Proofs.YtlfehnnmpkohkaaGreatDoor
open Go Go.Lib
/-- Kind, Base, Id, Name, Note, Deps, Files, L. -/
abbrev Rq9 := Int × Int × Int × ByteArray × ByteArray × List Int × List ByteArray × List Pr9
def rowB (l : List Int) : List UInt8 := manyB numB l
def reqB (q : Rq9) : List UInt8 := numB q.1 ++ numB q.2.1 ++ numB q.2.2.1 ++ textB q.2.2.2.1 ++ textB q.2.2.2.2.1 ++ rowB q.2.2.2.2.2.1 ++ textsB q.2.2.2.2.2.2.1 ++ primsB q.2.2.2.2.2.2.2
/-- Numbers, as many as told. -/
def takeRep : Nat → St9 → List Int → St9 × List Int
  | 0, s, out => (s, out)
  | k + 1, s, out => takeRep k (takeNum s).1 (out ++ [(takeNum s).2])
/-- A row of numbers, as the program reads it, and as the document does. -/
def takeRowP (most : Int) (s : St9) : St9 × List Int := takeRep (min (max (takeNum s).2 0) most).toNat (takeNum s).1 []
def takeRowR (most : Int) (s : St9) : St9 × List Int :=
  takeMany takeNum (takeNum s).2.toNat (if (takeNum s).2 < 0 ∨ most < (takeNum s).2 then spoil9 (takeNum s).1 else (takeNum s).1) []
def rawReq (row : St9 → St9 × List Int) (s : St9) : St9 × Rq9 :=
  let a := takeNum s; let b := takeNum a.1; let c := takeNum b.1; let d := takeText 24 c.1; let e := takeText 60 d.1; let f := row e.1; let g := takeTexts 8 24 f.1; let h := takePrims 24 g.1
  (h.1, a.2, b.2, c.2, d.2, e.2, f.2, g.2, h.2)
/-! ### what is spoiled stays so -/
theorem sticky_num {s : St9} (h : (takeNum s).1.2 = false) : s.2 = false := (takeNum_back rfl h).1
theorem rep_many : ∀ (k : Nat) (s : St9) (out : List Int), (takeMany takeNum k s out).1.2 = false → takeRep k s out = takeMany takeNum k s out
  | 0, _, _, _ => rfl
  | k + 1, s, out, h => by
    have hs : s.2 = false := by
      cases e : s.2 with
      | false => rfl
      | true => rw [takeMany_bad _ _ _ _ e] at h; rw [e] at h; cases h
    unfold takeMany takeRep at *
    rw [hs, if_neg (by decide)] at *
    exact rep_many k _ _ h
theorem back_num : ∀ s s' x, takeNum s = (s', x) → s'.2 = false → s.2 = false ∧ s.1 = numB x ++ s'.1 ∧ (-far9 ≤ x ∧ x ≤ far9) := fun _ _ _ e hb => takeNum_back e hb
/-- Where the document is not spoiled, the program reads the same. -/
theorem row_same {m : Int} {s : St9} (h : (takeRowR m s).1.2 = false) : takeRowP m s = takeRowR m s := by
  unfold takeRowR at *
  by_cases hn : (takeNum s).2 < 0 ∨ m < (takeNum s).2
  · rw [if_pos hn, takeMany_bad _ _ _ _ rfl] at h
    cases h
  · rw [if_neg hn] at *
    unfold takeRowP
    rw [show (min (max (takeNum s).2 0) m).toNat = (takeNum s).2.toNat by omega]
    exact rep_many _ _ _ h
theorem rowR_back {m : Int} {s s' : St9} {l : List Int} (e : takeRowR m s = (s', l)) (h : s'.2 = false) : s.2 = false ∧ s.1 = rowB l ++ s'.1 ∧ (l.length : Int) ≤ m ∧ ∀ n ∈ l, -far9 ≤ n ∧ n ≤ far9 := by
  unfold takeRowR at e
  by_cases hn : (takeNum s).2 < 0 ∨ m < (takeNum s).2
  · rw [if_pos hn, takeMany_bad _ _ _ _ rfl] at e
    cases e; cases h
  · rw [if_neg hn] at e
    have h1 : (takeNum s).1.2 = false := by
      cases hb : (takeNum s).1.2 with
      | false => rfl
      | true =>
        rw [takeMany_bad _ _ _ _ hb] at e
        cases e
        rw [hb] at h; cases h
    obtain ⟨l', hl', hlen, h2, h3⟩ := takeMany_back (ok := fun n => -far9 ≤ n ∧ n ≤ far9) back_num _ _ _ _ _ e h
    have h0 := takeNum_back (s := s) (s' := (takeNum s).1) (n := (takeNum s).2) rfl h1
    rw [List.nil_append] at hl'
    subst hl'
    refine ⟨h0.1, ?_, by omega, h3⟩
    unfold rowB manyB
    rw [h0.2.1, h2, List.append_assoc, hlen]
    congr 2
    omega
theorem rowR_enc {l : List Int} {m : Int} (hm : (l.length : Int) ≤ m) (hf : (l.length : Int) ≤ far9) (hl : ∀ n ∈ l, -far9 ≤ n ∧ n ≤ far9) (r : List UInt8) : takeRowR m (rowB l ++ r, false) = ((r, false), l) := by
  unfold takeRowR rowB manyB
  rw [List.append_assoc, takeNum_enc ⟨by unfold far9; omega, hf⟩]
  dsimp only
  rw [if_neg (by omega), show ((l.length : Nat) : Int).toNat = l.length by omega, takeMany_enc (ok := fun n => -far9 ≤ n ∧ n ≤ far9) (fun x r hx => takeNum_enc hx r) l r [] hl]
  rfl
/-! ### which may be -/
/-- Names that may be, each behind the one ahead of it. -/
def filesP : ByteArray → List ByteArray → Bool
  | _, [] => true
  | last, s :: l => namedP s && !(Op.bytesLess s.data.toList last.data.toList || decide (s = last)) && filesP s l
def RightQ (q : Rq9) : Prop :=
  (0 ≤ q.1 ∧ q.1 ≤ 12) ∧
  (if q.1 = 0 then 0 ≤ q.2.1 ∧ q.2.1 ≤ far9 ∧ 1 ≤ q.2.2.2.2.2.2.2.length ∧ q.2.2.2.2.2.2.2.length ≤ 24 ∧ q.2.2.2.2.2.2.2.all rightP = true else q.2.1 = 0 ∧ q.2.2.2.2.2.2.2 = []) ∧
  (if q.1 = 1 then lineP q.2.2.2.2.1 = true ∧ q.2.2.2.2.2.1.length ≤ 8 ∧ depsP q.2.2.1 0 q.2.2.2.2.2.1 = true else q.2.2.2.2.1 = ⟨#[]⟩ ∧ q.2.2.2.2.2.1 = []) ∧
  (if q.1 = 1 ∨ q.1 = 2 ∨ q.1 = 3 then 1 ≤ q.2.2.1 ∧ q.2.2.1 ≤ 1000000000 else if q.1 = 12 then 0 ≤ q.2.2.1 ∧ q.2.2.1 ≤ 100 else q.2.2.1 = 0) ∧
  (if q.1 = 1 ∨ q.1 = 2 ∨ q.1 = 4 ∨ q.1 = 5 then q.2.2.2.2.2.2.1.length ≤ 8 ∧ filesP ⟨#[]⟩ q.2.2.2.2.2.2.1 = true else q.2.2.2.2.2.2.1 = []) ∧
  (if q.1 = 5 ∨ q.1 = 6 ∨ q.1 = 9 then namedP q.2.2.2.1 = true else if q.1 = 10 then q.2.2.2.1 = ⟨#[]⟩ ∨ namedP q.2.2.2.1 = true else q.2.2.2.1 = ⟨#[]⟩)
instance (q : Rq9) : Decidable (RightQ q) := by unfold RightQ; infer_instance
theorem named_size {s : ByteArray} (h : namedP s = true) : s.size ≤ 24 := by
  unfold namedP at h
  simp only [Bool.and_eq_true, decide_eq_true_eq] at h
  exact h.1.2
theorem line_size {s : ByteArray} (h : lineP s = true) : s.size ≤ 60 := by
  unfold lineP at h
  simp only [Bool.and_eq_true, decide_eq_true_eq] at h
  exact h.1
theorem files_size : ∀ {last : ByteArray} {l : List ByteArray}, filesP last l = true → ∀ s ∈ l, s.size ≤ 24
  | _, [], _ => fun _ h => by cases h
  | last, t :: l, h => fun s hs => by
    unfold filesP at h
    simp only [Bool.and_eq_true] at h
    rcases List.mem_cons.1 hs with rfl | hs
    · exact named_size h.1.1
    · exact files_size h.2 s hs
/-- What a request that may be stays within. -/
structure LimQ (q : Rq9) : Prop where
  kind : -far9 ≤ q.1 ∧ q.1 ≤ far9
  base : -far9 ≤ q.2.1 ∧ q.2.1 ≤ far9
  id : -far9 ≤ q.2.2.1 ∧ q.2.2.1 ≤ far9
  name : q.2.2.2.1.size ≤ 24
  note : q.2.2.2.2.1.size ≤ 60
  deps : q.2.2.2.2.2.1.length ≤ 8 ∧ ∀ n ∈ q.2.2.2.2.2.1, -far9 ≤ n ∧ n ≤ far9
  files : q.2.2.2.2.2.2.1.length ≤ 8 ∧ ∀ s ∈ q.2.2.2.2.2.2.1, s.size ≤ 24
  prims : q.2.2.2.2.2.2.2.length ≤ 24 ∧ ∀ p ∈ q.2.2.2.2.2.2.2, rightP p = true
theorem RightQ.lim {q : Rq9} (h : RightQ q) : LimQ q := by
  obtain ⟨k, b, i, n, t, d, f, l⟩ := q
  obtain ⟨h1, h2, h3, h4, h5, h6⟩ := h
  dsimp only at *
  have z : (⟨#[]⟩ : ByteArray).size = 0 := rfl
  refine ⟨?_, ?_, ?_, ?_, ?_, ?_, ?_, ?_⟩ <;> dsimp only
  · unfold far9; omega
  · split at h2
    · unfold far9 at *; omega
    · unfold far9; omega
  · unfold far9
    split at h4
    · omega
    split at h4 <;> omega
  · split at h6
    · exact named_size h6
    split at h6
    · rcases h6 with rfl | h6
      · exact Nat.zero_le _
      · exact named_size h6
    · rw [h6]; exact Nat.zero_le _
  · split at h3
    · exact line_size h3.1
    · rw [h3.1]; exact Nat.zero_le _
  · split at h3
    · exact ⟨h3.2.1, depsP_far (by decide) h3.2.2⟩
    · rw [h3.2]; exact ⟨Nat.zero_le _, fun _ h => by cases h⟩
  · split at h5
    · exact ⟨h5.1, files_size h5.2⟩
    · rw [h5]; exact ⟨Nat.zero_le _, fun _ h => by cases h⟩
  · split at h2
    · exact ⟨h2.2.2.2.1, fun p hp => List.all_eq_true.1 h2.2.2.2.2 p hp⟩
    · rw [h2.2]; exact ⟨Nat.zero_le _, fun _ h => by cases h⟩
/-- What was written is read. -/
theorem req_enc {q : Rq9} (h : LimQ q) (hf : ∀ p ∈ q.2.2.2.2.2.2.2, FitP p) (r : List UInt8) : rawReq (takeRowR 8) (reqB q ++ r, false) = ((r, false), q) := by
  have e : reqB q ++ r = numB q.1 ++ (numB q.2.1 ++ (numB q.2.2.1 ++ (textB q.2.2.2.1 ++ (textB q.2.2.2.2.1 ++ (rowB q.2.2.2.2.2.1 ++ (textsB q.2.2.2.2.2.2.1 ++ (primsB q.2.2.2.2.2.2.2 ++ r))))))) := by
    unfold reqB; simp only [List.append_assoc]
  have h1 := h.name
  have h2 := h.note
  have h3 := h.deps
  have h4 := h.files
  have h5 := h.prims
  unfold rawReq
  rw [e, takeNum_enc h.kind]
  dsimp only
  rw [takeNum_enc h.base]
  dsimp only
  rw [takeNum_enc h.id]
  dsimp only
  rw [takeText_enc (by omega) (by unfold far9; omega)]
  dsimp only
  rw [takeText_enc (by omega) (by unfold far9; omega)]
  dsimp only
  rw [rowR_enc (by omega) (by unfold far9; omega) h3.2]
  dsimp only
  unfold takeTexts
  rw [show textsB q.2.2.2.2.2.2.1 = manyB textB q.2.2.2.2.2.2.1 from rfl, takeSome_enc (ok := fun s => s.size ≤ 24) (fun s r hs => takeText_enc (by omega) (by unfold far9; omega) r) (by omega) (by unfold far9; omega) h4.2]
  dsimp only
  unfold takePrims
  rw [show primsB q.2.2.2.2.2.2.2 = manyB primB q.2.2.2.2.2.2.2 from rfl, takeSome_enc (ok := fun p => rightP p = true ∧ FitP p) (fun p r hp => takePrim_enc hp.1 hp.2 r) (by omega) (by unfold far9; omega) fun p hp => ⟨h5.2 p hp, hf p hp⟩]
end Go.Proofs.YtlfehnnmpkohkaaGreatDoor
/- Chapter 16: a request that is read: the program's way, and the document's. -/
namespace Go.Proofs.YtlfehnnmpkohkaaGreatDoor
open Go Go.Lib
theorem req_back {s s' : St9} {q : Rq9} (e : rawReq (takeRowR 8) s = (s', q)) (h : s'.2 = false) : s.2 = false ∧ s.1 = reqB q ++ s'.1 ∧ rawReq (takeRowP 8) s = (s', q) := by
  unfold rawReq at e ⊢
  dsimp only at e ⊢
  obtain ⟨⟨s1, k⟩, e1⟩ : ∃ x, takeNum s = x := ⟨_, rfl⟩
  rw [e1] at e ⊢
  dsimp only at e ⊢
  obtain ⟨⟨s2, b⟩, e2⟩ : ∃ x, takeNum s1 = x := ⟨_, rfl⟩
  rw [e2] at e ⊢
  dsimp only at e ⊢
  obtain ⟨⟨s3, i⟩, e3⟩ : ∃ x, takeNum s2 = x := ⟨_, rfl⟩
  rw [e3] at e ⊢
  dsimp only at e ⊢
  obtain ⟨⟨s4, n⟩, e4⟩ : ∃ x, takeText 24 s3 = x := ⟨_, rfl⟩
  rw [e4] at e ⊢
  dsimp only at e ⊢
  obtain ⟨⟨s5, t⟩, e5⟩ : ∃ x, takeText 60 s4 = x := ⟨_, rfl⟩
  rw [e5] at e ⊢
  dsimp only at e ⊢
  obtain ⟨⟨s6, d⟩, e6⟩ : ∃ x, takeRowR 8 s5 = x := ⟨_, rfl⟩
  rw [e6] at e
  dsimp only at e
  obtain ⟨⟨s7, f⟩, e7⟩ : ∃ x, takeTexts 8 24 s6 = x := ⟨_, rfl⟩
  rw [e7] at e
  dsimp only at e
  obtain ⟨⟨s8, l⟩, e8⟩ : ∃ x, takePrims 24 s7 = x := ⟨_, rfl⟩
  rw [e8] at e
  dsimp only at e
  cases e
  obtain ⟨h7, a8, -⟩ := takeSome_back (ok := fun _ => True) back_prim e8 h
  obtain ⟨h6, a7, -⟩ := takeSome_back (ok := fun _ => True) (back_text 24) e7 h7
  obtain ⟨h5, a6, -⟩ := rowR_back e6 h6
  obtain ⟨h4, a5, -⟩ := takeText_back e5 h5
  obtain ⟨h3, a4, -⟩ := takeText_back e4 h4
  obtain ⟨h2, a3, -⟩ := takeNum_back e3 h3
  obtain ⟨h1, a2, -⟩ := takeNum_back e2 h2
  obtain ⟨h0, a1, -⟩ := takeNum_back e1 h1
  refine ⟨h0, ?_, ?_⟩
  · rw [a1, a2, a3, a4, a5, a6, a7, a8]
    unfold reqB textsB primsB
    simp only [List.append_assoc]
  · rw [row_same (by rw [e6]; exact h6), e6]
    dsimp only
    rw [e7]
    dsimp only
    rw [e8]
/-- A request of bytes, as the program finds it, and as the document does. -/
def parseP (b : List UInt8) : Option Rq9 :=
  if (rawReq (takeRowP 8) (b, false)).1 = ([], false) ∧ RightQ (rawReq (takeRowP 8) (b, false)).2 ∧ reqB (rawReq (takeRowP 8) (b, false)).2 = b then some (rawReq (takeRowP 8) (b, false)).2 else none
def parseR (b : List UInt8) : Option Rq9 :=
  if (rawReq (takeRowR 8) (b, false)).1 = ([], false) ∧ RightQ (rawReq (takeRowR 8) (b, false)).2 then some (rawReq (takeRowR 8) (b, false)).2 else none
theorem fit_of_len {l : List Pr9} {b r : List UInt8} (h : b = primsB l ++ r) (hb : b.length ≤ big9) : ∀ p ∈ l, FitP p := by
  intro p hp
  have h1 : (primB p).length ≤ (primsB l).length := by
    unfold primsB manyB
    have : (primB p).length ≤ ((l.map primB).flatten).length := by
      clear h
      induction l with
      | nil => cases hp
      | cons x l ih =>
        simp only [List.map_cons, List.flatten_cons, List.length_append]
        rcases List.mem_cons.1 hp with rfl | hp
        · omega
        · have := ih hp; omega
    rw [List.length_append]; omega
  have h2 := congrArg List.length h
  rw [List.length_append] at h2
  have h3 : p.2.2.2.2.1.length ≤ (textsB p.2.2.2.2.1 ++ []).length := texts_len
  have h4 : p.2.2.2.2.2.length ≤ (textsB p.2.2.2.2.2 ++ []).length := texts_len
  rw [List.append_nil] at h3 h4
  have h5 : (textsB p.2.2.2.2.1).length + (textsB p.2.2.2.2.2).length ≤ (primB p).length := by
    unfold primB; simp only [List.length_append]; omega
  unfold big9 at hb
  unfold FitP far9
  omega
theorem req_prims (q : Rq9) : ∃ a, reqB q = a ++ primsB q.2.2.2.2.2.2.2 := ⟨_, rfl⟩
theorem fit_req {q : Rq9} {b : List UInt8} (h : reqB q = b) (hb : b.length ≤ big9) : ∀ p ∈ q.2.2.2.2.2.2.2, FitP p := by
  obtain ⟨a, ha⟩ := req_prims q
  have h2 : (primsB q.2.2.2.2.2.2.2).length ≤ big9 := by
    have := congrArg List.length (ha.symm.trans h)
    rw [List.length_append] at this; omega
  exact fit_of_len (r := []) (List.append_nil _).symm h2
theorem parse_same {b : List UInt8} (hb : b.length ≤ big9) : parseP b = parseR b := by
  unfold parseP parseR
  by_cases h : (rawReq (takeRowR 8) (b, false)).1 = ([], false) ∧ RightQ (rawReq (takeRowR 8) (b, false)).2
  · rw [if_pos h]
    obtain ⟨h1, h2⟩ := h
    obtain ⟨-, h3, h4⟩ := req_back (s := (b, false)) (s' := (rawReq (takeRowR 8) (b, false)).1) (q := (rawReq (takeRowR 8) (b, false)).2) rfl (by rw [h1])
    rw [h4, if_pos ⟨h1, h2, by rw [h1] at h3; simpa using h3.symm⟩]
  · rw [if_neg h, if_neg]
    rintro ⟨h1, h2, h3⟩
    refine h ?_
    have h4 := req_enc h2.lim (fit_req h3 hb) []
    rw [List.append_nil, h3] at h4
    rw [h4]
    exact ⟨rfl, h2⟩
theorem parse_enc {q : Rq9} (h : RightQ q) (hb : (reqB q).length ≤ big9) : parseP (reqB q) = some q := by
  rw [parse_same hb]
  unfold parseR
  have h4 := req_enc h.lim (fit_req rfl hb) []
  rw [List.append_nil] at h4
  rw [h4, if_pos ⟨rfl, h⟩]
end Go.Proofs.YtlfehnnmpkohkaaGreatDoor
/- Chapter 16: responses, in plain words. -/
namespace Go.Proofs.YtlfehnnmpkohkaaGreatDoor
open Go Go.Lib
/-- Version, Names, Lost. -/
abbrev Nt9 := Int × List ByteArray × Bool
/-- Code, Version, L, Ids, Lines, Notes. -/
abbrev Rs9 := Int × Int × List Pr9 × List Int × List ByteArray × List Nt9
def noteB (n : Nt9) : List UInt8 := numB n.1 ++ flagB n.2.2 ++ textsB n.2.1
def resB (s : Rs9) : List UInt8 := numB s.1 ++ numB s.2.1 ++ primsB s.2.2.1 ++ rowB s.2.2.2.1 ++ textsB s.2.2.2.2.1 ++ manyB noteB s.2.2.2.2.2
def takeNote (s : St9) : St9 × Nt9 :=
  let a := takeNum s; let b := takeFlag a.1; let c := takeTexts 1000 60 b.1
  (c.1, a.2, c.2, b.2)
/-- So many, whatever comes. -/
def repG {α : Type} (take : St9 → St9 × α) : Nat → St9 → List α → St9 × List α
  | 0, s, out => (s, out)
  | k + 1, s, out => repG take k (take s).1 (out ++ [(take s).2])
def manyP9 {α : Type} (take : St9 → St9 × α) (most : Int) (s : St9) : St9 × List α := repG take (min (max (takeNum s).2 0) most).toNat (takeNum s).1 []
def manyR9 {α : Type} (take : St9 → St9 × α) (most : Int) (s : St9) : St9 × List α :=
  takeMany take (takeNum s).2.toNat (if (takeNum s).2 < 0 ∨ most < (takeNum s).2 then spoil9 (takeNum s).1 else (takeNum s).1) []
def rawRes (row : St9 → St9 × List Int) (notes : St9 → St9 × List Nt9) (s : St9) : St9 × Rs9 :=
  let a := takeNum s; let b := takeNum a.1; let c := takePrims 1000 b.1; let d := row c.1; let e := takeTexts 1000 60 d.1; let f := notes e.1
  (f.1, a.2, b.2, c.2, d.2, e.2, f.2)
theorem takeRep_G : ∀ (k : Nat) (s : St9) (out : List Int), takeRep k s out = repG takeNum k s out
  | 0, _, _ => rfl
  | k + 1, s, out => takeRep_G k _ _
theorem rowP_G (m : Int) (s : St9) : takeRowP m s = manyP9 takeNum m s := takeRep_G _ _ _
theorem rowR_G (m : Int) (s : St9) : takeRowR m s = manyR9 takeNum m s := rfl
section
variable {α : Type} {take : St9 → St9 × α} {put : α → List UInt8} {ok : α → Prop}
theorem repG_back (h : ∀ s s' x, take s = (s', x) → s'.2 = false → s.2 = false ∧ s.1 = put x ++ s'.1 ∧ ok x) : ∀ (k : Nat) (s s' : St9) (out out' : List α), repG take k s out = (s', out') → s'.2 = false → s.2 = false ∧ ∃ l, out' = out ++ l ∧ l.length = k ∧ s.1 = (l.map put).flatten ++ s'.1 ∧ ∀ x ∈ l, ok x
  | 0, s, s', out, out', e, hb => by
    cases e
    exact ⟨hb, [], by simp, rfl, by simp, fun _ h => by cases h⟩
  | k + 1, s, s', out, out', e, hb => by
    rw [repG] at e
    obtain ⟨h1, l, rfl, h2, h3, h4⟩ := repG_back h k _ _ _ _ e hb
    obtain ⟨g1, g2, g3⟩ := h s (take s).1 (take s).2 rfl h1
    refine ⟨g1, (take s).2 :: l, by simp, by simp [h2], by rw [g2, h3]; simp, fun x hx => ?_⟩
    rcases List.mem_cons.1 hx with rfl | hx
    · exact g3
    · exact h4 x hx
theorem repG_many (h : ∀ s, (take s).1.2 = false → s.2 = false) : ∀ (k : Nat) (s : St9) (out : List α), (takeMany take k s out).1.2 = false → repG take k s out = takeMany take k s out
  | 0, _, _, _ => rfl
  | k + 1, s, out, hb => by
    have hs : s.2 = false := by
      cases e : s.2 with
      | false => rfl
      | true => rw [takeMany_bad _ _ _ _ e] at hb; rw [e] at hb; cases hb
    unfold takeMany repG at *
    rw [hs, if_neg (by decide)] at *
    exact repG_many h k _ _ hb
theorem many9_same (h : ∀ s, (take s).1.2 = false → s.2 = false) {m : Int} {s : St9} (hb : (manyR9 take m s).1.2 = false) : manyP9 take m s = manyR9 take m s := by
  unfold manyR9 at *
  by_cases hn : (takeNum s).2 < 0 ∨ m < (takeNum s).2
  · rw [if_pos hn, takeMany_bad _ _ _ _ rfl] at hb
    cases hb
  · rw [if_neg hn] at *
    unfold manyP9
    rw [show (min (max (takeNum s).2 0) m).toNat = (takeNum s).2.toNat by omega]
    exact repG_many h _ _ _ hb
theorem manyP_back (h : ∀ s s' x, take s = (s', x) → s'.2 = false → s.2 = false ∧ s.1 = put x ++ s'.1 ∧ ok x) {m : Int} {s s' : St9} {l : List α} (hm : 0 ≤ m) (e : manyP9 take m s = (s', l)) (hb : s'.2 = false) : s.2 = false ∧ (l.length : Int) ≤ m ∧ ∀ x ∈ l, ok x := by
  unfold manyP9 at e
  obtain ⟨h1, l', hl, h2, h3, h4⟩ := repG_back h _ _ _ _ _ e hb
  rw [List.nil_append] at hl
  subst hl
  exact ⟨sticky_num h1, by omega, h4⟩
theorem manyR_back (h : ∀ s s' x, take s = (s', x) → s'.2 = false → s.2 = false ∧ s.1 = put x ++ s'.1 ∧ ok x) {m : Int} {s s' : St9} {l : List α} (e : manyR9 take m s = (s', l)) (hb : s'.2 = false) : s.2 = false ∧ s.1 = manyB put l ++ s'.1 ∧ (l.length : Int) ≤ m ∧ ∀ x ∈ l, ok x := by
  unfold manyR9 at e
  by_cases hn : (takeNum s).2 < 0 ∨ m < (takeNum s).2
  · rw [if_pos hn, takeMany_bad _ _ _ _ rfl] at e
    cases e; cases hb
  · rw [if_neg hn] at e
    have h1 : (takeNum s).1.2 = false := by
      cases hb' : (takeNum s).1.2 with
      | false => rfl
      | true =>
        rw [takeMany_bad _ _ _ _ hb'] at e
        cases e
        rw [hb'] at hb; cases hb
    obtain ⟨l', hl', hlen, h2, h3⟩ := takeMany_back h _ _ _ _ _ e hb
    have h0 := takeNum_back (s := s) (s' := (takeNum s).1) (n := (takeNum s).2) rfl h1
    rw [List.nil_append] at hl'
    subst hl'
    refine ⟨h0.1, ?_, by omega, h3⟩
    unfold manyB
    rw [h0.2.1, h2, List.append_assoc, hlen]
    congr 2
    omega
theorem manyR_enc (h : ∀ x r, ok x → take (put x ++ r, false) = ((r, false), x)) {l : List α} {m : Int} (hm : (l.length : Int) ≤ m) (hf : (l.length : Int) ≤ far9) (hl : ∀ x ∈ l, ok x) (r : List UInt8) : manyR9 take m (manyB put l ++ r, false) = ((r, false), l) := by
  unfold manyR9 manyB
  rw [List.append_assoc, takeNum_enc ⟨by unfold far9; omega, hf⟩]
  dsimp only
  rw [if_neg (by omega), show ((l.length : Nat) : Int).toNat = l.length by omega, takeMany_enc h l r [] hl]
  rfl
end
def OkN (n : Nt9) : Prop := (-far9 ≤ n.1 ∧ n.1 ≤ far9) ∧ n.2.1.length ≤ 1000 ∧ ∀ s ∈ n.2.1, s.size ≤ 60
theorem back_text' (m : Nat) : ∀ s s' x, takeText m s = (s', x) → s'.2 = false → s.2 = false ∧ s.1 = textB x ++ s'.1 ∧ x.size ≤ m := fun _ _ _ e hb => ⟨(takeText_back e hb).1, (takeText_back e hb).2.1, by have := (takeText_back e hb).2.2; omega⟩
theorem back_prim' : ∀ s s' x, takePrim s = (s', x) → s'.2 = false → s.2 = false ∧ s.1 = primB x ++ s'.1 ∧ rightP x = true := fun _ _ _ e hb => takePrim_back e hb
theorem back_note : ∀ s s' x, takeNote s = (s', x) → s'.2 = false → s.2 = false ∧ s.1 = noteB x ++ s'.1 ∧ OkN x := by
  intro s s' x e hb
  unfold takeNote at e
  dsimp only at e
  obtain ⟨⟨s1, v⟩, e1⟩ : ∃ x, takeNum s = x := ⟨_, rfl⟩
  rw [e1] at e
  dsimp only at e
  obtain ⟨⟨s2, b⟩, e2⟩ : ∃ x, takeFlag s1 = x := ⟨_, rfl⟩
  rw [e2] at e
  dsimp only at e
  obtain ⟨⟨s3, l⟩, e3⟩ : ∃ x, takeTexts 1000 60 s2 = x := ⟨_, rfl⟩
  rw [e3] at e
  dsimp only at e
  cases e
  obtain ⟨h2, a3, h3, h4⟩ := takeSome_back (back_text' 60) e3 hb
  obtain ⟨h1, a2⟩ := takeFlag_back e2 h2
  obtain ⟨h0, a1, hv⟩ := takeNum_back e1 h1
  refine ⟨h0, ?_, hv, by dsimp only; omega, h4⟩
  rw [a1, a2, a3]
  unfold noteB textsB
  simp only [List.append_assoc]
theorem sticky_note (s : St9) (h : (takeNote s).1.2 = false) : s.2 = false := (back_note s (takeNote s).1 (takeNote s).2 rfl h).1
theorem takeFlag_enc' (b : Bool) (r : List UInt8) : takeFlag (flagB b ++ r, false) = ((r, false), b) := by
  have h1 : clamp9 (if b then 1 else 0) = if b then 1 else 0 := by cases b <;> rfl
  have e : flagB b ++ r = itoa (if b then 1 else 0) ++ 59 :: r := by unfold flagB numB; rw [h1]; simp
  unfold takeFlag num9
  rw [e]
  dsimp only
  rw [if_neg (by decide), number_enc (.inr rfl) (itoa_len (by cases b <;> decide))]
  dsimp only
  rw [if_pos (by cases b <;> decide), show (itoa (if b then 1 else 0)).length + 1 = (itoa (if b then 1 else 0) ++ [59]).length by simp, show itoa (if b then 1 else 0) ++ 59 :: r = (itoa (if b then 1 else 0) ++ [59]) ++ r by simp, List.drop_left]
  cases b <;> rfl
theorem note_enc {n : Nt9} (h : OkN n) (r : List UInt8) : takeNote (noteB n ++ r, false) = ((r, false), n) := by
  have h2 := h.2.1
  unfold takeNote noteB
  rw [List.append_assoc, List.append_assoc, takeNum_enc h.1]
  dsimp only
  rw [takeFlag_enc']
  dsimp only
  unfold takeTexts
  rw [show textsB n.2.1 = manyB textB n.2.1 from rfl, takeSome_enc (ok := fun s => s.size ≤ 60) (fun s r hs => takeText_enc (by omega) (by unfold far9; omega) r) (by omega) (by unfold far9; omega) h.2.2]
/-- What a response that was read stays within. -/
structure LimS (s : Rs9) : Prop where
  code : -far9 ≤ s.1 ∧ s.1 ≤ far9
  version : -far9 ≤ s.2.1 ∧ s.2.1 ≤ far9
  prims : s.2.2.1.length ≤ 1000 ∧ ∀ p ∈ s.2.2.1, rightP p = true
  ids : s.2.2.2.1.length ≤ 1000 ∧ ∀ n ∈ s.2.2.2.1, -far9 ≤ n ∧ n ≤ far9
  lines : s.2.2.2.2.1.length ≤ 1000 ∧ ∀ x ∈ s.2.2.2.2.1, x.size ≤ 60
  notes : s.2.2.2.2.2.length ≤ 1000 ∧ ∀ n ∈ s.2.2.2.2.2, OkN n
theorem res_enc {s : Rs9} (h : LimS s) (hf : ∀ p ∈ s.2.2.1, FitP p) (r : List UInt8) : rawRes (takeRowR 1000) (manyR9 takeNote 1000) (resB s ++ r, false) = ((r, false), s) := by
  have e : resB s ++ r = numB s.1 ++ (numB s.2.1 ++ (primsB s.2.2.1 ++ (rowB s.2.2.2.1 ++ (textsB s.2.2.2.2.1 ++ (manyB noteB s.2.2.2.2.2 ++ r))))) := by
    unfold resB; simp only [List.append_assoc]
  have h3 := h.prims
  have h4 := h.ids
  have h5 := h.lines
  have h6 := h.notes
  unfold rawRes
  rw [e, takeNum_enc h.code]
  dsimp only
  rw [takeNum_enc h.version]
  dsimp only
  unfold takePrims
  rw [show primsB s.2.2.1 = manyB primB s.2.2.1 from rfl, takeSome_enc (ok := fun p => rightP p = true ∧ FitP p) (fun p r hp => takePrim_enc hp.1 hp.2 r) (by omega) (by unfold far9; omega) fun p hp => ⟨h3.2 p hp, hf p hp⟩]
  dsimp only
  rw [rowR_enc (by omega) (by unfold far9; omega) h4.2]
  dsimp only
  unfold takeTexts
  rw [show textsB s.2.2.2.2.1 = manyB textB s.2.2.2.2.1 from rfl, takeSome_enc (ok := fun s => s.size ≤ 60) (fun s r hs => takeText_enc (by omega) (by unfold far9; omega) r) (by omega) (by unfold far9; omega) h5.2]
  dsimp only
  rw [manyR_enc (fun x r hx => note_enc hx r) (by omega) (by unfold far9; omega) h6.2]
theorem resP_lim {s s' : St9} {x : Rs9} (e : rawRes (takeRowP 1000) (manyP9 takeNote 1000) s = (s', x)) (h : s'.2 = false) : LimS x := by
  unfold rawRes at e
  dsimp only at e
  obtain ⟨⟨s1, k⟩, e1⟩ : ∃ x, takeNum s = x := ⟨_, rfl⟩
  rw [e1] at e
  dsimp only at e
  obtain ⟨⟨s2, b⟩, e2⟩ : ∃ x, takeNum s1 = x := ⟨_, rfl⟩
  rw [e2] at e
  dsimp only at e
  obtain ⟨⟨s3, l⟩, e3⟩ : ∃ x, takePrims 1000 s2 = x := ⟨_, rfl⟩
  rw [e3] at e
  dsimp only at e
  obtain ⟨⟨s4, d⟩, e4⟩ : ∃ x, takeRowP 1000 s3 = x := ⟨_, rfl⟩
  rw [e4] at e
  dsimp only at e
  obtain ⟨⟨s5, t⟩, e5⟩ : ∃ x, takeTexts 1000 60 s4 = x := ⟨_, rfl⟩
  rw [e5] at e
  dsimp only at e
  obtain ⟨⟨s6, n⟩, e6⟩ : ∃ x, manyP9 takeNote 1000 s5 = x := ⟨_, rfl⟩
  rw [e6] at e
  dsimp only at e
  cases e
  obtain ⟨h5, g6, k6⟩ := manyP_back back_note (by decide) e6 h
  obtain ⟨h4, -, g5, k5⟩ := takeSome_back (back_text' 60) e5 h5
  rw [rowP_G] at e4
  obtain ⟨h3, g4, k4⟩ := manyP_back (put := numB) back_num (by decide) e4 h4
  obtain ⟨h2, -, g3, k3⟩ := takeSome_back back_prim' e3 h3
  obtain ⟨h1, -, g2⟩ := takeNum_back e2 h2
  obtain ⟨h0, -, g1⟩ := takeNum_back e1 h1
  exact ⟨g1, g2, ⟨by dsimp only; omega, k3⟩, ⟨by dsimp only; omega, k4⟩, ⟨by dsimp only; omega, k5⟩, by dsimp only; omega, k6⟩
theorem resR_back {s s' : St9} {x : Rs9} (e : rawRes (takeRowR 1000) (manyR9 takeNote 1000) s = (s', x)) (h : s'.2 = false) : s.2 = false ∧ s.1 = resB x ++ s'.1 ∧ rawRes (takeRowP 1000) (manyP9 takeNote 1000) s = (s', x) := by
  unfold rawRes at e ⊢
  dsimp only at e ⊢
  obtain ⟨⟨s1, k⟩, e1⟩ : ∃ x, takeNum s = x := ⟨_, rfl⟩
  rw [e1] at e ⊢
  dsimp only at e ⊢
  obtain ⟨⟨s2, b⟩, e2⟩ : ∃ x, takeNum s1 = x := ⟨_, rfl⟩
  rw [e2] at e ⊢
  dsimp only at e ⊢
  obtain ⟨⟨s3, l⟩, e3⟩ : ∃ x, takePrims 1000 s2 = x := ⟨_, rfl⟩
  rw [e3] at e ⊢
  dsimp only at e ⊢
  obtain ⟨⟨s4, d⟩, e4⟩ : ∃ x, takeRowR 1000 s3 = x := ⟨_, rfl⟩
  rw [e4] at e
  dsimp only at e
  obtain ⟨⟨s5, t⟩, e5⟩ : ∃ x, takeTexts 1000 60 s4 = x := ⟨_, rfl⟩
  rw [e5] at e
  dsimp only at e
  obtain ⟨⟨s6, n⟩, e6⟩ : ∃ x, manyR9 takeNote 1000 s5 = x := ⟨_, rfl⟩
  rw [e6] at e
  dsimp only at e
  cases e
  obtain ⟨h5, a6, -⟩ := manyR_back back_note e6 h
  obtain ⟨h4, a5, -⟩ := takeSome_back (ok := fun _ => True) (back_text 60) e5 h5
  obtain ⟨h3, a4, -⟩ := rowR_back e4 h4
  obtain ⟨h2, a3, -⟩ := takeSome_back (ok := fun _ => True) back_prim e3 h3
  obtain ⟨h1, a2, -⟩ := takeNum_back e2 h2
  obtain ⟨h0, a1, -⟩ := takeNum_back e1 h1
  refine ⟨h0, ?_, ?_⟩
  · rw [a1, a2, a3, a4, a5, a6]
    unfold resB primsB textsB
    simp only [List.append_assoc]
  · rw [row_same (by rw [e4]; exact h4), e4]
    dsimp only
    rw [e5]
    dsimp only
    rw [many9_same (take := takeNote) (m := 1000) (s := s5) sticky_note (by rw [e6]; exact h), e6]
/-- A response of bytes, as the program finds it, and as the document does. -/
def resP (b : List UInt8) : Option Rs9 :=
  if (rawRes (takeRowP 1000) (manyP9 takeNote 1000) (b, false)).1 = ([], false) ∧ resB (rawRes (takeRowP 1000) (manyP9 takeNote 1000) (b, false)).2 = b then some (rawRes (takeRowP 1000) (manyP9 takeNote 1000) (b, false)).2 else none
def resR (b : List UInt8) : Option Rs9 :=
  if (rawRes (takeRowR 1000) (manyR9 takeNote 1000) (b, false)).1 = ([], false) then some (rawRes (takeRowR 1000) (manyR9 takeNote 1000) (b, false)).2 else none
theorem fit_res {s : Rs9} {b : List UInt8} (h : resB s = b) (hb : b.length ≤ big9) : ∀ p ∈ s.2.2.1, FitP p := by
  have h2 : (primsB s.2.2.1).length ≤ big9 := by
    have := congrArg List.length h
    unfold resB at this
    simp only [List.length_append] at this
    omega
  exact fit_of_len (r := []) (List.append_nil _).symm h2
theorem res_same {b : List UInt8} (hb : b.length ≤ big9) : resP b = resR b := by
  unfold resP resR
  by_cases h : (rawRes (takeRowR 1000) (manyR9 takeNote 1000) (b, false)).1 = ([], false)
  · rw [if_pos h]
    obtain ⟨-, h3, h4⟩ := resR_back (s := (b, false)) (s' := (rawRes (takeRowR 1000) (manyR9 takeNote 1000) (b, false)).1) (x := (rawRes (takeRowR 1000) (manyR9 takeNote 1000) (b, false)).2) rfl (by rw [h])
    rw [h4, if_pos ⟨h, by rw [h] at h3; simpa using h3.symm⟩]
  · rw [if_neg h, if_neg]
    rintro ⟨h1, h2⟩
    refine h ?_
    have hlim := resP_lim (s := (b, false)) (s' := (rawRes (takeRowP 1000) (manyP9 takeNote 1000) (b, false)).1) (x := (rawRes (takeRowP 1000) (manyP9 takeNote 1000) (b, false)).2) rfl (by rw [h1])
    have h4 := res_enc hlim (fit_res h2 hb) []
    rw [List.append_nil, h2] at h4
    rw [h4]
end Go.Proofs.YtlfehnnmpkohkaaGreatDoor
/- Chapter 16: what is read of a response's bytes is the response, or nothing. -/
namespace Go.Proofs.YtlfehnnmpkohkaaGreatDoor
open Go Go.Lib
theorem bad_num' {s : St9} (h : s.2 = true) : takeNum s = (s, 0) := by
  unfold takeNum num9
  rw [if_pos h]
  exact Prod.ext (Prod.ext rfl h.symm) rfl
theorem bad_text' {s : St9} (m : Int) (h : s.2 = true) : takeText m s = (s, ⟨#[]⟩) := by
  unfold takeText num9
  rw [if_pos h]
  exact Prod.ext (Prod.ext rfl h.symm) rfl
theorem bad_some' {α : Type} {take : St9 → St9 × α} {s : St9} (m : Int) (h : s.2 = true) : (takeSome take m s).1.2 = true := by
  unfold takeSome
  rw [bad_num' h, if_pos (.inl h)]; rfl
theorem bad_manyR {α : Type} {take : St9 → St9 × α} {s : St9} (m : Int) (h : s.2 = true) : (manyR9 take m s).1.2 = true := by
  unfold manyR9
  rw [bad_num' h]
  have : (if (0 : Int) < 0 ∨ m < 0 then spoil9 s else s).2 = true := by split <;> first | rfl | exact h
  rw [takeMany_bad _ _ _ _ this]; exact this
/-- What is read is what was written, or all is spoiled. -/
def ExB {α : Type} (take : St9 → St9 × α) (put : α → List UInt8) (x : α) : Prop := ∀ r, take (put x ++ r, false) = ((r, false), x) ∨ (take (put x ++ r, false)).1.2 = true
theorem exb_text {t : ByteArray} (m : Int) (hf : (t.size : Int) ≤ far9) : ExB (takeText m) textB t := fun r => by
  by_cases hm : (t.size : Int) ≤ m
  · exact .inl (takeText_enc hm hf r)
  · right
    unfold takeText num9
    rw [textB_eq]
    dsimp only
    rw [if_neg (by decide), number_enc (.inl rfl) (itoa_len ⟨by unfold far9; omega, hf⟩)]
    dsimp only
    rw [if_neg (by omega)]; rfl
theorem exb_many {α : Type} {take : St9 → St9 × α} {put : α → List UInt8} : ∀ (l : List α) (r : List UInt8) (out : List α), (∀ x ∈ l, ExB take put x) → takeMany take l.length ((l.map put).flatten ++ r, false) out = ((r, false), out ++ l) ∨ (takeMany take l.length ((l.map put).flatten ++ r, false) out).1.2 = true
  | [], r, out, _ => by left; simp [takeMany]
  | x :: l, r, out, h => by
    rw [List.length_cons, takeMany, if_neg (by simp), List.map_cons, List.flatten_cons, List.append_assoc]
    rcases h x (by simp) ((l.map put).flatten ++ r) with e | e
    · rw [e]
      dsimp only
      have := exb_many l r (out ++ [x]) fun y hy => h y (by simp [hy])
      rwa [List.append_assoc, List.singleton_append] at this
    · right
      rw [takeMany_bad _ _ _ _ e]; exact e
theorem exb_some {α : Type} {take : St9 → St9 × α} {put : α → List UInt8} {l : List α} (m : Int) (h : ∀ x ∈ l, ExB take put x) (hf : (l.length : Int) ≤ far9) : ExB (takeSome take m) (manyB put) l := fun r => by
  unfold takeSome manyB
  rw [List.append_assoc, takeNum_enc ⟨by unfold far9; omega, hf⟩]
  dsimp only
  by_cases hm : (l.length : Int) ≤ m
  · rw [if_neg (by simp; omega), show ((l.length : Nat) : Int).toNat = l.length by omega]
    rcases exb_many l r [] h with e | e
    · rw [e, if_neg (by simp)]; exact .inl rfl
    · rw [if_pos e]; exact .inr rfl
  · right
    rw [if_pos (by simp; omega)]; rfl
theorem exb_manyR {α : Type} {take : St9 → St9 × α} {put : α → List UInt8} {l : List α} (m : Int) (h : ∀ x ∈ l, ExB take put x) (hf : (l.length : Int) ≤ far9) : ExB (manyR9 take m) (manyB put) l := fun r => by
  unfold manyR9 manyB
  rw [List.append_assoc, takeNum_enc ⟨by unfold far9; omega, hf⟩]
  dsimp only
  by_cases hm : (l.length : Int) ≤ m
  · rw [if_neg (by omega), show ((l.length : Nat) : Int).toNat = l.length by omega]
    rcases exb_many l r [] h with e | e
    · rw [e]; exact .inl rfl
    · exact .inr e
  · right
    rw [if_pos (by omega), takeMany_bad _ _ _ _ rfl]; rfl
theorem numB_clamp (n : Int) : numB n = numB (clamp9 n) := by
  unfold numB; rw [clamp_id (clamp_far n)]
theorem num_clamp (n : Int) (r : List UInt8) : takeNum (numB n ++ r, false) = ((r, false), clamp9 n) := by
  rw [numB_clamp]; exact takeNum_enc (clamp_far n) r
/-- Sizes at which texts and rows are written as they are. -/
def ShortP (p : Pr9) : Prop := ((p.2.1.size : Int) ≤ far9 ∧ (p.2.2.1.size : Int) ≤ far9) ∧ FitP p ∧ (∀ x ∈ p.2.2.2.2.1, (x.size : Int) ≤ far9) ∧ ∀ x ∈ p.2.2.2.2.2, (x.size : Int) ≤ far9
theorem raw_exb {p : Pr9} (h : ShortP p) (r : List UInt8) : rawPrim (primB p ++ r, false) = ((r, false), (clamp9 p.1, p.2.1, p.2.2.1, clamp9 p.2.2.2.1, p.2.2.2.2.1, p.2.2.2.2.2)) ∨ (rawPrim (primB p ++ r, false)).1.2 = true := by
  have e : primB p ++ r = numB p.1 ++ (textB p.2.1 ++ (textB p.2.2.1 ++ (numB p.2.2.2.1 ++ (textsB p.2.2.2.2.1 ++ (textsB p.2.2.2.2.2 ++ r))))) := by
    unfold primB; simp only [List.append_assoc]
  rw [e]
  have ht : ∀ l : List ByteArray, (∀ x ∈ l, (x.size : Int) ≤ far9) → (l.length : Int) ≤ far9 → ∀ (m : Int), ExB (takeTexts m 60) textsB l := fun l h1 h2 m => exb_some m (fun x hx => exb_text 60 (h1 x hx)) h2
  unfold rawPrim
  rw [num_clamp]
  dsimp only
  rcases exb_text 24 h.1.1 (textB p.2.2.1 ++ (numB p.2.2.2.1 ++ (textsB p.2.2.2.2.1 ++ (textsB p.2.2.2.2.2 ++ r)))) with e1 | e1
  · rw [e1]
    dsimp only
    rcases exb_text 24 h.1.2 (numB p.2.2.2.1 ++ (textsB p.2.2.2.2.1 ++ (textsB p.2.2.2.2.2 ++ r))) with e2 | e2
    · rw [e2]
      dsimp only
      rw [num_clamp]
      dsimp only
      rcases ht p.2.2.2.2.1 h.2.2.1 h.2.1.1 ((textsB p.2.2.2.2.1 ++ (textsB p.2.2.2.2.2 ++ r)).length) (textsB p.2.2.2.2.2 ++ r) with e3 | e3
      · rw [e3]
        dsimp only
        rcases ht p.2.2.2.2.2 h.2.2.2 h.2.1.2 ((textsB p.2.2.2.2.2 ++ r).length) r with e4 | e4
        · rw [e4]; exact .inl rfl
        · exact .inr e4
      · exact .inr (bad_some' _ e3)
    · right
      rw [bad_num' e2]
      dsimp only
      exact bad_some' _ (bad_some' _ e2)
  · right
    rw [bad_text' _ e1]
    dsimp only
    rw [bad_num' e1]
    dsimp only
    exact bad_some' _ (bad_some' _ e1)
theorem right_clamp {p : Pr9} (h : rightP (clamp9 p.1, p.2.1, p.2.2.1, clamp9 p.2.2.2.1, p.2.2.2.2.1, p.2.2.2.2.2) = true) : (clamp9 p.1, p.2.1, p.2.2.1, clamp9 p.2.2.2.1, p.2.2.2.2.1, p.2.2.2.2.2) = p := by
  have hs : (0 ≤ clamp9 p.1 ∧ clamp9 p.1 ≤ 3) ∧ 0 ≤ clamp9 p.2.2.2.1 ∧ clamp9 p.2.2.2.1 ≤ 1048576 := by
    unfold rightP bareP at h
    dsimp only at h
    rw [Bool.and_eq_true] at h
    obtain ⟨-, h⟩ := h
    split at h
    · simp only [Bool.and_eq_true, decide_eq_true_eq] at h
      omega
    · split at h
      · simp only [Bool.and_eq_true, decide_eq_true_eq] at h
        omega
      · simp only [Bool.and_eq_true, Bool.or_eq_true, decide_eq_true_eq] at h
        omega
  have e1 : clamp9 p.1 = p.1 := by unfold clamp9 far9 at *; omega
  have e2 : clamp9 p.2.2.2.1 = p.2.2.2.1 := by unfold clamp9 far9 at *; omega
  rw [e1, e2]
theorem exb_prim {p : Pr9} (h : ShortP p) : ExB takePrim primB p := fun r => by
  unfold takePrim
  rcases raw_exb h r with e | e
  · rw [e]
    dsimp only
    cases hr : rightP (clamp9 p.1, p.2.1, p.2.2.1, clamp9 p.2.2.2.1, p.2.2.2.2.1, p.2.2.2.2.2) with
    | false => rw [if_pos (.inr rfl)]; exact .inr rfl
    | true => rw [if_neg (by simp), right_clamp hr]; exact .inl rfl
  · rw [if_pos (.inl e)]; exact .inr rfl
/-- Sizes at which a note, and a response, is written as it is. -/
def ShortN (n : Nt9) : Prop := (n.2.1.length : Int) ≤ far9 ∧ ∀ x ∈ n.2.1, (x.size : Int) ≤ far9
theorem exb_note {n : Nt9} (h : ShortN n) (hv : -far9 ≤ n.1 ∧ n.1 ≤ far9) : ExB takeNote noteB n := fun r => by
  unfold takeNote noteB
  rw [List.append_assoc, List.append_assoc, takeNum_enc hv]
  dsimp only
  rw [takeFlag_enc']
  dsimp only
  rcases exb_some 1000 (fun x hx => exb_text 60 (h.2 x hx)) h.1 r with e | e
  · unfold takeTexts
    rw [show textsB n.2.1 = manyB textB n.2.1 from rfl, e]; exact .inl rfl
  · exact .inr e
structure ShortS (s : Rs9) : Prop where
  prims : (s.2.2.1.length : Int) ≤ far9 ∧ ∀ p ∈ s.2.2.1, ShortP p
  ids : (s.2.2.2.1.length : Int) ≤ far9
  lines : (s.2.2.2.2.1.length : Int) ≤ far9 ∧ ∀ x ∈ s.2.2.2.2.1, (x.size : Int) ≤ far9
  notes : (s.2.2.2.2.2.length : Int) ≤ far9 ∧ ∀ n ∈ s.2.2.2.2.2, ShortN n
/-- A number that is not written as it is. -/
def farN (n : Int) : Bool := decide (far9 < n) || decide (n < -far9)
def farS (s : Rs9) : Bool := ([s.1, s.2.1] ++ s.2.2.2.1 ++ s.2.2.2.2.2.map (·.1)).any farN
theorem near {n : Int} (h : farN n = false) : -far9 ≤ n ∧ n ≤ far9 := by
  unfold farN at h
  simp only [Bool.or_eq_false_iff, decide_eq_false_iff_not] at h
  omega
theorem res_exact {s w : Rs9} (hs : ShortS s) (hf : farS s = false) (h : resR (resB s) = some w) : w = s := by
  unfold farS at hf
  rw [List.any_append, List.any_append, Bool.or_eq_false_iff, Bool.or_eq_false_iff] at hf
  obtain ⟨⟨f1, f2⟩, f3⟩ := hf
  simp only [List.any_cons, List.any_nil, Bool.or_false, Bool.or_eq_false_iff] at f1
  have n2 : ∀ n ∈ s.2.2.2.1, -far9 ≤ n ∧ n ≤ far9 := fun n hn => near (by
    rw [List.any_eq_false] at f2
    have := f2 n hn; simpa using this)
  have n3 : ∀ n ∈ s.2.2.2.2.2, -far9 ≤ n.1 ∧ n.1 ≤ far9 := fun n hn => near (by
    rw [List.any_eq_false] at f3
    have := f3 n.1 (List.mem_map_of_mem hn); simpa using this)
  have e : resB s = numB s.1 ++ (numB s.2.1 ++ (primsB s.2.2.1 ++ (rowB s.2.2.2.1 ++ (textsB s.2.2.2.2.1 ++ (manyB noteB s.2.2.2.2.2 ++ []))))) := by
    unfold resB; simp only [List.append_assoc, List.append_nil]
  have key : (rawRes (takeRowR 1000) (manyR9 takeNote 1000) (resB s, false)) = (([], false), s) ∨ (rawRes (takeRowR 1000) (manyR9 takeNote 1000) (resB s, false)).1.2 = true := by
    rw [e]
    unfold rawRes
    rw [takeNum_enc (near f1.1)]
    dsimp only
    rw [takeNum_enc (near f1.2)]
    dsimp only
    rcases exb_some 1000 (fun p hp => exb_prim (hs.prims.2 p hp)) hs.prims.1 (rowB s.2.2.2.1 ++ (textsB s.2.2.2.2.1 ++ (manyB noteB s.2.2.2.2.2 ++ []))) with e1 | e1
    · unfold takePrims
      rw [show primsB s.2.2.1 = manyB primB s.2.2.1 from rfl, e1]
      dsimp only
      rcases exb_manyR (take := takeNum) (put := numB) 1000 (fun n hn r => .inl (takeNum_enc (n2 n hn) r)) hs.ids (textsB s.2.2.2.2.1 ++ (manyB noteB s.2.2.2.2.2 ++ [])) with e2 | e2
      · rw [rowR_G, show rowB s.2.2.2.1 = manyB numB s.2.2.2.1 from rfl, e2]
        dsimp only
        rcases exb_some 1000 (fun x hx => exb_text 60 (hs.lines.2 x hx)) hs.lines.1 (manyB noteB s.2.2.2.2.2 ++ []) with e3 | e3
        · unfold takeTexts
          rw [show textsB s.2.2.2.2.1 = manyB textB s.2.2.2.2.1 from rfl, e3]
          dsimp only
          rcases exb_manyR 1000 (fun n hn => exb_note (hs.notes.2 n hn) (n3 n hn)) hs.notes.1 [] with e4 | e4
          · rw [e4]; exact .inl rfl
          · exact .inr e4
        · exact .inr (bad_manyR _ e3)
      · exact .inr (bad_manyR _ (bad_some' _ e2))
    · exact .inr (bad_manyR _ (bad_some' _ (bad_manyR (take := takeNum) _ e1)))
  unfold resR at h
  rcases key with k | k
  · rw [k, if_pos rfl] at h
    exact (Option.some.inj h).symm
  · rw [if_neg (fun c => by rw [c] at k; cases k)] at h
    cases h
end Go.Proofs.YtlfehnnmpkohkaaGreatDoor
/- Chapter 09: things: how much they hold, as 'few' counts it. -/
namespace Go.Proofs.YtlfehnnmpkohkaaGreatDoor
open Go Go.SL Go.Lib
/-- A thing: its kind, N, S, L, P, Ps, Q. -/
abbrev It9 := Int × Int × ByteArray × List ByteArray × Pr9 × List Pr9 × Pt9
abbrev eIt : Enc It9 := ePair (eInt .i64) (ePair (eInt .i64) (ePair eStr (ePair (eSl eStr) (ePair ePr (ePair (eSl ePr) ePt)))))
def sumS (l : List ByteArray) : Nat := (l.map (·.size)).sum
def manyP (p : Pr9) : Nat := p.2.1.size + p.2.2.1.size + p.2.2.2.2.1.length + p.2.2.2.2.2.length + sumS p.2.2.2.2.1 + sumS p.2.2.2.2.2
def many3 (l : List Pr9) : Nat := l.length + (l.map manyP).sum
def many7 (q : Pt9) : Nat := 1 + q.2.1.size + q.2.2.1.length + many3 q.2.2.2
def fewI (x : It9) : Nat := x.2.2.1.size + (many3 x.2.2.2.2.2.1 + 1 + manyP x.2.2.2.2.1) + many7 x.2.2.2.2.2.2 + x.2.2.2.1.length + sumS x.2.2.2.1
def fewP (l : List It9) : Bool := decide (l.length ≤ 30) && decide ((l.map fewI).sum ≤ 8000)
/-- The slices of a thing. -/
structure ItV where
  lv : Value
  po : Value
  pw : Value
  ps : Value
  qd : Value
  ql : Value
abbrev itC (z : It9) (g : ItV) : List Value := [.int .i64 z.1, .int .i64 z.2.1, .string z.2.2.1, g.lv, .int .i64 z.2.2.2.2.1.1, .string z.2.2.2.2.1.2.1, .string z.2.2.2.2.1.2.2.1, .int .i64 z.2.2.2.2.1.2.2.2.1, g.po, g.pw, g.ps, .int .i64 z.2.2.2.2.2.2.1, .string z.2.2.2.2.2.2.2.1, g.qd, g.ql]
abbrev itL (z : It9) (g : ItV) : List A := [Sl eStr g.lv z.2.2.2.1, Sl eStr g.po z.2.2.2.2.1.2.2.2.2.1, Sl eStr g.pw z.2.2.2.2.1.2.2.2.2.2, Sl ePr g.ps z.2.2.2.2.2.1, Sl (eInt .i64) g.qd z.2.2.2.2.2.2.2.2.1, Sl ePr g.ql z.2.2.2.2.2.2.2.2.2]
theorem stars_dups {w : World} {O : Perm} : ∀ {L : List A}, (∀ a ∈ L, a.h w (fun b => min (O b) 1)) → Stars L w O
  | [], _ => trivial
  | a :: L, h => ⟨fun b => min (O b) 1, fun b => min (O b) 1, ⟨fun b => Nat.min_le_left _ _, fun b => Nat.min_le_left _ _, fun b k => absurd (Nat.le_trans k (Nat.min_le_right _ _)) (by decide), fun b k => absurd (Nat.le_trans k (Nat.min_le_right _ _)) (by decide)⟩, h a (by simp),
      stars_dups fun a ha => by
        have := h a (List.mem_cons_of_mem _ ha)
        have e : (fun b => min (min (O b) 1) 1) = fun b => min (O b) 1 := funext fun b => by omega
        rw [e]; exact this⟩
end Go.Proofs.YtlfehnnmpkohkaaGreatDoor
/- Chapter 09: few. -/
namespace Go.Proofs.YtlfehnnmpkohkaaGreatDoor
open Go Go.SL Go.Lib
theorem sum_take {α : Type} (f : α → Nat) {l : List α} {k : Nat} (hk : k < l.length) : ((l.take (k + 1)).map f).sum = ((l.take k).map f).sum + f l[k] := by
  rw [List.take_succ_eq_append_getElem hk, List.map_append, List.sum_append]; simp
theorem sum_le {α : Type} (f : α → Nat) (l : List α) (k : Nat) : ((l.take k).map f).sum ≤ (l.map f).sum := by
  have h : (l.map f).sum = ((l.take k).map f).sum + ((l.drop k).map f).sum := by rw [← List.sum_append, ← List.map_append, List.take_append_drop]
  omega
theorem sum_mem {α : Type} (f : α → Nat) {l : List α} {k : Nat} (hk : k < l.length) : ((l.take k).map f).sum + f l[k] ≤ (l.map f).sum := by
  rw [← sum_take f hk]; exact sum_le f l (k + 1)
attribute [local irreducible] Cfg Kont StepK Val Con Qops Any Sl Own Blk BlkR Rd Pu ExA AllA Has Pick Ent Elem Beside Callable TI Lone OwnO AndA
set_option maxRecDepth 100000 in
theorem many3_con (v : Value) (l : List Pr9) (hl : many3 l ≤ 1000000000000) : Con Tryz.prog 38 [v] [Sl ePr v l] (γ := Unit) (fun _ => .int .i64 (many3 l)) (fun _ => True) (fun _ => []) := by
  have hm : many3 l = l.length + (l.map manyP).sum := rfl
  refine con_of Tryz.func38 rfl (dd rfl) fun w0 O0 => ?_
  refine c_seq (c_region ?_)
  refine oV vA ?_
  refine o_nil (c_seq (c_region ?_))
  refine oV vM ?_
  refine oV ((by first | exact v_len_form Tryz.underlying24 rfl | exact v_len_sl Tryz.underlying24 rfl (hX (by repeat constructor)))) ?_
  refine oV vA ?_
  refine o_nil (c_seq (c_seq (c_region ?_)))
  refine oV vM ?_
  refine oV ((by first | exact v_len_form Tryz.underlying24 rfl | exact v_len_sl Tryz.underlying24 rfl (hX (by repeat constructor)))) ?_
  refine oV vM ?_
  refine o_nil (c_block ?_)
  refine c_loopR (γ := Nat) [(2, _), (12, _), (13, _)] (fun k => l.length - k) (fun k => k ≤ l.length) (fun k => [(14, .int .i64 k), (3, .int .i64 ((l.length + ((l.take k).map manyP).sum : Nat) : Int))]) (fun _ => [Sl ePr v l]) (0) (Nat.zero_le _) (by repeat (first | exact trivial | refine ⟨rfl, ?_⟩)) (eX (by repeat constructor)) ?_
  rintro k hk IH
  try dsimp only [List.cons_append, List.nil_append]
  refine c_seq (c_region ?_)
  refine oV (v_lt rfl rfl) ?_
  refine o_nil (c_seq ?_)
  refine c_cond_p rfl (fun hlt => ?_) (fun hlt => ?_)
  · have hk' : k < l.length := by omega
    have hsm := sum_mem manyP hk'
    have hst := sum_take manyP hk'
    have hmp : manyP l[k] = l[k].2.1.size + l[k].2.2.1.size + l[k].2.2.2.2.1.length + l[k].2.2.2.2.2.length + sumS l[k].2.2.2.2.1 + sumS l[k].2.2.2.2.2 := rfl
    obtain ⟨base, hbase⟩ : ∃ base, base = l.length + ((l.take k).map manyP).sum := ⟨_, rfl⟩
    rw [← hbase]
    refine c_skip (c_seq (c_block (c_seq (c_region ?_))))
    refine oV ((by first | exact v_indexAddrN Tryz.underlying24 ti129 rfl rfl (hX (by repeat constructor)) (by omega) | exact v_indexAddr Tryz.underlying24 ti129 rfl rfl (hX (by repeat constructor)) (by omega))) ?_
    refine o_step (s_load_shape ⟨_, Tryz.underlying129⟩ ti129 rfl (dd rfl) (by repeat (first|exact el1 (by omega)|exact el2 (by omega)|exact el3 (by omega)|apply Elem.there)) (pr_open) (fun g => ?_))
    refine o_step (s_alloc ti129 (dd rfl) (fun b5 => ?_))
    refine o_step (s_store_all ti129 rfl rfl (by first | exact CellsV.lit rfl | exact CellsV.one (by first | exact OneC.lit rfl | exact OneC.sl (hX (by repeat constructor)) )) (by repeat (first | exact OneAll.nil | (refine OneAll.cons ?_ ?_; · first | exact OneC.lit rfl | exact OneC.sl (hX (by repeat constructor)) ) | exact OneAll.rd (hX (by repeat constructor)))) rfl (pB (by repeat constructor)) rfl (?_))
    refine o_nil (c_seq (c_region ?_))
    refine oV vM ?_
    refine oV (vF 1 Tryz.underlying129 ti9) ?_
    refine oV (vL lone9) ?_
    refine oV (v_len_str Tryz.underlying9 rfl) ?_
    refine oV (vF 2 Tryz.underlying129 ti9) ?_
    refine oV (vL lone9) ?_
    refine oV (v_len_str Tryz.underlying9 rfl) ?_
    refine oV ((by first | exact v_add64 rfl rfl (by omega) | exact v_add rfl rfl)) ?_
    refine oV (vF 4 Tryz.underlying129 ti23) ?_
    refine oV (vL lone23) ?_
    refine oV ((by first | exact v_len_form Tryz.underlying23 rfl | exact v_len_sl Tryz.underlying23 rfl (hX (by repeat constructor)))) ?_
    refine oV ((by first | exact v_add64 rfl rfl (by omega) | exact v_add rfl rfl)) ?_
    refine oV (vF 5 Tryz.underlying129 ti23) ?_
    refine oV (vL lone23) ?_
    refine oV ((by first | exact v_len_form Tryz.underlying23 rfl | exact v_len_sl Tryz.underlying23 rfl (hX (by repeat constructor)))) ?_
    refine oV ((by first | exact v_add64 rfl rfl (by omega) | exact v_add rfl rfl)) ?_
    refine oV ((by first | exact v_add64 rfl rfl (by omega) | exact v_add rfl rfl)) ?_
    refine oV vA ?_
    refine o_nil (c_seq (c_seq (c_region ?_)))
    refine oV (vF 4 Tryz.underlying129 ti23) ?_
    refine oV (vL lone23) ?_
    refine oV ((by first | exact v_len_form Tryz.underlying23 rfl | exact v_len_sl Tryz.underlying23 rfl (hX (by repeat constructor)))) ?_
    refine oV vM ?_
    refine o_nil (c_block ?_)
    have h0 : ∀ l : List ByteArray, ((sumS (l.take 0) : Nat) : Int) = 0 := fun l => by simp [sumS]
    obtain ⟨acc, hacc⟩ : ∃ acc : Int, acc = (base : Int) + ((l[k].2.1.size : Int) + l[k].2.2.1.size + l[k].2.2.2.2.1.length + l[k].2.2.2.2.2.length) := ⟨_, rfl⟩
    have hac0 : (base : Int) + ((l[k].2.1.size : Int) + l[k].2.2.1.size + l[k].2.2.2.2.1.length + l[k].2.2.2.2.2.length) = acc + ((sumS (l[k].2.2.2.2.1.take 0) : Nat) : Int) := by rw [h0, hacc]; omega
    rw [hac0]
    refine c_loopR (γ := Nat) [(2, _), (5, _), (12, _), (13, _), (14, _), (15, _), (16, _), (17, _), (18, _), (19, _), (20, _), (21, _), (22, _), (23, _), (24, _), (25, _), (26, _), (27, _), (28, _), (29, _), (30, _), (31, _), (32, _), (33, _), (34, _), (35, _), (36, _), (37, _)] (fun j => l[k].2.2.2.2.1.length - j) (fun j => j ≤ l[k].2.2.2.2.1.length) (fun j => [(38, .int .i64 j), (3, .int .i64 (acc + ((sumS (l[k].2.2.2.2.1.take j) : Nat) : Int)))]) (fun _ => [Blk b5 129 [.int .i64 l[k].1, .string l[k].2.1, .string l[k].2.2.1, .int .i64 l[k].2.2.2.1, g.1, g.2], Sl eStr g.1 l[k].2.2.2.2.1, Sl eStr g.2 l[k].2.2.2.2.2, Sl ePr v l]) (0) (Nat.zero_le _) (by repeat (first | exact trivial | refine ⟨rfl, ?_⟩)) (eX (by repeat constructor)) ?_
    rintro j hj IH2
    have hsj := sum_le (fun s : ByteArray => s.size) l[k].2.2.2.2.1 j
    try dsimp only [List.cons_append, List.nil_append]
    refine c_seq (c_region ?_)
    refine oV (v_lt rfl rfl) ?_
    refine o_nil (c_seq ?_)
    refine c_cond_p rfl (fun hj2 => ?_) (fun hj2 => ?_)
    · have hjl : j < l[k].2.2.2.2.1.length := by omega
      have hsn : sumS (l[k].2.2.2.2.1.take (j + 1)) = sumS (l[k].2.2.2.2.1.take j) + l[k].2.2.2.2.1[j].size := sum_take (fun s : ByteArray => s.size) hjl
      have hsj2 := sum_le (fun s : ByteArray => s.size) l[k].2.2.2.2.1 (j + 1)
      unfold sumS at *
      refine c_skip (c_seq (c_block (c_seq (c_region ?_))))
      refine oV ((by first | exact v_indexAddrN Tryz.underlying23 ti9 rfl rfl (hX (by repeat constructor)) (by omega) | exact v_indexAddr Tryz.underlying23 ti9 rfl rfl (hX (by repeat constructor)) (by omega))) ?_
      refine oV (v_load_str lone9 rfl (by repeat (first | exact Elem.sl (List.getElem?_eq_getElem (by omega)) | exact Elem.own (List.getElem?_eq_getElem (by omega)) | exact Elem.ownO (List.getElem?_eq_getElem (by omega)) | apply Elem.there))) ?_
      refine oV vA ?_
      refine o_nil (c_region ?_)
      iterate 2 refine oV vM ?_
      refine oV (v_len_str Tryz.underlying9 rfl) ?_
      refine oV ((by first | exact v_add64 rfl rfl (by omega) | exact v_add rfl rfl)) ?_
      refine oV vA ?_
      refine o_nil (c_inBlock (c_region ?_))
      refine oV ((by first | exact v_add64 rfl rfl (by omega) | exact v_add rfl rfl)) ?_
      refine oV vM ?_
      refine o_nil ?_
      rw [Int.add_assoc acc, ← Int.natCast_add, ← hsn]
      refine cU (IH2 (j + 1) (by first | omega | (dsimp only; omega)) (by omega))
    · rw [List.take_of_length_le (l := l[k].2.2.2.2.1) (i := j) (by omega)]
      refine c_exit rfl ?_
      refine c_seq (c_region ?_)
      refine oV (vF 5 Tryz.underlying129 ti23) ?_
      refine oV (vL lone23) ?_
      refine oV ((by first | exact v_len_form Tryz.underlying23 rfl | exact v_len_sl Tryz.underlying23 rfl (hX (by repeat constructor)))) ?_
      refine oV vM ?_
      refine o_nil (c_block ?_)
      have hac1 : acc + ((sumS l[k].2.2.2.2.1 : Nat) : Int) = (acc + ((sumS l[k].2.2.2.2.1 : Nat) : Int)) + ((sumS (l[k].2.2.2.2.2.take 0) : Nat) : Int) := by rw [h0]; omega
      rw [hac1]
      obtain ⟨acc2, hacc2⟩ : ∃ x : Int, x = acc + ((sumS l[k].2.2.2.2.1 : Nat) : Int) := ⟨_, rfl⟩
      rw [← hacc2]
      refine c_loopR (γ := Nat) [(2, _), (5, _), (12, _), (13, _), (14, _), (15, _), (16, _), (17, _), (18, _), (19, _), (20, _), (21, _), (22, _), (23, _), (24, _), (25, _), (26, _), (27, _), (28, _), (29, _), (30, _), (31, _), (32, _), (33, _), (34, _), (35, _), (36, _), (37, _), (38, _), (39, _), (47, _), (48, _), (49, _)] (fun j => l[k].2.2.2.2.2.length - j) (fun j => j ≤ l[k].2.2.2.2.2.length) (fun j => [(50, .int .i64 j), (3, .int .i64 (acc2 + ((sumS (l[k].2.2.2.2.2.take j) : Nat) : Int)))]) (fun _ => [Blk b5 129 [.int .i64 l[k].1, .string l[k].2.1, .string l[k].2.2.1, .int .i64 l[k].2.2.2.1, g.1, g.2], Sl eStr g.2 l[k].2.2.2.2.2, Sl ePr v l]) (0) (Nat.zero_le _) (by repeat (first | exact trivial | refine ⟨rfl, ?_⟩)) (eX (by repeat constructor)) ?_
      rintro j hj IH3
      have hsj := sum_le (fun s : ByteArray => s.size) l[k].2.2.2.2.2 j
      try dsimp only [List.cons_append, List.nil_append]
      refine c_seq (c_region ?_)
      refine oV (v_lt rfl rfl) ?_
      refine o_nil (c_seq ?_)
      refine c_cond_p rfl (fun hj2 => ?_) (fun hj2 => ?_)
      · have hjl : j < l[k].2.2.2.2.2.length := by omega
        have hsn : sumS (l[k].2.2.2.2.2.take (j + 1)) = sumS (l[k].2.2.2.2.2.take j) + l[k].2.2.2.2.2[j].size := sum_take (fun s : ByteArray => s.size) hjl
        have hsj2 := sum_le (fun s : ByteArray => s.size) l[k].2.2.2.2.2 (j + 1)
        unfold sumS at *
        refine c_skip (c_seq (c_block (c_seq (c_region ?_))))
        refine oV ((by first | exact v_indexAddrN Tryz.underlying23 ti9 rfl rfl (hX (by repeat constructor)) (by omega) | exact v_indexAddr Tryz.underlying23 ti9 rfl rfl (hX (by repeat constructor)) (by omega))) ?_
        refine oV (v_load_str lone9 rfl (by repeat (first | exact Elem.sl (List.getElem?_eq_getElem (by omega)) | exact Elem.own (List.getElem?_eq_getElem (by omega)) | exact Elem.ownO (List.getElem?_eq_getElem (by omega)) | apply Elem.there))) ?_
        refine oV vA ?_
        refine o_nil (c_region ?_)
        iterate 2 refine oV vM ?_
        refine oV (v_len_str Tryz.underlying9 rfl) ?_
        refine oV ((by first | exact v_add64 rfl rfl (by omega) | exact v_add rfl rfl)) ?_
        refine oV vA ?_
        refine o_nil (c_inBlock (c_region ?_))
        refine oV ((by first | exact v_add64 rfl rfl (by omega) | exact v_add rfl rfl)) ?_
        refine oV vM ?_
        refine o_nil ?_
        rw [Int.add_assoc acc2, ← Int.natCast_add, ← hsn]
        refine cU (IH3 (j + 1) (by first | omega | (dsimp only; omega)) (by omega))
      · rw [List.take_of_length_le (l := l[k].2.2.2.2.2) (i := j) (by omega)]
        refine c_exit rfl ?_
        refine c_inBlock (c_region ?_)
        refine oV ((by first | exact v_add64 rfl rfl (by omega) | exact v_add rfl rfl)) ?_
        refine oV vM ?_
        refine o_nil ?_
        have hfin : acc2 + ((sumS l[k].2.2.2.2.2 : Nat) : Int) = ((l.length + ((l.take (k + 1)).map manyP).sum : Nat) : Int) := by rw [hst]; omega
        rw [hfin]
        refine cU (IH (k + 1) (by first | omega | (dsimp only; omega)) (by omega))
  · refine c_exit rfl ?_
    refine c_seq (c_region ?_)
    refine oV vM ?_
    refine oV vA ?_
    refine o_nil ?_
    refine c_ret1 Tryz.func38 rfl rfl fun w O hS => ?_
    exact ⟨(), by rw [hm, List.take_of_length_le (by omega)], trivial, trivial⟩
/-- The inner structs of a thing. -/
abbrev itP (z : It9) (g : ItV) : List Value := [.int .i64 z.2.2.2.2.1.1, .string z.2.2.2.2.1.2.1, .string z.2.2.2.2.1.2.2.1, .int .i64 z.2.2.2.2.1.2.2.2.1, g.po, g.pw]
abbrev itQ (z : It9) (g : ItV) : List Value := [.int .i64 z.2.2.2.2.2.2.1, .string z.2.2.2.2.2.2.2.1, g.qd, g.ql]
end Go.Proofs.YtlfehnnmpkohkaaGreatDoor
/- Chapter 16: notes, and what is the same. -/
namespace Go.Proofs.YtlfehnnmpkohkaaGreatDoor
open Go Go.SL Go.Lib
abbrev eNt : Enc Nt9 := ePair (eInt .i64) (ePair (eSl eStr) eBool)
theorem nt_open {z : Nt9} (w : World) (O : Perm) (c : List Value) (h : eNt.rd w O c z) : ∃ u : Value, c = [.int .i64 z.1, u, .bool z.2.2] ∧ Stars [Sl eStr u z.2.1] w O := by
  obtain ⟨c1, c2, rfl, h1, c3, c4, rfl, ⟨u, rfl, h2⟩, h3⟩ := h
  have e1 : c1 = [.int .i64 z.1] := h1
  have e3 : c4 = [.bool z.2.2] := h3
  subst e1; subst e3
  exact ⟨u, rfl, O, fun _ => 0, ⟨fun _ => Nat.le_refl _, fun _ => Nat.zero_le _, fun _ _ => rfl, fun _ h => by omega⟩, h2, trivial⟩
theorem nt_rd {ver : Int} {b : Bool} {u : Value} {l : List ByteArray} (w : World) (O : Perm) (h : Stars [Sl eStr u l] w O) : eNt.rd w O [.int .i64 ver, u, .bool b] (ver, l, b) := by
  obtain ⟨O1, O2, s, h1, _⟩ := h
  exact ⟨[.int .i64 ver], [u, .bool b], rfl, rfl, [u], [.bool b], rfl, ⟨u, rfl, SlP.mono h1 s.l⟩, rfl⟩
theorem nt_ext {x y : Nt9} : x = y ↔ x.1 = y.1 ∧ x.2.2 = y.2.2 ∧ x.2.1 = y.2.1 := by
  obtain ⟨a, b, c⟩ := x; obtain ⟨a', b', c'⟩ := y
  simp only [Prod.mk.injEq]
  exact ⟨fun ⟨h1, h2, h3⟩ => ⟨h1, h3, h2⟩, fun ⟨h1, h2, h3⟩ => ⟨h1, h3, h2⟩⟩
/-- Sizes at which notes are looked at. -/
def SizeN (l : List Nt9) : Prop := l.length ≤ 1000000 ∧ ∀ n ∈ l, n.2.1.length ≤ 1000000
attribute [local irreducible] Cfg Kont StepK Val Con Qops Any Sl Own Blk BlkR Rd Pu ExA AllA Has Pick Ent Elem Beside Callable TI Lone OwnO AndA
set_option maxRecDepth 100000 in
theorem notesR_con (a b : Value) (xs ys : List Nt9) (hxs : SizeN xs) (hys : SizeN ys) :
    Con Tryz.prog 35 [a, b] [Sl eNt a xs, Sl eNt b ys] (γ := Unit) (fun _ => .bool (decide (xs = ys))) (fun _ => True) (fun _ => []) := by
  obtain ⟨hx, hxn⟩ := hxs
  obtain ⟨hy, -⟩ := hys
  refine con_of Tryz.func35 rfl (dd rfl) fun w0 O0 => ?_
  refine c_seq (c_region ?_)
  refine oV vA ?_
  refine o_nil (c_seq (c_seq (c_region ?_)))
  refine oV vM ?_
  refine oV ((by first | exact v_len_form Tryz.underlying48 rfl | exact v_len_sl Tryz.underlying48 rfl (hX (by repeat constructor)))) ?_
  refine oV vM ?_
  refine oV ((by first | exact v_len_form Tryz.underlying48 rfl | exact v_len_sl Tryz.underlying48 rfl (hX (by repeat constructor)))) ?_
  refine oV (v_ne rfl rfl) ?_
  refine o_nil ?_
  refine c_cond_p rfl (fun hne => ?_) (fun hne => ?_)
  · refine c_seq (c_region ?_)
    refine oV vA ?_
    refine o_nil ?_
    refine c_ret1 Tryz.func35 rfl rfl fun w O hS => ?_
    exact ⟨(), congrArg Value.bool (decide_eq_false fun h => hne (by rw [h])).symm, trivial, trivial⟩
  · have hlen : xs.length = ys.length := by omega
    refine c_skip (c_seq (c_seq (c_region ?_)))
    refine oV vA ?_
    refine o_nil (c_block ?_)
    refine c_loopQ (γ := Nat) [(0, _), (1, _), (4, _)] (fun k => xs.length - k) (fun k => k ≤ xs.length ∧ ∀ (j : Nat) (hj : j < xs.length), j < k → xs[j] = ys[j]'(by omega)) (fun k => [(5, .int .i64 k)]) (0) (⟨Nat.zero_le _, fun _ _ h => by omega⟩) (by repeat (first | exact trivial | refine ⟨rfl, ?_⟩)) ?_
    rintro k ⟨hk, hall⟩ IH
    try dsimp only [List.cons_append, List.nil_append]
    refine c_seq (c_seq (c_region ?_))
    iterate 2 refine oV vM ?_
    refine oV ((by first | exact v_len_form Tryz.underlying48 rfl | exact v_len_sl Tryz.underlying48 rfl (hX (by repeat constructor)))) ?_
    refine oV (v_lt rfl rfl) ?_
    refine o_nil ?_
    refine c_cond_p rfl (fun hlt => ?_) (fun hlt => ?_)
    · have hlt' : k < xs.length := by omega
      have hlt2 : k < ys.length := by omega
      have hna := hxn _ (List.getElem_mem hlt')
      refine c_open_fldl (v := a) (zs := xs) (i := k) (off := 1) (pX (by repeat constructor)) (List.getElem?_eq_getElem (by omega)) (by (try apply FldL.map); apply FldL.snd (j := 0) rfl; apply FldL.fst; (try apply FldL.map); exact FldL.sl) fun u1 => ?_
      refine c_open_fldl (v := b) (zs := ys) (i := k) (off := 1) (pX (by repeat constructor)) (List.getElem?_eq_getElem (by omega)) (by (try apply FldL.map); apply FldL.snd (j := 0) rfl; apply FldL.fst; (try apply FldL.map); exact FldL.sl) fun u2 => ?_
      refine c_skip (c_seq (c_block (c_seq (c_seq ?_))))
      refine c_env (env' := [(0, _), (1, _), (4, _), (5, _), (12, _), (13, _), (14, _), (15, _)]) (by repeat (first | exact trivial | refine ⟨rfl, ?_⟩)) ?_
      refine c_joinb (d := 56) (decide (¬ (xs[k].1 = ys[k].1 ∧ xs[k].2.2 = ys[k].2.2 ∧ xs[k].2.1.length = ys[k].2.1.length))) ?_ ?_
      rotate_left
      · intro J
        refine c_quiet rfl (by kernel_rfl) ?_
        refine qV vM ?_
        refine qV vM ?_
        refine qV ((by first | exact v_indexAddrN Tryz.underlying48 ti121 rfl rfl (hX (by repeat constructor)) (by omega) | exact v_indexAddr Tryz.underlying48 ti121 rfl rfl (hX (by repeat constructor)) (by omega))) ?_
        refine qV (vF 0 Tryz.underlying121 ti3) ?_
        refine qV ((by first | exact v_load_cell lone3 rfl (hX (by repeat constructor)) | exact v_load_fld lone3 rfl (by repeat (first|exact el1 (by omega)|exact el2 (by omega)|exact el3 (by omega)|apply Elem.there)) (by (try apply FldS.map); apply FldS.fst; (try apply FldS.map); first | exact FldS.int _ | exact FldS.str | exact FldS.bool | exact FldS.raw))) ?_
        refine qV vM ?_
        refine qV vM ?_
        refine qV ((by first | exact v_indexAddrN Tryz.underlying48 ti121 rfl rfl (hX (by repeat constructor)) (by omega) | exact v_indexAddr Tryz.underlying48 ti121 rfl rfl (hX (by repeat constructor)) (by omega))) ?_
        refine qV (vF 0 Tryz.underlying121 ti3) ?_
        refine qV ((by first | exact v_load_cell lone3 rfl (hX (by repeat constructor)) | exact v_load_fld lone3 rfl (by repeat (first|exact el1 (by omega)|exact el2 (by omega)|exact el3 (by omega)|apply Elem.there)) (by (try apply FldS.map); apply FldS.fst; (try apply FldS.map); first | exact FldS.int _ | exact FldS.str | exact FldS.bool | exact FldS.raw))) ?_
        refine qV (v_ne rfl rfl) ?_
        refine qV vM ?_
        first | refine q_guard_f rfl rfl (fun g29 => ?_) (fun g29 => ?_) | refine q_guard rfl rfl (fun g29 => ?_) (fun g29 => ?_)
        · refine qV vM ?_
          refine qN ?_
          refine qV vM ?_
          refine qN ?_
          refine qV ((by first | exact v_indexAddrN Tryz.underlying48 ti121 rfl rfl (hX (by repeat constructor)) (by omega) | exact v_indexAddr Tryz.underlying48 ti121 rfl rfl (hX (by repeat constructor)) (by omega))) ?_
          refine qN ?_
          refine qV (vF 2 Tryz.underlying121 ti4) ?_
          refine qN ?_
          refine qV ((by first | exact v_load_cell lone4 rfl (hX (by repeat constructor)) | exact v_load_fld lone4 rfl (by repeat (first|exact el1 (by omega)|exact el2 (by omega)|exact el3 (by omega)|apply Elem.there)) (by (try apply FldS.map); apply FldS.snd (j := 1) rfl; apply FldS.snd (j := 0) rfl; (try apply FldS.map); first | exact FldS.int _ | exact FldS.str | exact FldS.bool | exact FldS.raw))) ?_
          refine qN ?_
          refine qV vM ?_
          refine qN ?_
          refine qV vM ?_
          refine qN ?_
          refine qV ((by first | exact v_indexAddrN Tryz.underlying48 ti121 rfl rfl (hX (by repeat constructor)) (by omega) | exact v_indexAddr Tryz.underlying48 ti121 rfl rfl (hX (by repeat constructor)) (by omega))) ?_
          refine qN ?_
          refine qV (vF 2 Tryz.underlying121 ti4) ?_
          refine qN ?_
          refine qV ((by first | exact v_load_cell lone4 rfl (hX (by repeat constructor)) | exact v_load_fld lone4 rfl (by repeat (first|exact el1 (by omega)|exact el2 (by omega)|exact el3 (by omega)|apply Elem.there)) (by (try apply FldS.map); apply FldS.snd (j := 1) rfl; apply FldS.snd (j := 0) rfl; (try apply FldS.map); first | exact FldS.int _ | exact FldS.str | exact FldS.bool | exact FldS.raw))) ?_
          refine qN ?_
          refine qV (v_bne Tryz.underlying4 rfl rfl) ?_
          refine qV vQ ?_
          refine qV vM ?_
          first | refine q_guard_f rfl rfl (fun g42 => ?_) (fun g42 => ?_) | refine q_guard rfl rfl (fun g42 => ?_) (fun g42 => ?_)
          · refine qV vM ?_
            refine qN ?_
            refine qV vM ?_
            refine qN ?_
            refine qV ((by first | exact v_indexAddrN Tryz.underlying48 ti121 rfl rfl (hX (by repeat constructor)) (by omega) | exact v_indexAddr Tryz.underlying48 ti121 rfl rfl (hX (by repeat constructor)) (by omega))) ?_
            refine qN ?_
            refine qV (vF 1 Tryz.underlying121 ti23) ?_
            refine qN ?_
            refine qV (v_load_cell lone23 rfl (hX (by repeat constructor))) ?_
            refine qN ?_
            refine qV ((by first | exact v_len_form Tryz.underlying23 rfl | exact v_len_sl Tryz.underlying23 rfl (hX (by repeat constructor)))) ?_
            refine qN ?_
            refine qV vM ?_
            refine qN ?_
            refine qV vM ?_
            refine qN ?_
            refine qV ((by first | exact v_indexAddrN Tryz.underlying48 ti121 rfl rfl (hX (by repeat constructor)) (by omega) | exact v_indexAddr Tryz.underlying48 ti121 rfl rfl (hX (by repeat constructor)) (by omega))) ?_
            refine qN ?_
            refine qV (vF 1 Tryz.underlying121 ti23) ?_
            refine qN ?_
            refine qV (v_load_cell lone23 rfl (hX (by repeat constructor))) ?_
            refine qN ?_
            refine qV ((by first | exact v_len_form Tryz.underlying23 rfl | exact v_len_sl Tryz.underlying23 rfl (hX (by repeat constructor)))) ?_
            refine qN ?_
            refine qV (v_ne rfl rfl) ?_
            refine qV vQ ?_
            refine q_nil ?_
            exact cJ J rfl (by first | rfl | (simp_all; done) | (simp_all; omega) | (simp; omega))
          · refine qX ?_
            iterate 12 refine qX ?_
            refine qV vT ?_
            refine q_nil ?_
            exact cJ J rfl (by first | rfl | (simp_all; done) | (simp_all; omega) | (simp; omega))
        · refine qX ?_
          iterate 10 refine qX ?_
          refine qV vT ?_
          refine qV vM ?_
          iterate 13 refine qX ?_
          refine qV vT ?_
          refine q_nil ?_
          exact cJ J rfl (by first | rfl | (simp_all; done) | (simp_all; omega) | (simp; omega))
      refine c_cond_p rfl (fun hd => ?_) (fun hd => ?_)
      · refine c_seq (c_region ?_)
        refine oV vA ?_
        refine o_nil ?_
        refine c_ret1 Tryz.func35 rfl rfl fun w O hS => ?_
        exact ⟨(), congrArg Value.bool (decide_eq_false fun h => hd (by subst h; simp)).symm, trivial, trivial⟩
      · obtain ⟨h1, h2, h3⟩ : xs[k].1 = ys[k].1 ∧ xs[k].2.2 = ys[k].2.2 ∧ xs[k].2.1.length = ys[k].2.1.length := Classical.not_not.1 hd
        refine c_skip (c_seq (c_region ?_))
        refine oV vA ?_
        refine o_nil (c_block ?_)
        refine c_loopQ (γ := Nat) [(0, _), (1, _), (4, _), (5, _), (12, _), (13, _), (14, _), (15, _), (56, _)] (fun j => xs[k].2.1.length - j) (fun j => j ≤ xs[k].2.1.length ∧ ∀ (i : Nat) (hi : i < xs[k].2.1.length), i < j → xs[k].2.1[i] = ys[k].2.1[i]'(by omega)) (fun j => [(6, .int .i64 j)]) (0) (⟨Nat.zero_le _, fun _ _ h => by omega⟩) (by repeat (first | exact trivial | refine ⟨rfl, ?_⟩)) ?_
        rintro j ⟨hj, hall2⟩ IH2
        try dsimp only [List.cons_append, List.nil_append]
        refine c_seq (c_seq (c_region ?_))
        iterate 3 refine oV vM ?_
        refine oV ((by first | exact v_indexAddrN Tryz.underlying48 ti121 rfl rfl (hX (by repeat constructor)) (by omega) | exact v_indexAddr Tryz.underlying48 ti121 rfl rfl (hX (by repeat constructor)) (by omega))) ?_
        refine oV (vF 1 Tryz.underlying121 ti23) ?_
        refine o_step (s_load_fldl lone23 rfl (dd rfl) (by repeat (first|exact el1 (by omega)|exact el2 (by omega)|exact el3 (by omega)|apply Elem.there)) (by (try apply FldL.map); apply FldL.snd (j := 0) rfl; apply FldL.fst; (try apply FldL.map); exact FldL.sl) (fun v62 => ?_))
        refine oV ((by first | exact v_len_form Tryz.underlying23 rfl | exact v_len_sl Tryz.underlying23 rfl (hX (by repeat constructor)))) ?_
        refine oV (v_lt rfl rfl) ?_
        refine o_nil ?_
        refine c_cond_p rfl (fun hlt3 => ?_) (fun hlt3 => ?_)
        · have hlt4 : j < xs[k].2.1.length := by omega
          have hlt5 : j < ys[k].2.1.length := by omega
          refine c_skip (c_seq (c_block (c_seq ?_)))
          refine c_quiet rfl (by kernel_rfl) ?_
          refine qV vM ?_
          refine qV vM ?_
          refine qV ((by first | exact v_indexAddrN Tryz.underlying48 ti121 rfl rfl (hX (by repeat constructor)) (by omega) | exact v_indexAddr Tryz.underlying48 ti121 rfl rfl (hX (by repeat constructor)) (by omega))) ?_
          refine qV (vF 1 Tryz.underlying121 ti23) ?_
          refine qV (v_load_cell lone23 rfl (hX (by repeat constructor))) ?_
          refine qV vM ?_
          refine qV ((by first | exact v_indexAddrN Tryz.underlying23 ti9 rfl rfl (hX (by repeat constructor)) (by omega) | exact v_indexAddr Tryz.underlying23 ti9 rfl rfl (hX (by repeat constructor)) (by omega))) ?_
          refine qV (v_load_str lone9 rfl (by repeat (first | exact Elem.sl (List.getElem?_eq_getElem (by omega)) | exact Elem.own (List.getElem?_eq_getElem (by omega)) | exact Elem.ownO (List.getElem?_eq_getElem (by omega)) | apply Elem.there))) ?_
          refine qV vM ?_
          refine qV vM ?_
          refine qV ((by first | exact v_indexAddrN Tryz.underlying48 ti121 rfl rfl (hX (by repeat constructor)) (by omega) | exact v_indexAddr Tryz.underlying48 ti121 rfl rfl (hX (by repeat constructor)) (by omega))) ?_
          refine qV (vF 1 Tryz.underlying121 ti23) ?_
          refine qV (v_load_cell lone23 rfl (hX (by repeat constructor))) ?_
          refine qV vM ?_
          refine qV ((by first | exact v_indexAddrN Tryz.underlying23 ti9 rfl rfl (hX (by repeat constructor)) (by omega) | exact v_indexAddr Tryz.underlying23 ti9 rfl rfl (hX (by repeat constructor)) (by omega))) ?_
          refine qV (v_load_str lone9 rfl (by repeat (first | exact Elem.sl (List.getElem?_eq_getElem (by omega)) | exact Elem.own (List.getElem?_eq_getElem (by omega)) | exact Elem.ownO (List.getElem?_eq_getElem (by omega)) | apply Elem.there))) ?_
          refine qV (v_sne rfl rfl) ?_
          refine q_nil ?_
          refine c_cond_p rfl (fun hs => ?_) (fun hs => ?_)
          · refine c_seq (c_region ?_)
            refine oV vA ?_
            refine o_nil ?_
            refine c_ret1 Tryz.func35 rfl rfl fun w O hS => ?_
            exact ⟨(), congrArg Value.bool (decide_eq_false fun h => hs (by subst h; rfl)).symm, trivial, trivial⟩
          · have hs' : xs[k].2.1[j] = ys[k].2.1[j] := Classical.not_not.1 hs
            refine c_skip (c_inBlock (c_region ?_))
            refine oV vM ?_
            refine oV ((by first | exact v_add64 rfl rfl (by omega) | exact v_add rfl rfl)) ?_
            refine oV vA ?_
            refine o_nil ?_
            refine cU (IH2 (j + 1) (by first | omega | (dsimp only; omega)) (⟨by omega, fun i hi hij => (Nat.lt_succ_iff_lt_or_eq.1 hij).elim (hall2 i hi) fun h => by subst h; exact hs'⟩))
        · refine c_exit rfl ?_
          refine c_inBlock (c_region ?_)
          refine oV vM ?_
          refine oV ((by first | exact v_add64 rfl rfl (by omega) | exact v_add rfl rfl)) ?_
          refine oV vA ?_
          refine o_nil ?_
          have he : xs[k] = ys[k] := nt_ext.2 ⟨h1, h2, List.ext_getElem h3 fun i hi hi' => hall2 i hi (by omega)⟩
          refine cU (IH (k + 1) (by first | omega | (dsimp only; omega)) (⟨by omega, fun i hi hij => (Nat.lt_succ_iff_lt_or_eq.1 hij).elim (hall i hi) fun h => by subst h; exact he⟩))
    · refine c_exit rfl ?_
      refine c_seq (c_region ?_)
      refine oV vA ?_
      refine o_nil ?_
      refine c_ret1 Tryz.func35 rfl rfl fun w O hS => ?_
      exact ⟨(), congrArg Value.bool (decide_eq_true (List.ext_getElem hlen fun i hi hi' => hall i hi (by omega))).symm, trivial, trivial⟩
set_option maxRecDepth 100000 in
theorem numsR_con (v u : Value) (xs ys : List Int) (hx : xs.length ≤ 1000000) (hy : ys.length ≤ 1000000) : Con Tryz.prog 48 [v, u] [Sl (eInt .i64) v xs, Sl (eInt .i64) u ys] (γ := Unit) (fun _ => .bool (decide (xs = ys))) (fun _ => True) (fun _ => []) := by
  refine con_of Tryz.func48 rfl (dd rfl) fun w0 O0 => ?_
  refine c_seq (c_region ?_)
  refine oV vA ?_
  refine o_nil (c_seq (c_seq (c_region ?_)))
  refine oV vM ?_
  refine oV ((by first | exact v_len_form Tryz.underlying22 rfl | exact v_len_sl Tryz.underlying22 rfl (hX (by repeat constructor)))) ?_
  refine oV vM ?_
  refine oV ((by first | exact v_len_form Tryz.underlying22 rfl | exact v_len_sl Tryz.underlying22 rfl (hX (by repeat constructor)))) ?_
  refine oV (v_ne rfl rfl) ?_
  refine o_nil ?_
  refine c_cond_p rfl (fun h => ?_) (fun h => ?_)
  · refine c_seq (c_region ?_)
    refine oV vA ?_
    refine o_nil ?_
    refine c_ret1 Tryz.func48 rfl rfl fun w O hS => ?_
    exact ⟨(), by rw [decide_eq_false (fun e => h (by rw [e]))], trivial, trivial⟩
  · refine c_skip (c_seq (c_seq (c_region ?_)))
    refine oV vA ?_
    refine o_nil (c_block ?_)
    refine c_loopR (γ := Nat) [(0, _), (1, _), (4, _)] (fun k => xs.length - k) (fun k => k ≤ xs.length ∧ xs.take k = ys.take k) (fun k => [(5, .int .i64 k)]) (fun _ => [Sl (eInt .i64) v xs, Sl (eInt .i64) u ys]) (0) (⟨Nat.zero_le _, rfl⟩) (by repeat (first | exact trivial | refine ⟨rfl, ?_⟩)) (eX (by repeat constructor)) ?_
    rintro k ⟨hk, he⟩ IH
    try dsimp only [List.cons_append, List.nil_append]
    refine c_seq (c_seq (c_region ?_))
    iterate 2 refine oV vM ?_
    refine oV ((by first | exact v_len_form Tryz.underlying22 rfl | exact v_len_sl Tryz.underlying22 rfl (hX (by repeat constructor)))) ?_
    refine oV (v_lt rfl rfl) ?_
    refine o_nil ?_
    refine c_cond_p rfl (fun hlt => ?_) (fun hlt => ?_)
    · have hkx : k < xs.length := by omega
      have hky : k < ys.length := by omega
      refine c_skip (c_seq (c_block (c_seq ?_)))
      refine c_quiet rfl (by kernel_rfl) ?_
      refine qV vM ?_
      refine qV vM ?_
      refine qV ((by first | exact v_indexAddrN Tryz.underlying22 ti3 rfl rfl (hX (by repeat constructor)) (by omega) | exact v_indexAddr Tryz.underlying22 ti3 rfl rfl (hX (by repeat constructor)) (by omega))) ?_
      refine qV (v_load_int lone3 rfl (by repeat (first | exact Elem.sl (List.getElem?_eq_getElem (by omega)) | exact Elem.own (List.getElem?_eq_getElem (by omega)) | exact Elem.ownO (List.getElem?_eq_getElem (by omega)) | apply Elem.there))) ?_
      refine qV vM ?_
      refine qV vM ?_
      refine qV ((by first | exact v_indexAddrN Tryz.underlying22 ti3 rfl rfl (hX (by repeat constructor)) (by omega) | exact v_indexAddr Tryz.underlying22 ti3 rfl rfl (hX (by repeat constructor)) (by omega))) ?_
      refine qV (v_load_int lone3 rfl (by repeat (first | exact Elem.sl (List.getElem?_eq_getElem (by omega)) | exact Elem.own (List.getElem?_eq_getElem (by omega)) | exact Elem.ownO (List.getElem?_eq_getElem (by omega)) | apply Elem.there))) ?_
      refine qV (v_ne rfl rfl) ?_
      refine q_nil ?_
      refine c_cond_p rfl (fun hne => ?_) (fun hne => ?_)
      · refine c_seq (c_region ?_)
        refine oV vA ?_
        refine o_nil ?_
        refine c_ret1 Tryz.func48 rfl rfl fun w O hS => ?_
        exact ⟨(), by rw [decide_eq_false]; intro q; subst q; exact hne rfl, trivial, trivial⟩
      · have heq : xs[k] = ys[k] := Classical.byContradiction fun q => hne q
        refine c_skip (c_inBlock (c_region ?_))
        refine oV vM ?_
        refine oV ((by first | exact v_add64 rfl rfl (by omega) | exact v_add rfl rfl)) ?_
        refine oV vA ?_
        refine o_nil ?_
        refine cU (IH (k + 1) (by first | omega | (dsimp only; omega)) (⟨by omega, take_next hkx hky he heq⟩))
    · refine c_exit rfl ?_
      refine c_seq (c_region ?_)
      refine oV vA ?_
      refine o_nil ?_
      refine c_ret1 Tryz.func48 rfl rfl fun w O hS => ?_
      refine ⟨(), ?_, trivial, trivial⟩
      rw [List.take_of_length_le (by omega), List.take_of_length_le (by omega)] at he
      rw [decide_eq_true he]
set_option maxRecDepth 100000 in
theorem sameNote_con (x y : Nt9) (u t : Value) (hx : x.2.1.length ≤ 1000000) (hy : y.2.1.length ≤ 1000000) : Con Tryz.prog 79 [.agg #[.int .i64 x.1, u, .bool x.2.2], .agg #[.int .i64 y.1, t, .bool y.2.2]] [Sl eStr u x.2.1, Sl eStr t y.2.1] (γ := Unit) (fun _ => .bool (decide (x = y))) (fun _ => True) (fun _ => []) := by
  have hs := same_con u t x.2.1 y.2.1 hx hy
  refine con_of Tryz.func79 rfl (dd rfl) fun w0 O0 => ?_
  refine c_seq (c_region ?_)
  refine o_step (s_box rfl (dd rfl) (fun b2 => ?_))
  refine o_step (s_box rfl (dd rfl) (fun b3 => ?_))
  refine oV vA ?_
  refine o_nil (c_seq (c_region ?_))
  refine oV (vF 0 Tryz.underlying72 ti3) ?_
  refine oV (vL lone3) ?_
  refine oV (vF 0 Tryz.underlying72 ti3) ?_
  refine oV (vL lone3) ?_
  refine oV (v_eq rfl rfl) ?_
  refine oV vM ?_
  refine o_guard_t rfl rfl (fun g1 => ?_) (fun g1 => ?_)
  · refine oV (vF 2 Tryz.underlying72 ti4) ?_
    refine oN ?_
    refine oV (vL lone4) ?_
    refine oN ?_
    refine oV (vF 2 Tryz.underlying72 ti4) ?_
    refine oN ?_
    refine oV (vL lone4) ?_
    refine oN ?_
    refine oV (v_beq Tryz.underlying4 rfl rfl) ?_
    refine oV vT ?_
    refine oV vM ?_
    refine o_guard_t rfl rfl (fun g2 => ?_) (fun g2 => ?_)
    · refine oV (vF 1 Tryz.underlying72 ti23) ?_
      refine oN ?_
      refine oV (vL lone23) ?_
      refine oN ?_
      refine oV (vF 1 Tryz.underlying72 ti23) ?_
      refine oN ?_
      refine oV (vL lone23) ?_
      refine oN ?_
      refine o_step (s_callf_keep cl46 (hs) rfl (dd rfl) (rX (by repeat constructor)) (fun _ => sX) (fun _ _ => ?_))
      refine oV vT ?_
      refine oV vA ?_
      refine o_nil ?_
      refine c_ret1 Tryz.func79 rfl rfl fun w O hS => ?_
      exact ⟨(), congrArg Value.bool (decide_eq_decide.2 ⟨fun h => nt_ext.2 ⟨g1, g2, h⟩, fun h => by rw [h]⟩), trivial, trivial⟩
    · refine oX ?_
      iterate 4 refine oX ?_
      refine oV vQ ?_
      refine oV vA ?_
      refine o_nil ?_
      refine c_ret1 Tryz.func79 rfl rfl fun w O hS => ?_
      exact ⟨(), congrArg Value.bool (decide_eq_false fun h => g2 (by rw [h])).symm, trivial, trivial⟩
  · refine oX ?_
    iterate 4 refine oX ?_
    refine oV vQ ?_
    refine oV vM ?_
    iterate 5 refine oX ?_
    refine oV vQ ?_
    refine oV vA ?_
    refine o_nil ?_
    refine c_ret1 Tryz.func79 rfl rfl fun w O hS => ?_
    exact ⟨(), congrArg Value.bool (decide_eq_false fun h => g1 (by rw [h])).symm, trivial, trivial⟩
set_option maxRecDepth 100000 in
theorem eqNotes_con (v u : Value) (xs ys : List Nt9) (hx : SizeN xs) (hy : SizeN ys) : Con Tryz.prog 78 [v, u, .func (.func 79) #[] #[]] [Sl eNt v xs, Sl eNt u ys] (γ := Unit) (fun _ => .bool (decide (xs = ys))) (fun _ => True) (fun _ => []) := by
  obtain ⟨hx1, hx2⟩ := hx
  obtain ⟨hy1, hy2⟩ := hy
  refine con_of Tryz.func78 rfl (dd rfl) fun w0 O0 => ?_
  refine c_seq (c_region ?_)
  refine oV vA ?_
  refine o_nil (c_seq (c_seq (c_region ?_)))
  refine oV vM ?_
  refine oV ((by first | exact v_len_form Tryz.underlying53 rfl | exact v_len_sl Tryz.underlying53 rfl (hX (by repeat constructor)))) ?_
  refine oV vM ?_
  refine oV ((by first | exact v_len_form Tryz.underlying53 rfl | exact v_len_sl Tryz.underlying53 rfl (hX (by repeat constructor)))) ?_
  refine oV (v_ne rfl rfl) ?_
  refine o_nil ?_
  refine c_cond_p rfl (fun h => ?_) (fun h => ?_)
  · refine c_seq (c_region ?_)
    refine oV vA ?_
    refine o_nil ?_
    refine c_ret1 Tryz.func78 rfl rfl fun w O hS => ?_
    exact ⟨(), by rw [decide_eq_false (fun e => h (by rw [e]))], trivial, trivial⟩
  · refine c_skip (c_seq (c_seq (c_region ?_)))
    refine oV vM ?_
    refine oV ((by first | exact v_len_form Tryz.underlying53 rfl | exact v_len_sl Tryz.underlying53 rfl (hX (by repeat constructor)))) ?_
    refine oV vM ?_
    refine o_nil (c_block ?_)
    refine c_loopR (γ := Nat) [(1, _), (2, _), (6, _), (15, _), (16, _)] (fun k => xs.length - k) (fun k => k ≤ xs.length ∧ xs.take k = ys.take k) (fun k => [(17, .int .i64 k)]) (fun _ => [Sl eNt v xs, Sl eNt u ys]) (0) (⟨Nat.zero_le _, rfl⟩) (by repeat (first | exact trivial | refine ⟨rfl, ?_⟩)) (eX (by repeat constructor)) ?_
    rintro k ⟨hk, he⟩ IH
    try dsimp only [List.cons_append, List.nil_append]
    refine c_seq (c_region ?_)
    refine oV (v_lt rfl rfl) ?_
    refine o_nil (c_seq ?_)
    refine c_cond_p rfl (fun hlt => ?_) (fun hlt => ?_)
    · have hkx : k < xs.length := by omega
      have hky : k < ys.length := by omega
      have hS := fun u t => sameNote_con xs[k] ys[k] u t (hx2 _ (List.getElem_mem hkx)) (hy2 _ (List.getElem_mem hky))
      refine c_skip (c_seq (c_block (c_seq (c_region ?_))))
      refine oV vM ?_
      refine oV ((by first | exact v_indexAddrN Tryz.underlying53 ti72 rfl rfl (hX (by repeat constructor)) (by omega) | exact v_indexAddr Tryz.underlying53 ti72 rfl rfl (hX (by repeat constructor)) (by omega))) ?_
      refine o_step (s_load_shape ⟨_, Tryz.underlying72⟩ ti72 rfl (dd rfl) (by repeat (first|exact el1 (by omega)|exact el2 (by omega)|exact el3 (by omega)|apply Elem.there)) (nt_open) (fun g => ?_))
      refine o_step (s_alloc ti72 (dd rfl) (fun b8 => ?_))
      refine oV vA ?_
      refine o_step (s_store_all ti72 rfl rfl (by first | exact CellsV.lit rfl | exact CellsV.one (by first | exact OneC.lit rfl | exact OneC.sl (hX (by repeat constructor)) )) (by repeat (first | exact OneAll.nil | (refine OneAll.cons ?_ ?_; · first | exact OneC.lit rfl | exact OneC.sl (hX (by repeat constructor)) ) | exact OneAll.rd (hX (by repeat constructor)))) rfl (pB (by repeat constructor)) rfl (?_))
      refine o_nil (c_seq (c_region ?_))
      iterate 2 refine oV vM ?_
      refine oV ((by first | exact v_indexAddrN Tryz.underlying53 ti72 rfl rfl (hX (by repeat constructor)) (by omega) | exact v_indexAddr Tryz.underlying53 ti72 rfl rfl (hX (by repeat constructor)) (by omega))) ?_
      refine o_step (s_load_shape ⟨_, Tryz.underlying72⟩ ti72 rfl (dd rfl) (by repeat (first|exact el1 (by omega)|exact el2 (by omega)|exact el3 (by omega)|apply Elem.there)) (nt_open) (fun g' => ?_))
      refine o_step (s_alloc ti72 (dd rfl) (fun b9 => ?_))
      refine o_step (s_store_all ti72 rfl rfl (by first | exact CellsV.lit rfl | exact CellsV.one (by first | exact OneC.lit rfl | exact OneC.sl (hX (by repeat constructor)) )) (by repeat (first | exact OneAll.nil | (refine OneAll.cons ?_ ?_; · first | exact OneC.lit rfl | exact OneC.sl (hX (by repeat constructor)) ) | exact OneAll.rd (hX (by repeat constructor)))) rfl (pB (by repeat constructor)) rfl (?_))
      refine o_nil (c_seq (c_region ?_))
      refine oV vM ?_
      refine oV (vW Tryz.underlying72 ti72) ?_
      refine oV (vW Tryz.underlying72 ti72) ?_
      refine o_step (s_call_keep cl79 (hS g g') (first := []) (cap := []) rfl rfl rfl (dd rfl) (rX (by repeat constructor)) (fun _ => sX) (fun _ _ => ?_))
      refine oV (v_not rfl) ?_
      refine o_nil ?_
      refine c_cond rfl (fun hb => ?_) (fun hb => ?_)
      · have hne : ¬ xs[k] = ys[k] := by intro q; rw [decide_eq_true q] at hb; cases hb
        refine c_seq (c_region ?_)
        refine oV vA ?_
        refine o_nil ?_
        refine c_ret1 Tryz.func78 rfl rfl fun w O hS => ?_
        exact ⟨(), by rw [decide_eq_false]; intro q; subst q; exact hne rfl, trivial, trivial⟩
      · have heq : xs[k] = ys[k] := Classical.byContradiction fun q => by rw [decide_eq_false q] at hb; cases hb
        refine c_skip (c_inBlock (c_region ?_))
        refine oV ((by first | exact v_add64 rfl rfl (by omega) | exact v_add rfl rfl)) ?_
        refine oV vM ?_
        refine o_nil ?_
        refine cU (IH (k + 1) (by first | omega | (dsimp only; omega)) (⟨by omega, take_next hkx hky he heq⟩))
    · refine c_exit rfl ?_
      refine c_seq (c_region ?_)
      refine oV vA ?_
      refine o_nil ?_
      refine c_ret1 Tryz.func78 rfl rfl fun w O hS => ?_
      refine ⟨(), ?_, trivial, trivial⟩
      rw [List.take_of_length_le (by omega), List.take_of_length_le (by omega)] at he
      rw [decide_eq_true he]
/-! Requests and responses. -/
def SizeQ (q : Rq9) : Prop := q.2.2.2.2.2.1.length ≤ 1000000 ∧ q.2.2.2.2.2.2.1.length ≤ 1000000 ∧ ShortL q.2.2.2.2.2.2.2
def SizeS (s : Rs9) : Prop := ShortL s.2.2.1 ∧ s.2.2.2.1.length ≤ 1000000 ∧ s.2.2.2.2.1.length ≤ 1000000 ∧ SizeN s.2.2.2.2.2
instance decT3 : DecidableEq (List Int × List ByteArray × List Pr9) := inferInstance
instance decT5 : DecidableEq (ByteArray × ByteArray × List Int × List ByteArray × List Pr9) := inferInstance
instance decRq9 : DecidableEq Rq9 := inferInstanceAs (DecidableEq (Int × Int × Int × ByteArray × ByteArray × List Int × List ByteArray × List Pr9))
instance decU1 : DecidableEq (List ByteArray × List Nt9) := inferInstanceAs (DecidableEq (List ByteArray × List Nt9))
instance decU3 : DecidableEq (List Int × List ByteArray × List Nt9) := instDecidableEqProd
instance decU4 : DecidableEq (List Pr9 × List Int × List ByteArray × List Nt9) := instDecidableEqProd
instance decRs9 : DecidableEq Rs9 := inferInstanceAs (DecidableEq (Int × Int × List Pr9 × List Int × List ByteArray × List Nt9))
theorem rq_ext {x y : Rq9} : x = y ↔ x.1 = y.1 ∧ x.2.1 = y.2.1 ∧ x.2.2.1 = y.2.2.1 ∧ x.2.2.2.1 = y.2.2.2.1 ∧ x.2.2.2.2.1 = y.2.2.2.2.1 ∧ x.2.2.2.2.2.1 = y.2.2.2.2.2.1 ∧ x.2.2.2.2.2.2.1 = y.2.2.2.2.2.2.1 ∧ x.2.2.2.2.2.2.2 = y.2.2.2.2.2.2.2 :=
  ⟨fun h => by subst h; exact ⟨rfl, rfl, rfl, rfl, rfl, rfl, rfl, rfl⟩, fun ⟨a, b, c, d, e, f, g, h⟩ => Prod.ext a (Prod.ext b (Prod.ext c (Prod.ext d (Prod.ext e (Prod.ext f (Prod.ext g h))))))⟩
theorem rs_ext {x y : Rs9} : x = y ↔ x.1 = y.1 ∧ x.2.1 = y.2.1 ∧ x.2.2.1 = y.2.2.1 ∧ x.2.2.2.1 = y.2.2.2.1 ∧ x.2.2.2.2.1 = y.2.2.2.2.1 ∧ x.2.2.2.2.2 = y.2.2.2.2.2 :=
  ⟨fun h => by subst h; exact ⟨rfl, rfl, rfl, rfl, rfl, rfl⟩, fun ⟨a, b, c, d, e, f⟩ => Prod.ext a (Prod.ext b (Prod.ext c (Prod.ext d (Prod.ext e f))))⟩
set_option maxRecDepth 100000 in
theorem sameReq_con (x y : Rq9) (d f l d' f' l' : Value) (hx : SizeQ x) (hy : SizeQ y) : Con Tryz.prog 15 [.agg #[.int .i64 x.1, .int .i64 x.2.1, .int .i64 x.2.2.1, .string x.2.2.2.1, .string x.2.2.2.2.1, d, f, l], .agg #[.int .i64 y.1, .int .i64 y.2.1, .int .i64 y.2.2.1, .string y.2.2.2.1, .string y.2.2.2.2.1, d', f', l']] [Sl (eInt .i64) d x.2.2.2.2.2.1, Sl eStr f x.2.2.2.2.2.2.1, Sl ePr l x.2.2.2.2.2.2.2, Sl (eInt .i64) d' y.2.2.2.2.2.1, Sl eStr f' y.2.2.2.2.2.2.1, Sl ePr l' y.2.2.2.2.2.2.2] (γ := Unit) (fun _ => .bool (decide (x = y))) (fun _ => True) (fun _ => []) := by
  have c1 := eqInts_con d d' x.2.2.2.2.2.1 y.2.2.2.2.2.1 hx.1 hy.1
  have c2 := same_con f f' x.2.2.2.2.2.2.1 y.2.2.2.2.2.2.1 hx.2.1 hy.2.1
  have c3 := samePrims_con l l' x.2.2.2.2.2.2.2 y.2.2.2.2.2.2.2 hx.2.2 hy.2.2
  refine con_of Tryz.func15 rfl (dd rfl) fun w0 O0 => ?_
  refine c_seq (c_region ?_)
  refine o_step (s_box rfl (dd rfl) (fun b2 => ?_))
  refine o_step (s_box rfl (dd rfl) (fun b3 => ?_))
  refine oV vA ?_
  refine o_nil (c_seq (c_region ?_))
  refine oV (vF 0 Tryz.underlying32 ti3) ?_
  refine oV (vL lone3) ?_
  refine oV (vF 0 Tryz.underlying32 ti3) ?_
  refine oV (vL lone3) ?_
  refine oV (v_eq rfl rfl) ?_
  refine oV vM ?_
  refine o_guard_t rfl rfl (fun g1 => ?_) (fun g1 => ?_)
  · refine oV (vF 1 Tryz.underlying32 ti3) ?_
    refine oN ?_
    refine oV (vL lone3) ?_
    refine oN ?_
    refine oV (vF 1 Tryz.underlying32 ti3) ?_
    refine oN ?_
    refine oV (vL lone3) ?_
    refine oN ?_
    refine oV (v_eq rfl rfl) ?_
    refine oV vT ?_
    refine oV vM ?_
    refine o_guard_t rfl rfl (fun g2 => ?_) (fun g2 => ?_)
    · refine oV (vF 2 Tryz.underlying32 ti3) ?_
      refine oN ?_
      refine oV (vL lone3) ?_
      refine oN ?_
      refine oV (vF 2 Tryz.underlying32 ti3) ?_
      refine oN ?_
      refine oV (vL lone3) ?_
      refine oN ?_
      refine oV (v_eq rfl rfl) ?_
      refine oV vT ?_
      refine oV vM ?_
      refine o_guard_t rfl rfl (fun g3 => ?_) (fun g3 => ?_)
      · refine oV (vF 3 Tryz.underlying32 ti9) ?_
        refine oN ?_
        refine oV (vL lone9) ?_
        refine oN ?_
        refine oV (vF 3 Tryz.underlying32 ti9) ?_
        refine oN ?_
        refine oV (vL lone9) ?_
        refine oN ?_
        refine oV (v_seq rfl rfl) ?_
        refine oV vT ?_
        refine oV vM ?_
        refine o_guard_t rfl rfl (fun g4 => ?_) (fun g4 => ?_)
        · refine oV (vF 4 Tryz.underlying32 ti9) ?_
          refine oN ?_
          refine oV (vL lone9) ?_
          refine oN ?_
          refine oV (vF 4 Tryz.underlying32 ti9) ?_
          refine oN ?_
          refine oV (vL lone9) ?_
          refine oN ?_
          refine oV (v_seq rfl rfl) ?_
          refine oV vT ?_
          refine oV vM ?_
          refine o_guard_t rfl rfl (fun g5 => ?_) (fun g5 => ?_)
          · refine oV (vF 5 Tryz.underlying32 ti22) ?_
            refine oN ?_
            refine oV (vL lone22) ?_
            refine oN ?_
            refine oV (vF 5 Tryz.underlying32 ti22) ?_
            refine oN ?_
            refine oV (vL lone22) ?_
            refine oN ?_
            refine o_step (s_callf_keep cl45 (c1) rfl (dd rfl) (rX (by repeat constructor)) (fun _ => sX) (fun _ _ => ?_))
            refine oV vT ?_
            refine oV vM ?_
            refine o_guard rfl rfl (fun g6 => ?_) (fun g6 => ?_)
            · refine oV (vF 6 Tryz.underlying32 ti23) ?_
              refine oN ?_
              refine oV (vL lone23) ?_
              refine oN ?_
              refine oV (vF 6 Tryz.underlying32 ti23) ?_
              refine oN ?_
              refine oV (vL lone23) ?_
              refine oN ?_
              refine o_step (s_callf_keep cl46 (c2) rfl (dd rfl) (rX (by repeat constructor)) (fun _ => sX) (fun _ _ => ?_))
              refine oV vT ?_
              refine oV vM ?_
              refine o_guard rfl rfl (fun g7 => ?_) (fun g7 => ?_)
              · refine oV (vF 7 Tryz.underlying32 ti30) ?_
                refine oN ?_
                refine oV (vL lone30) ?_
                refine oN ?_
                refine oV (vF 7 Tryz.underlying32 ti30) ?_
                refine oN ?_
                refine oV (vL lone30) ?_
                refine oN ?_
                refine o_step (s_callf_keep cl47 (c3) rfl (dd rfl) (rX (by repeat constructor)) (fun _ => sX) (fun _ _ => ?_))
                refine oV vT ?_
                refine oV vA ?_
                refine o_nil ?_
                refine c_ret1 Tryz.func15 rfl rfl fun w O hS => ?_
                exact ⟨(), congrArg Value.bool (decide_eq_decide.2 ⟨fun h => rq_ext.2 ⟨g1, g2, g3, g4, g5, of_decide_eq_true g6, of_decide_eq_true g7, h⟩, fun h => by rw [h]⟩), trivial, trivial⟩
              · skip
                iterate 5 refine oX ?_
                refine oV vQ ?_
                refine oV vA ?_
                refine o_nil ?_
                refine c_ret1 Tryz.func15 rfl rfl fun w O hS => ?_
                exact ⟨(), congrArg Value.bool (decide_eq_false fun h => of_decide_eq_false g7 (by rw [h])).symm, trivial, trivial⟩
            · skip
              iterate 5 refine oX ?_
              refine oV vQ ?_
              refine oV vM ?_
              iterate 5 refine oX ?_
              refine oV vQ ?_
              refine oV vA ?_
              refine o_nil ?_
              refine c_ret1 Tryz.func15 rfl rfl fun w O hS => ?_
              exact ⟨(), congrArg Value.bool (decide_eq_false fun h => of_decide_eq_false g6 (by rw [h])).symm, trivial, trivial⟩
          · skip
            iterate 5 refine oX ?_
            refine oV vQ ?_
            refine oV vM ?_
            iterate 5 refine oX ?_
            refine oV vQ ?_
            refine oV vM ?_
            iterate 5 refine oX ?_
            refine oV vQ ?_
            refine oV vA ?_
            refine o_nil ?_
            refine c_ret1 Tryz.func15 rfl rfl fun w O hS => ?_
            exact ⟨(), congrArg Value.bool (decide_eq_false fun h => g5 (by rw [h])).symm, trivial, trivial⟩
        · skip
          iterate 5 refine oX ?_
          refine oV vQ ?_
          refine oV vM ?_
          iterate 5 refine oX ?_
          refine oV vQ ?_
          refine oV vM ?_
          iterate 5 refine oX ?_
          refine oV vQ ?_
          refine oV vM ?_
          iterate 5 refine oX ?_
          refine oV vQ ?_
          refine oV vA ?_
          refine o_nil ?_
          refine c_ret1 Tryz.func15 rfl rfl fun w O hS => ?_
          exact ⟨(), congrArg Value.bool (decide_eq_false fun h => g4 (by rw [h])).symm, trivial, trivial⟩
      · skip
        iterate 5 refine oX ?_
        refine oV vQ ?_
        refine oV vM ?_
        iterate 5 refine oX ?_
        refine oV vQ ?_
        refine oV vM ?_
        iterate 5 refine oX ?_
        refine oV vQ ?_
        refine oV vM ?_
        iterate 5 refine oX ?_
        refine oV vQ ?_
        refine oV vM ?_
        iterate 5 refine oX ?_
        refine oV vQ ?_
        refine oV vA ?_
        refine o_nil ?_
        refine c_ret1 Tryz.func15 rfl rfl fun w O hS => ?_
        exact ⟨(), congrArg Value.bool (decide_eq_false fun h => g3 (by rw [h])).symm, trivial, trivial⟩
    · skip
      iterate 5 refine oX ?_
      refine oV vQ ?_
      refine oV vM ?_
      iterate 5 refine oX ?_
      refine oV vQ ?_
      refine oV vM ?_
      iterate 5 refine oX ?_
      refine oV vQ ?_
      refine oV vM ?_
      iterate 5 refine oX ?_
      refine oV vQ ?_
      refine oV vM ?_
      iterate 5 refine oX ?_
      refine oV vQ ?_
      refine oV vM ?_
      iterate 5 refine oX ?_
      refine oV vQ ?_
      refine oV vA ?_
      refine o_nil ?_
      refine c_ret1 Tryz.func15 rfl rfl fun w O hS => ?_
      exact ⟨(), congrArg Value.bool (decide_eq_false fun h => g2 (by rw [h])).symm, trivial, trivial⟩
  · skip
    iterate 5 refine oX ?_
    refine oV vQ ?_
    refine oV vM ?_
    iterate 5 refine oX ?_
    refine oV vQ ?_
    refine oV vM ?_
    iterate 5 refine oX ?_
    refine oV vQ ?_
    refine oV vM ?_
    iterate 5 refine oX ?_
    refine oV vQ ?_
    refine oV vM ?_
    iterate 5 refine oX ?_
    refine oV vQ ?_
    refine oV vM ?_
    iterate 5 refine oX ?_
    refine oV vQ ?_
    refine oV vM ?_
    iterate 5 refine oX ?_
    refine oV vQ ?_
    refine oV vA ?_
    refine o_nil ?_
    refine c_ret1 Tryz.func15 rfl rfl fun w O hS => ?_
    exact ⟨(), congrArg Value.bool (decide_eq_false fun h => g1 (by rw [h])).symm, trivial, trivial⟩
set_option maxRecDepth 100000 in
theorem sameRes_con (x y : Rs9) (l i t n l' i' t' n' : Value) (hx : SizeS x) (hy : SizeS y) : Con Tryz.prog 34 [.agg #[.int .i64 x.1, .int .i64 x.2.1, l, i, t, n], .agg #[.int .i64 y.1, .int .i64 y.2.1, l', i', t', n']] [Sl ePr l x.2.2.1, Sl (eInt .i64) i x.2.2.2.1, Sl eStr t x.2.2.2.2.1, Sl eNt n x.2.2.2.2.2, Sl ePr l' y.2.2.1, Sl (eInt .i64) i' y.2.2.2.1, Sl eStr t' y.2.2.2.2.1, Sl eNt n' y.2.2.2.2.2] (γ := Unit) (fun _ => .bool (decide (x = y))) (fun _ => True) (fun _ => []) := by
  have c1 := samePrims_con l l' x.2.2.1 y.2.2.1 hx.1 hy.1
  have c2 := eqInts_con i i' x.2.2.2.1 y.2.2.2.1 hx.2.1 hy.2.1
  have c3 := same_con t t' x.2.2.2.2.1 y.2.2.2.2.1 hx.2.2.1 hy.2.2.1
  have c4 := eqNotes_con n n' x.2.2.2.2.2 y.2.2.2.2.2 hx.2.2.2 hy.2.2.2
  refine con_of Tryz.func34 rfl (dd rfl) fun w0 O0 => ?_
  refine c_seq (c_region ?_)
  refine o_step (s_box rfl (dd rfl) (fun b2 => ?_))
  refine o_step (s_box rfl (dd rfl) (fun b3 => ?_))
  refine oV vA ?_
  refine o_nil (c_seq (c_region ?_))
  refine oV (vF 0 Tryz.underlying55 ti3) ?_
  refine oV (vL lone3) ?_
  refine oV (vF 0 Tryz.underlying55 ti3) ?_
  refine oV (vL lone3) ?_
  refine oV (v_eq rfl rfl) ?_
  refine oV vM ?_
  refine o_guard_t rfl rfl (fun g1 => ?_) (fun g1 => ?_)
  · refine oV (vF 1 Tryz.underlying55 ti3) ?_
    refine oN ?_
    refine oV (vL lone3) ?_
    refine oN ?_
    refine oV (vF 1 Tryz.underlying55 ti3) ?_
    refine oN ?_
    refine oV (vL lone3) ?_
    refine oN ?_
    refine oV (v_eq rfl rfl) ?_
    refine oV vT ?_
    refine oV vM ?_
    refine o_guard_t rfl rfl (fun g2 => ?_) (fun g2 => ?_)
    · refine oV (vF 2 Tryz.underlying55 ti30) ?_
      refine oN ?_
      refine oV (vL lone30) ?_
      refine oN ?_
      refine oV (vF 2 Tryz.underlying55 ti30) ?_
      refine oN ?_
      refine oV (vL lone30) ?_
      refine oN ?_
      refine o_step (s_callf_keep cl47 (c1) rfl (dd rfl) (rX (by repeat constructor)) (fun _ => sX) (fun _ _ => ?_))
      refine oV vT ?_
      refine oV vM ?_
      refine o_guard rfl rfl (fun g3 => ?_) (fun g3 => ?_)
      · refine oV (vF 3 Tryz.underlying55 ti22) ?_
        refine oN ?_
        refine oV (vL lone22) ?_
        refine oN ?_
        refine oV (vF 3 Tryz.underlying55 ti22) ?_
        refine oN ?_
        refine oV (vL lone22) ?_
        refine oN ?_
        refine o_step (s_callf_keep cl45 (c2) rfl (dd rfl) (rX (by repeat constructor)) (fun _ => sX) (fun _ _ => ?_))
        refine oV vT ?_
        refine oV vM ?_
        refine o_guard rfl rfl (fun g4 => ?_) (fun g4 => ?_)
        · refine oV (vF 4 Tryz.underlying55 ti23) ?_
          refine oN ?_
          refine oV (vL lone23) ?_
          refine oN ?_
          refine oV (vF 4 Tryz.underlying55 ti23) ?_
          refine oN ?_
          refine oV (vL lone23) ?_
          refine oN ?_
          refine o_step (s_callf_keep cl46 (c3) rfl (dd rfl) (rX (by repeat constructor)) (fun _ => sX) (fun _ _ => ?_))
          refine oV vT ?_
          refine oV vM ?_
          refine o_guard rfl rfl (fun g5 => ?_) (fun g5 => ?_)
          · refine oV (vF 5 Tryz.underlying55 ti53) ?_
            refine oN ?_
            refine oV (vL lone53) ?_
            refine oN ?_
            refine oV (vF 5 Tryz.underlying55 ti53) ?_
            refine oN ?_
            refine oV (vL lone53) ?_
            refine oN ?_
            refine o_step (s_callf_keep cl78 (c4) rfl (dd rfl) (rX (by repeat constructor)) (fun _ => sX) (fun _ _ => ?_))
            refine oV vT ?_
            refine oV vA ?_
            refine o_nil ?_
            refine c_ret1 Tryz.func34 rfl rfl fun w O hS => ?_
            exact ⟨(), congrArg Value.bool (decide_eq_decide.2 ⟨fun h => rs_ext.2 ⟨g1, g2, of_decide_eq_true g3, of_decide_eq_true g4, of_decide_eq_true g5, h⟩, fun h => by rw [h]⟩), trivial, trivial⟩
          · skip
            iterate 5 refine oX ?_
            refine oV vQ ?_
            refine oV vA ?_
            refine o_nil ?_
            refine c_ret1 Tryz.func34 rfl rfl fun w O hS => ?_
            exact ⟨(), congrArg Value.bool (decide_eq_false fun h => of_decide_eq_false g5 (by rw [h])).symm, trivial, trivial⟩
        · skip
          iterate 5 refine oX ?_
          refine oV vQ ?_
          refine oV vM ?_
          iterate 5 refine oX ?_
          refine oV vQ ?_
          refine oV vA ?_
          refine o_nil ?_
          refine c_ret1 Tryz.func34 rfl rfl fun w O hS => ?_
          exact ⟨(), congrArg Value.bool (decide_eq_false fun h => of_decide_eq_false g4 (by rw [h])).symm, trivial, trivial⟩
      · skip
        iterate 5 refine oX ?_
        refine oV vQ ?_
        refine oV vM ?_
        iterate 5 refine oX ?_
        refine oV vQ ?_
        refine oV vM ?_
        iterate 5 refine oX ?_
        refine oV vQ ?_
        refine oV vA ?_
        refine o_nil ?_
        refine c_ret1 Tryz.func34 rfl rfl fun w O hS => ?_
        exact ⟨(), congrArg Value.bool (decide_eq_false fun h => of_decide_eq_false g3 (by rw [h])).symm, trivial, trivial⟩
    · skip
      iterate 5 refine oX ?_
      refine oV vQ ?_
      refine oV vM ?_
      iterate 5 refine oX ?_
      refine oV vQ ?_
      refine oV vM ?_
      iterate 5 refine oX ?_
      refine oV vQ ?_
      refine oV vM ?_
      iterate 5 refine oX ?_
      refine oV vQ ?_
      refine oV vA ?_
      refine o_nil ?_
      refine c_ret1 Tryz.func34 rfl rfl fun w O hS => ?_
      exact ⟨(), congrArg Value.bool (decide_eq_false fun h => g2 (by rw [h])).symm, trivial, trivial⟩
  · skip
    iterate 5 refine oX ?_
    refine oV vQ ?_
    refine oV vM ?_
    iterate 5 refine oX ?_
    refine oV vQ ?_
    refine oV vM ?_
    iterate 5 refine oX ?_
    refine oV vQ ?_
    refine oV vM ?_
    iterate 5 refine oX ?_
    refine oV vQ ?_
    refine oV vM ?_
    iterate 5 refine oX ?_
    refine oV vQ ?_
    refine oV vA ?_
    refine o_nil ?_
    refine c_ret1 Tryz.func34 rfl rfl fun w O hS => ?_
    exact ⟨(), congrArg Value.bool (decide_eq_false fun h => g1 (by rw [h])).symm, trivial, trivial⟩
set_option maxRecDepth 100000 in
theorem sameResR_con (x y : Rs9) (l i t n l' i' t' n' : Value) (hx : SizeS x) (hy : SizeS y) : Con Tryz.prog 31 [.agg #[.int .i64 x.1, .int .i64 x.2.1, l, i, t, n], .agg #[.int .i64 y.1, .int .i64 y.2.1, l', i', t', n']] [Sl ePr l x.2.2.1, Sl (eInt .i64) i x.2.2.2.1, Sl eStr t x.2.2.2.2.1, Sl eNt n x.2.2.2.2.2, Sl ePr l' y.2.2.1, Sl (eInt .i64) i' y.2.2.2.1, Sl eStr t' y.2.2.2.2.1, Sl eNt n' y.2.2.2.2.2] (γ := Unit) (fun _ => .bool (decide (x = y))) (fun _ => True) (fun _ => []) := by
  have c1 := allR_con l l' x.2.2.1 y.2.2.1 hx.1 hy.1
  have c2 := numsR_con i i' x.2.2.2.1 y.2.2.2.1 hx.2.1 hy.2.1
  have c3 := same_ref_con t t' x.2.2.2.2.1 y.2.2.2.2.1 hx.2.2.1 hy.2.2.1
  have c4 := notesR_con n n' x.2.2.2.2.2 y.2.2.2.2.2 hx.2.2.2 hy.2.2.2
  refine con_of Tryz.func31 rfl (dd rfl) fun w0 O0 => ?_
  refine c_seq (c_region ?_)
  refine o_step (s_box rfl (dd rfl) (fun b2 => ?_))
  refine o_step (s_box rfl (dd rfl) (fun b3 => ?_))
  refine oV vA ?_
  refine o_nil (c_seq (c_region ?_))
  refine oV (vF 0 Tryz.underlying50 ti3) ?_
  refine oV (vL lone3) ?_
  refine oV (vF 0 Tryz.underlying50 ti3) ?_
  refine oV (vL lone3) ?_
  refine oV (v_eq rfl rfl) ?_
  refine oV vM ?_
  refine o_guard_t rfl rfl (fun g1 => ?_) (fun g1 => ?_)
  · refine oV (vF 1 Tryz.underlying50 ti3) ?_
    refine oN ?_
    refine oV (vL lone3) ?_
    refine oN ?_
    refine oV (vF 1 Tryz.underlying50 ti3) ?_
    refine oN ?_
    refine oV (vL lone3) ?_
    refine oN ?_
    refine oV (v_eq rfl rfl) ?_
    refine oV vT ?_
    refine oV vM ?_
    refine o_guard_t rfl rfl (fun g2 => ?_) (fun g2 => ?_)
    · refine oV (vF 2 Tryz.underlying50 ti24) ?_
      refine oN ?_
      refine oV (vL lone24) ?_
      refine oN ?_
      refine oV (vF 2 Tryz.underlying50 ti24) ?_
      refine oN ?_
      refine oV (vL lone24) ?_
      refine oN ?_
      refine o_step (s_callf_keep cl37 (c1) rfl (dd rfl) (rX (by repeat constructor)) (fun _ => sX) (fun _ _ => ?_))
      refine oV vT ?_
      refine oV vM ?_
      refine o_guard rfl rfl (fun g3 => ?_) (fun g3 => ?_)
      · refine oV (vF 3 Tryz.underlying50 ti22) ?_
        refine oN ?_
        refine oV (vL lone22) ?_
        refine oN ?_
        refine oV (vF 3 Tryz.underlying50 ti22) ?_
        refine oN ?_
        refine oV (vL lone22) ?_
        refine oN ?_
        refine o_step (s_callf_keep cl48 (c2) rfl (dd rfl) (rX (by repeat constructor)) (fun _ => sX) (fun _ _ => ?_))
        refine oV vT ?_
        refine oV vM ?_
        refine o_guard rfl rfl (fun g4 => ?_) (fun g4 => ?_)
        · refine oV (vF 4 Tryz.underlying50 ti23) ?_
          refine oN ?_
          refine oV (vL lone23) ?_
          refine oN ?_
          refine oV (vF 4 Tryz.underlying50 ti23) ?_
          refine oN ?_
          refine oV (vL lone23) ?_
          refine oN ?_
          refine o_step (s_callf_keep cl49 (c3) rfl (dd rfl) (rX (by repeat constructor)) (fun _ => sX) (fun _ _ => ?_))
          refine oV vT ?_
          refine oV vM ?_
          refine o_guard rfl rfl (fun g5 => ?_) (fun g5 => ?_)
          · refine oV (vF 5 Tryz.underlying50 ti48) ?_
            refine oN ?_
            refine oV (vL lone48) ?_
            refine oN ?_
            refine oV (vF 5 Tryz.underlying50 ti48) ?_
            refine oN ?_
            refine oV (vL lone48) ?_
            refine oN ?_
            refine o_step (s_callf_keep cl35 (c4) rfl (dd rfl) (rX (by repeat constructor)) (fun _ => sX) (fun _ _ => ?_))
            refine oV vT ?_
            refine oV vA ?_
            refine o_nil ?_
            refine c_ret1 Tryz.func31 rfl rfl fun w O hS => ?_
            exact ⟨(), congrArg Value.bool (decide_eq_decide.2 ⟨fun h => rs_ext.2 ⟨g1, g2, of_decide_eq_true g3, of_decide_eq_true g4, of_decide_eq_true g5, h⟩, fun h => by rw [h]⟩), trivial, trivial⟩
          · skip
            iterate 5 refine oX ?_
            refine oV vQ ?_
            refine oV vA ?_
            refine o_nil ?_
            refine c_ret1 Tryz.func31 rfl rfl fun w O hS => ?_
            exact ⟨(), congrArg Value.bool (decide_eq_false fun h => of_decide_eq_false g5 (by rw [h])).symm, trivial, trivial⟩
        · skip
          iterate 5 refine oX ?_
          refine oV vQ ?_
          refine oV vM ?_
          iterate 5 refine oX ?_
          refine oV vQ ?_
          refine oV vA ?_
          refine o_nil ?_
          refine c_ret1 Tryz.func31 rfl rfl fun w O hS => ?_
          exact ⟨(), congrArg Value.bool (decide_eq_false fun h => of_decide_eq_false g4 (by rw [h])).symm, trivial, trivial⟩
      · skip
        iterate 5 refine oX ?_
        refine oV vQ ?_
        refine oV vM ?_
        iterate 5 refine oX ?_
        refine oV vQ ?_
        refine oV vM ?_
        iterate 5 refine oX ?_
        refine oV vQ ?_
        refine oV vA ?_
        refine o_nil ?_
        refine c_ret1 Tryz.func31 rfl rfl fun w O hS => ?_
        exact ⟨(), congrArg Value.bool (decide_eq_false fun h => of_decide_eq_false g3 (by rw [h])).symm, trivial, trivial⟩
    · skip
      iterate 5 refine oX ?_
      refine oV vQ ?_
      refine oV vM ?_
      iterate 5 refine oX ?_
      refine oV vQ ?_
      refine oV vM ?_
      iterate 5 refine oX ?_
      refine oV vQ ?_
      refine oV vM ?_
      iterate 5 refine oX ?_
      refine oV vQ ?_
      refine oV vA ?_
      refine o_nil ?_
      refine c_ret1 Tryz.func31 rfl rfl fun w O hS => ?_
      exact ⟨(), congrArg Value.bool (decide_eq_false fun h => g2 (by rw [h])).symm, trivial, trivial⟩
  · skip
    iterate 5 refine oX ?_
    refine oV vQ ?_
    refine oV vM ?_
    iterate 5 refine oX ?_
    refine oV vQ ?_
    refine oV vM ?_
    iterate 5 refine oX ?_
    refine oV vQ ?_
    refine oV vM ?_
    iterate 5 refine oX ?_
    refine oV vQ ?_
    refine oV vM ?_
    iterate 5 refine oX ?_
    refine oV vQ ?_
    refine oV vA ?_
    refine o_nil ?_
    refine c_ret1 Tryz.func31 rfl rfl fun w O hS => ?_
    exact ⟨(), congrArg Value.bool (decide_eq_false fun h => g1 (by rw [h])).symm, trivial, trivial⟩
end Go.Proofs.YtlfehnnmpkohkaaGreatDoor
/- Chapter 16: what all kinds need: ids, dependences, files. -/
namespace Go.Proofs.YtlfehnnmpkohkaaGreatDoor
open Go Go.SL Go.Lib
abbrev ptr1 (b : Nat) : Value := .pointer (some ⟨b, 0, none⟩)
theorem deps_step {i last : Int} {l : List Int} {k : Nat} (hk : k < l.length) : depsP i last (l.drop k) = (!decide (l[k] ≤ last ∨ 1000000000 < l[k] ∨ l[k] = i) && depsP i l[k] (l.drop (k + 1))) := by
  rw [List.drop_eq_getElem_cons hk, depsP]
  congr 1
  rw [Bool.eq_iff_iff]
  simp only [Bool.and_eq_true, decide_eq_true_eq, Bool.not_eq_true', decide_eq_false_iff_not]
  omega
theorem files_step {last : ByteArray} {l : List ByteArray} {k : Nat} (hk : k < l.length) : filesP last (l.drop k) = (!(!namedP l[k] || (Op.bytesLess l[k].data.toList last.data.toList || decide (l[k] = last))) && filesP l[k] (l.drop (k + 1))) := by
  rw [List.drop_eq_getElem_cons hk, filesP]
  simp only [Bool.not_or, Bool.not_not]
attribute [local irreducible] Cfg Kont StepK Val Con Qops Any Sl Own Blk BlkR Rd Pu ExA AllA Has Pick Ent Elem Beside Callable TI Lone OwnO AndA
set_option maxRecDepth 100000 in
theorem id_con (c0 c1 c3 c4 c5 c6 c7 : Value) (i : Int) : Con Tryz.prog 91 [.agg #[c0, c1, .int .i64 i, c3, c4, c5, c6, c7]] [] (γ := Unit) (fun _ => .bool (decide (1 ≤ i ∧ i ≤ 1000000000))) (fun _ => True) (fun _ => []) := by
  refine con_of Tryz.func91 rfl (dd rfl) fun w0 O0 => ?_
  refine c_seq (c_region ?_)
  refine o_step (s_box rfl (dd rfl) (fun b1 => ?_))
  refine oV vA ?_
  refine o_nil (c_seq (c_region ?_))
  refine oV (vF 2 Tryz.underlying32 ti3) ?_
  refine oV (vL lone3) ?_
  refine oV (v_ge rfl rfl) ?_
  refine oV vM ?_
  refine o_guard_t rfl rfl (fun g => ?_) (fun g => ?_)
  · refine oV (vF 2 Tryz.underlying32 ti3) ?_
    refine oN ?_
    refine oV (vL lone3) ?_
    refine oN ?_
    refine oV (v_le rfl rfl) ?_
    refine oV vT ?_
    refine oV vA ?_
    refine o_nil ?_
    refine c_ret1 Tryz.func91 rfl rfl fun w O hS => ?_
    exact ⟨(), congrArg Value.bool (decide_eq_decide.2 ⟨fun h => ⟨g, h⟩, fun h => h.2⟩), trivial, trivial⟩
  · refine oX ?_
    iterate 2 refine oX ?_
    refine oV vQ ?_
    refine oV vA ?_
    refine o_nil ?_
    refine c_ret1 Tryz.func91 rfl rfl fun w O hS => ?_
    exact ⟨(), congrArg Value.bool (decide_eq_false fun h => g h.1).symm, trivial, trivial⟩
set_option maxRecDepth 100000 in
theorem wrongD_con (n last : Int) (bl bq : Nat) (i : Int) (c0 c1 c3 c4 c5 c6 c7 : Value) : Con Tryz.prog 132 [.int .i64 n, ptr1 bl, ptr1 bq] [Blk bl 3 [.int .i64 last], BlkR bq 32 [c0, c1, .int .i64 i, c3, c4, c5, c6, c7]] (γ := Unit) (fun _ => .bool (decide (n ≤ last ∨ 1000000000 < n ∨ n = i))) (fun _ => True) (fun _ => [Blk bl 3 [.int .i64 n]]) := by
  refine con_of Tryz.func132 rfl (dd rfl) fun w0 O0 => ?_
  refine c_seq (c_region ?_)
  refine oV vA ?_
  refine o_nil (c_seq ?_)
  refine c_env (env' := [(0, _), (1, _), (2, _), (4, _)]) (by repeat (first | exact trivial | refine ⟨rfl, ?_⟩)) ?_
  refine c_joinb (d := 5) (decide (n ≤ last ∨ 1000000000 < n ∨ n = i)) ?_ ?_
  rotate_left
  · intro J
    refine c_region ?_
    refine oV vM ?_
    refine oV (vL lone3) ?_
    refine oV (v_le rfl rfl) ?_
    refine oV vM ?_
    first | refine o_guard_f rfl rfl (fun g9 => ?_) (fun g9 => ?_) | refine o_guard rfl rfl (fun g9 => ?_) (fun g9 => ?_)
    · refine oV vM ?_
      refine oN ?_
      refine oV (v_gt rfl rfl) ?_
      refine oV vQ ?_
      refine oV vM ?_
      first | refine o_guard_f rfl rfl (fun g13 => ?_) (fun g13 => ?_) | refine o_guard rfl rfl (fun g13 => ?_) (fun g13 => ?_)
      · refine oV vM ?_
        refine oN ?_
        refine oV (vF 2 Tryz.underlying32 ti3) ?_
        refine oN ?_
        refine oV (vL lone3) ?_
        refine oN ?_
        refine oV (v_eq rfl rfl) ?_
        refine oV vQ ?_
        refine oV vA ?_
        refine o_nil ?_
        exact cJ J rfl (by first | rfl | (simp_all; done) | (simp_all; omega) | exact decide_eq_decide.2 (by omega) | exact (decide_eq_true (by omega)).symm)
      · refine oX ?_
        iterate 3 refine oX ?_
        refine oV vT ?_
        refine oV vA ?_
        refine o_nil ?_
        exact cJ J rfl (by first | rfl | (simp_all; done) | (simp_all; omega) | exact decide_eq_decide.2 (by omega) | exact (decide_eq_true (by omega)).symm)
    · refine oX ?_
      refine oX ?_
      refine oV vT ?_
      refine oV vM ?_
      iterate 4 refine oX ?_
      refine oV vT ?_
      refine oV vA ?_
      refine o_nil ?_
      exact cJ J rfl (by first | rfl | (simp_all; done) | (simp_all; omega) | exact decide_eq_decide.2 (by omega) | exact (decide_eq_true (by omega)).symm)
  refine c_seq (c_region ?_)
  refine oV vM ?_
  refine o_step (s_store1 ti3 rfl rfl (by first | exact OneC.lit rfl | exact OneC.sl (hX (by repeat constructor)) ) (pB (by repeat constructor)) (by first | decide | exact Nat.le_of_ble_eq_true rfl | simp) (by first | (dsimp only [List.set_cons_succ, List.set_cons_zero]; first | done | exact rfl) | rfl) (?_))
  refine o_nil (c_seq (c_region ?_))
  refine oV vM ?_
  refine oV vA ?_
  refine o_nil ?_
  refine c_ret1 Tryz.func132 rfl rfl fun w O hS => ?_
  exact ⟨(), rfl, trivial, Ent.get hS (eX (by repeat constructor))⟩
set_option maxRecDepth 100000 in
theorem indexD_con (v : Value) (d : List Int) (bl bq : Nat) (i : Int) (c0 c1 c3 c4 c5 c6 c7 : Value) (hd : d.length ≤ 1000000) : Con Tryz.prog 158 [v, .func (.func 132) #[] #[ptr1 bl, ptr1 bq]] [Sl (eInt .i64) v d, Blk bl 3 [.int .i64 0], BlkR bq 32 [c0, c1, .int .i64 i, c3, c4, c5, c6, c7]] (γ := Int) (fun r => .int .i64 r) (fun r => 0 ≤ r ↔ depsP i 0 d = false) (fun _ => []) := by
  refine con_of Tryz.func158 rfl (dd rfl) fun w0 O0 => ?_
  refine c_seq (c_region ?_)
  refine oV vA ?_
  refine o_nil (c_seq (c_seq (c_region ?_)))
  refine oV vM ?_
  refine oV ((by first | exact v_len_form Tryz.underlying22 rfl | exact v_len_sl Tryz.underlying22 rfl (hX (by repeat constructor)))) ?_
  refine oV vM ?_
  refine o_nil (c_block ?_)
  refine c_loopR (γ := Nat × Int) [(0, _), (1, _), (4, _), (7, _)] (fun k => d.length - k.1) (fun k => k.1 ≤ d.length ∧ depsP i 0 d = depsP i k.2 (d.drop k.1)) (fun k => [(8, .int .i64 k.1)]) (fun k => [Sl (eInt .i64) v d, Blk bl 3 [.int .i64 k.2], BlkR bq 32 [c0, c1, .int .i64 i, c3, c4, c5, c6, c7]]) ((0, 0)) (⟨Nat.zero_le _, rfl⟩) (by repeat (first | exact trivial | refine ⟨rfl, ?_⟩)) (eX (by repeat constructor)) ?_
  rintro ⟨k, last⟩ ⟨hk, hc⟩ IH
  dsimp only at hk hc ⊢
  try dsimp only [List.cons_append, List.nil_append]
  refine c_seq (c_region ?_)
  refine oV (v_lt rfl rfl) ?_
  refine o_nil (c_seq ?_)
  refine c_cond_p rfl (fun hlt => ?_) (fun hlt => ?_)
  · have hk' : k < d.length := by omega
    have hW := wrongD_con d[k] last bl bq i c0 c1 c3 c4 c5 c6 c7
    rw [deps_step hk'] at hc
    refine c_skip (c_seq (c_block (c_seq (c_region ?_))))
    refine oV vM ?_
    refine oV vA ?_
    refine o_nil (c_seq (c_region ?_))
    iterate 3 refine oV vM ?_
    refine oV ((by first | exact v_indexAddrN Tryz.underlying22 ti3 rfl rfl (hX (by repeat constructor)) (by omega) | exact v_indexAddr Tryz.underlying22 ti3 rfl rfl (hX (by repeat constructor)) (by omega))) ?_
    refine oV (v_load_int lone3 rfl (by repeat (first | exact Elem.sl (List.getElem?_eq_getElem (by omega)) | exact Elem.own (List.getElem?_eq_getElem (by omega)) | exact Elem.ownO (List.getElem?_eq_getElem (by omega)) | apply Elem.there))) ?_
    refine o_step (s_call cl132 (hW) (first := []) (cap := [ptr1 bl, ptr1 bq]) rfl rfl (by rfl) (dd rfl) (pXs (by repeat constructor)) fun _ _ => ?_)
    refine o_nil ?_
    refine c_cond_p rfl (fun hb => ?_) (fun hb => ?_)
    · rw [decide_eq_true hb] at hc
      refine c_seq (c_region ?_)
      refine oV vM ?_
      refine oV vA ?_
      refine o_nil ?_
      refine c_ret1 Tryz.func158 rfl rfl fun w O hS => ?_
      exact ⟨k, rfl, ⟨fun _ => hc, fun _ => by omega⟩, trivial⟩
    · rw [decide_eq_false hb] at hc
      refine c_skip (c_inBlock (c_region ?_))
      refine oV ((by first | exact v_add64 rfl rfl (by omega) | exact v_add rfl rfl)) ?_
      refine oV vM ?_
      refine o_nil ?_
      refine cU (IH ((k + 1, d[k])) (by first | omega | (dsimp only; omega)) (⟨by dsimp only; omega, hc⟩))
  · rw [List.drop_of_length_le (by omega)] at hc
    refine c_exit rfl ?_
    refine c_seq (c_region ?_)
    refine oV vA ?_
    refine o_nil ?_
    refine c_ret1 Tryz.func158 rfl rfl fun w O hS => ?_
    exact ⟨-1, rfl, ⟨fun h => absurd h (by decide), fun h => by rw [hc] at h; cases h⟩, trivial⟩
set_option maxRecDepth 100000 in
theorem containsD_con (v : Value) (d : List Int) (bl bq : Nat) (i : Int) (c0 c1 c3 c4 c5 c6 c7 : Value) (hd : d.length ≤ 1000000) : Con Tryz.prog 131 [v, .func (.func 132) #[] #[ptr1 bl, ptr1 bq]] [Sl (eInt .i64) v d, Blk bl 3 [.int .i64 0], BlkR bq 32 [c0, c1, .int .i64 i, c3, c4, c5, c6, c7]] (γ := Unit) (fun _ => .bool (!depsP i 0 d)) (fun _ => True) (fun _ => []) := by
  have hI := indexD_con v d bl bq i c0 c1 c3 c4 c5 c6 c7 hd
  refine con_of Tryz.func131 rfl (dd rfl) fun w0 O0 => ?_
  refine c_seq (c_region ?_)
  refine oV vA ?_
  refine o_nil (c_seq (c_region ?_))
  iterate 2 refine oV vM ?_
  refine oC cl158 (hI) fun r hr => ?_
  refine oV (v_ge rfl rfl) ?_
  refine oV vA ?_
  refine o_nil ?_
  refine c_ret1 Tryz.func131 rfl rfl fun w O hS => ?_
  refine ⟨(), congrArg Value.bool ?_, trivial, trivial⟩
  rw [Bool.eq_iff_iff, decide_eq_true_eq, Bool.not_eq_true', ← hr]
set_option maxRecDepth 100000 in
theorem deps_con (c0 c1 c3 c4 dv c6 c7 : Value) (i : Int) (d : List Int) (hd : d.length ≤ 1000000) : Con Tryz.prog 93 [.agg #[c0, c1, .int .i64 i, c3, c4, dv, c6, c7]] [Sl (eInt .i64) dv d] (γ := Unit) (fun _ => .bool (decide (d.length ≤ 8) && depsP i 0 d)) (fun _ => True) (fun _ => []) := by
  have hD := fun bl bq => containsD_con dv d bl bq i c0 c1 c3 c4 dv c6 c7 hd
  refine con_of Tryz.func93 rfl (dd rfl) fun w0 O0 => ?_
  refine c_seq (c_region ?_)
  refine o_step (s_box rfl (dd rfl) (fun b1 => ?_))
  refine oV vA ?_
  refine o_nil (c_seq (c_region ?_))
  refine o_step (s_alloc ti3 (dd rfl) (fun b3 => ?_))
  refine o_step (s_store1 ti3 rfl rfl (by first | exact OneC.lit rfl | exact OneC.sl (hX (by repeat constructor)) ) (pB (by repeat constructor)) (by first | decide | exact Nat.le_of_ble_eq_true rfl | simp) (by first | (dsimp only [List.set_cons_succ, List.set_cons_zero]; first | done | exact rfl) | rfl) (?_))
  refine o_nil (c_seq (c_region ?_))
  refine oV (vF 5 Tryz.underlying32 ti22) ?_
  refine oV (vL lone22) ?_
  refine oV ((by first | exact v_len_form Tryz.underlying22 rfl | exact v_len_sl Tryz.underlying22 rfl (hX (by repeat constructor)))) ?_
  refine oV (v_le rfl rfl) ?_
  refine oV vM ?_
  refine o_guard_t rfl rfl (fun g => ?_) (fun g => ?_)
  · rw [decide_eq_true (p := d.length ≤ 8) (by omega), Bool.true_and]
    refine oV (vF 5 Tryz.underlying32 ti22) ?_
    refine oN ?_
    refine oV (vL lone22) ?_
    refine oN ?_
    refine oV (v_makeFunc rfl rfl) ?_
    refine oN ?_
    refine o_step (s_callf_mix 2 cl131 (hD b3 b1) rfl (dd rfl) (pXs (by repeat constructor)) (rX (by repeat constructor)) (fun _ => sX) (fun _ _ => ?_))
    refine oN ?_
    refine oV (v_not rfl) ?_
    refine oV vT ?_
    refine oV vA ?_
    refine o_nil ?_
    refine c_ret1 Tryz.func93 rfl rfl fun w O hS => ?_
    exact ⟨(), by rw [Bool.not_not], trivial, trivial⟩
  · rw [decide_eq_false (p := d.length ≤ 8) (by omega), Bool.false_and]
    iterate 5 refine oX ?_
    refine oV vQ ?_
    refine oV vA ?_
    refine o_nil ?_
    refine c_ret1 Tryz.func93 rfl rfl fun w O hS => ?_
    exact ⟨(), rfl, trivial, trivial⟩
set_option maxRecDepth 100000 in
theorem wrongF_con (s last : ByteArray) (bl : Nat) (hs : s.size ≤ 1000000) : Con Tryz.prog 134 [.string s, ptr1 bl] [Blk bl 9 [.string last]] (γ := Unit) (fun _ => .bool (!namedP s || (Op.bytesLess s.data.toList last.data.toList || decide (s = last)))) (fun _ => True) (fun _ => [Blk bl 9 [.string s]]) := by
  have hN := named_con s hs
  refine con_of Tryz.func134 rfl (dd rfl) fun w0 O0 => ?_
  refine c_seq (c_region ?_)
  refine oV vA ?_
  refine o_nil (c_seq (c_region ?_))
  refine oV vM ?_
  refine oC cl86 (hN) fun _ _ => ?_
  refine oV (v_not rfl) ?_
  refine oV vM ?_
  refine o_guard rfl rfl (fun g => ?_) (fun g => ?_)
  · rw [g, Bool.false_or]
    refine oV vM ?_
    refine oN ?_
    refine oV (vL lone9) ?_
    refine oN ?_
    refine oV (v_sle rfl rfl) ?_
    refine oV vQ ?_
    refine oV vA ?_
    refine o_nil (c_seq (c_region ?_))
    refine oV vM ?_
    refine o_step (s_store1 ti9 rfl rfl (by first | exact OneC.lit rfl | exact OneC.sl (hX (by repeat constructor)) ) (pB (by repeat constructor)) (by first | decide | exact Nat.le_of_ble_eq_true rfl | simp) (by first | (dsimp only [List.set_cons_succ, List.set_cons_zero]; first | done | exact rfl) | rfl) (?_))
    refine o_nil (c_seq (c_region ?_))
    refine oV vM ?_
    refine oV vA ?_
    refine o_nil ?_
    refine c_ret1 Tryz.func134 rfl rfl fun w O hS => ?_
    exact ⟨(), rfl, trivial, Ent.get hS (eX (by repeat constructor))⟩
  · have g' : namedP s = false := by simpa using g
    iterate 3 refine oX ?_
    refine oV vT ?_
    refine oV vA ?_
    refine o_nil (c_seq (c_region ?_))
    refine oV vM ?_
    refine o_step (s_store1 ti9 rfl rfl (by first | exact OneC.lit rfl | exact OneC.sl (hX (by repeat constructor)) ) (pB (by repeat constructor)) (by first | decide | exact Nat.le_of_ble_eq_true rfl | simp) (by first | (dsimp only [List.set_cons_succ, List.set_cons_zero]; first | done | exact rfl) | rfl) (?_))
    refine o_nil (c_seq (c_region ?_))
    refine oV vM ?_
    refine oV vA ?_
    refine o_nil ?_
    refine c_ret1 Tryz.func134 rfl rfl fun w O hS => ?_
    exact ⟨(), by rw [g']; rfl, trivial, Ent.get hS (eX (by repeat constructor))⟩
set_option maxRecDepth 100000 in
theorem indexF_con (v : Value) (d : List ByteArray) (bl : Nat) (hd : d.length ≤ 1000000) (hs : ∀ s ∈ d, s.size ≤ 1000000) : Con Tryz.prog 159 [v, .func (.func 134) #[] #[ptr1 bl]] [Sl eStr v d, Blk bl 9 [.string ⟨#[]⟩]] (γ := Int) (fun r => .int .i64 r) (fun r => 0 ≤ r ↔ filesP ⟨#[]⟩ d = false) (fun _ => []) := by
  refine con_of Tryz.func159 rfl (dd rfl) fun w0 O0 => ?_
  refine c_seq (c_region ?_)
  refine oV vA ?_
  refine o_nil (c_seq (c_seq (c_region ?_)))
  refine oV vM ?_
  refine oV ((by first | exact v_len_form Tryz.underlying23 rfl | exact v_len_sl Tryz.underlying23 rfl (hX (by repeat constructor)))) ?_
  refine oV vM ?_
  refine o_nil (c_block ?_)
  refine c_loopR (γ := Nat × ByteArray) [(0, _), (1, _), (4, _), (7, _)] (fun k => d.length - k.1) (fun k => k.1 ≤ d.length ∧ filesP ⟨#[]⟩ d = filesP k.2 (d.drop k.1)) (fun k => [(8, .int .i64 k.1)]) (fun k => [Sl eStr v d, Blk bl 9 [.string k.2]]) ((0, ⟨#[]⟩)) (⟨Nat.zero_le _, rfl⟩) (by repeat (first | exact trivial | refine ⟨rfl, ?_⟩)) (eX (by repeat constructor)) ?_
  rintro ⟨k, last⟩ ⟨hk, hc⟩ IH
  dsimp only at hk hc ⊢
  try dsimp only [List.cons_append, List.nil_append]
  refine c_seq (c_region ?_)
  refine oV (v_lt rfl rfl) ?_
  refine o_nil (c_seq ?_)
  refine c_cond_p rfl (fun hlt => ?_) (fun hlt => ?_)
  · have hk' : k < d.length := by omega
    have hW := wrongF_con d[k] last bl (hs _ (List.getElem_mem hk'))
    rw [files_step hk'] at hc
    refine c_skip (c_seq (c_block (c_seq (c_region ?_))))
    refine oV vM ?_
    refine oV vA ?_
    refine o_nil (c_seq (c_region ?_))
    iterate 3 refine oV vM ?_
    refine oV ((by first | exact v_indexAddrN Tryz.underlying23 ti9 rfl rfl (hX (by repeat constructor)) (by omega) | exact v_indexAddr Tryz.underlying23 ti9 rfl rfl (hX (by repeat constructor)) (by omega))) ?_
    refine oV (v_load_str lone9 rfl (by repeat (first | exact Elem.sl (List.getElem?_eq_getElem (by omega)) | exact Elem.own (List.getElem?_eq_getElem (by omega)) | exact Elem.ownO (List.getElem?_eq_getElem (by omega)) | apply Elem.there))) ?_
    refine o_step (s_call cl134 (hW) (first := []) (cap := [ptr1 bl]) rfl rfl (by rfl) (dd rfl) (pXs (by repeat constructor)) fun _ _ => ?_)
    refine o_nil ?_
    refine c_cond rfl (fun hb => ?_) (fun hb => ?_)
    · rw [hb] at hc
      refine c_seq (c_region ?_)
      refine oV vM ?_
      refine oV vA ?_
      refine o_nil ?_
      refine c_ret1 Tryz.func159 rfl rfl fun w O hS => ?_
      exact ⟨k, rfl, ⟨fun _ => hc, fun _ => by omega⟩, trivial⟩
    · rw [hb] at hc
      refine c_skip (c_inBlock (c_region ?_))
      refine oV ((by first | exact v_add64 rfl rfl (by omega) | exact v_add rfl rfl)) ?_
      refine oV vM ?_
      refine o_nil ?_
      refine cU (IH ((k + 1, d[k])) (by first | omega | (dsimp only; omega)) (⟨by dsimp only; omega, hc⟩))
  · rw [List.drop_of_length_le (by omega)] at hc
    refine c_exit rfl ?_
    refine c_seq (c_region ?_)
    refine oV vA ?_
    refine o_nil ?_
    refine c_ret1 Tryz.func159 rfl rfl fun w O hS => ?_
    exact ⟨-1, rfl, ⟨fun h => absurd h (by decide), fun h => by rw [hc] at h; cases h⟩, trivial⟩
set_option maxRecDepth 100000 in
theorem containsF_con (v : Value) (d : List ByteArray) (bl : Nat) (hd : d.length ≤ 1000000) (hs : ∀ s ∈ d, s.size ≤ 1000000) : Con Tryz.prog 133 [v, .func (.func 134) #[] #[ptr1 bl]] [Sl eStr v d, Blk bl 9 [.string ⟨#[]⟩]] (γ := Unit) (fun _ => .bool (!filesP ⟨#[]⟩ d)) (fun _ => True) (fun _ => []) := by
  have hI := indexF_con v d bl hd hs
  refine con_of Tryz.func133 rfl (dd rfl) fun w0 O0 => ?_
  refine c_seq (c_region ?_)
  refine oV vA ?_
  refine o_nil (c_seq (c_region ?_))
  iterate 2 refine oV vM ?_
  refine oC cl159 (hI) fun r hr => ?_
  refine oV (v_ge rfl rfl) ?_
  refine oV vA ?_
  refine o_nil ?_
  refine c_ret1 Tryz.func133 rfl rfl fun w O hS => ?_
  refine ⟨(), congrArg Value.bool ?_, trivial, trivial⟩
  rw [Bool.eq_iff_iff, decide_eq_true_eq, Bool.not_eq_true', ← hr]
set_option maxRecDepth 100000 in
theorem files_con (c0 c1 c2 c3 c4 c5 fv c7 : Value) (d : List ByteArray) (hd : d.length ≤ 1000000) (hs : ∀ s ∈ d, s.size ≤ 1000000) : Con Tryz.prog 94 [.agg #[c0, c1, c2, c3, c4, c5, fv, c7]] [Sl eStr fv d] (γ := Unit) (fun _ => .bool (decide (d.length ≤ 8) && filesP ⟨#[]⟩ d)) (fun _ => True) (fun _ => []) := by
  have hD := fun bl => containsF_con fv d bl hd hs
  refine con_of Tryz.func94 rfl (dd rfl) fun w0 O0 => ?_
  refine c_seq (c_region ?_)
  refine o_step (s_box rfl (dd rfl) (fun b1 => ?_))
  refine oV vA ?_
  refine o_nil (c_seq (c_region ?_))
  refine o_step (s_alloc ti9 (dd rfl) (fun b3 => ?_))
  refine o_step (s_store1 ti9 rfl rfl (by first | exact OneC.lit rfl | exact OneC.sl (hX (by repeat constructor)) ) (pB (by repeat constructor)) (by first | decide | exact Nat.le_of_ble_eq_true rfl | simp) (by first | (dsimp only [List.set_cons_succ, List.set_cons_zero]; first | done | exact rfl) | rfl) (?_))
  refine o_nil (c_seq (c_region ?_))
  refine oV (vF 6 Tryz.underlying32 ti23) ?_
  refine oV (vL lone23) ?_
  refine oV ((by first | exact v_len_form Tryz.underlying23 rfl | exact v_len_sl Tryz.underlying23 rfl (hX (by repeat constructor)))) ?_
  refine oV (v_le rfl rfl) ?_
  refine oV vM ?_
  refine o_guard_t rfl rfl (fun g => ?_) (fun g => ?_)
  · rw [decide_eq_true (p := d.length ≤ 8) (by omega), Bool.true_and]
    refine oV (vF 6 Tryz.underlying32 ti23) ?_
    refine oN ?_
    refine oV (vL lone23) ?_
    refine oN ?_
    refine oV (v_makeFunc rfl rfl) ?_
    refine oN ?_
    refine oC cl133 (hD b3) fun _ _ => ?_
    refine oN ?_
    refine oV (v_not rfl) ?_
    refine oV vT ?_
    refine oV vA ?_
    refine o_nil ?_
    refine c_ret1 Tryz.func94 rfl rfl fun w O hS => ?_
    exact ⟨(), by rw [Bool.not_not], trivial, trivial⟩
  · rw [decide_eq_false (p := d.length ≤ 8) (by omega), Bool.false_and]
    iterate 5 refine oX ?_
    refine oV vQ ?_
    refine oV vA ?_
    refine o_nil ?_
    refine c_ret1 Tryz.func94 rfl rfl fun w O hS => ?_
    exact ⟨(), rfl, trivial, trivial⟩
end Go.Proofs.YtlfehnnmpkohkaaGreatDoor
/- Chapter 16: what the kinds need, and what is left without it. -/
namespace Go.Proofs.YtlfehnnmpkohkaaGreatDoor
open Go Go.SL Go.Lib
attribute [local irreducible] Cfg Kont StepK Val Con Qops Any Sl Own Blk BlkR Rd Pu ExA AllA Has Pick Ent Elem Beside Callable TI Lone OwnO AndA
set_option maxRecDepth 100000 in
theorem rName_con (q : Rq9) (d f l : Value) : Con Tryz.prog 81 [.agg #[.int .i64 q.1, .int .i64 q.2.1, .int .i64 q.2.2.1, .string q.2.2.2.1, .string q.2.2.2.2.1, d, f, l]] [Sl (eInt .i64) d q.2.2.2.2.2.1, Sl eStr f q.2.2.2.2.2.2.1, Sl ePr l q.2.2.2.2.2.2.2] (γ := Unit) (fun _ => .agg #[.int .i64 q.1, .int .i64 q.2.1, .int .i64 q.2.2.1, .string ⟨#[]⟩, .string q.2.2.2.2.1, d, f, l]) (fun _ => True) (fun _ => []) := by
  refine con_of Tryz.func81 rfl (dd rfl) fun w0 O0 => ?_
  refine c_seq (c_region ?_)
  refine o_step (s_box rfl (dd rfl) (fun b1 => ?_))
  refine o_step (s_alloc ti32 (dd rfl) (fun b2 => ?_))
  refine o_nil (c_seq (c_region ?_))
  refine oV (vF 3 Tryz.underlying32 ti9) ?_
  refine o_step (s_store1 ti9 rfl rfl (by first | exact OneC.lit rfl | exact OneC.sl (hX (by repeat constructor)) ) (pB (by repeat constructor)) (by first | decide | exact Nat.le_of_ble_eq_true rfl | simp) (by first | (dsimp only [List.set_cons_succ, List.set_cons_zero]; first | done | exact rfl) | rfl) (?_))
  refine o_nil (c_seq (c_region ?_))
  refine oV (vW Tryz.underlying32 ti32) ?_
  refine o_step (s_store_all ti32 rfl rfl (by first | exact CellsV.lit rfl | exact CellsV.one (by first | exact OneC.lit rfl | exact OneC.sl (hX (by repeat constructor)) )) (by repeat (first | exact OneAll.nil | (refine OneAll.cons ?_ ?_; · first | exact OneC.lit rfl | exact OneC.sl (hX (by repeat constructor)) ) | exact OneAll.rd (hX (by repeat constructor)))) rfl (pB (by repeat constructor)) rfl (?_))
  refine o_nil ?_
  refine c_ret_cell Tryz.func81 rfl ⟨_, Tryz.underlying32⟩ ti32 rfl (hX (by repeat constructor)) fun w O hS => ?_
  exact ⟨(), rfl, trivial, trivial⟩
set_option maxRecDepth 100000 in
theorem rGroup_con (q : Rq9) (d f l : Value) : Con Tryz.prog 82 [.agg #[.int .i64 q.1, .int .i64 q.2.1, .int .i64 q.2.2.1, .string q.2.2.2.1, .string q.2.2.2.2.1, d, f, l]] [Sl (eInt .i64) d q.2.2.2.2.2.1, Sl eStr f q.2.2.2.2.2.2.1, Sl ePr l q.2.2.2.2.2.2.2] (γ := Unit) (fun _ => .agg #[.int .i64 q.1, .int .i64 q.2.1, .int .i64 0, .string q.2.2.2.1, .string q.2.2.2.2.1, d, .slice none 0 0, l]) (fun _ => True) (fun _ => []) := by
  refine con_of Tryz.func82 rfl (dd rfl) fun w0 O0 => ?_
  refine c_seq (c_region ?_)
  refine o_step (s_box rfl (dd rfl) (fun b1 => ?_))
  refine o_step (s_alloc ti32 (dd rfl) (fun b2 => ?_))
  refine o_nil (c_seq (c_region ?_))
  refine oV (vF 2 Tryz.underlying32 ti3) ?_
  refine o_step (s_store1 ti3 rfl rfl (by first | exact OneC.lit rfl | exact OneC.sl (hX (by repeat constructor)) ) (pB (by repeat constructor)) (by first | decide | exact Nat.le_of_ble_eq_true rfl | simp) (by first | (dsimp only [List.set_cons_succ, List.set_cons_zero]; first | done | exact rfl) | rfl) (?_))
  refine oV (vF 6 Tryz.underlying32 ti23) ?_
  refine o_step (s_store1 ti23 rfl rfl (by first | exact OneC.lit rfl | exact OneC.sl (hX (by repeat constructor)) ) (pB (by repeat constructor)) (by first | decide | exact Nat.le_of_ble_eq_true rfl | simp) (by first | (dsimp only [List.set_cons_succ, List.set_cons_zero]; first | done | exact rfl) | rfl) (?_))
  refine o_nil (c_seq (c_region ?_))
  refine oV (vW Tryz.underlying32 ti32) ?_
  refine o_step (s_store_all ti32 rfl rfl (by first | exact CellsV.lit rfl | exact CellsV.one (by first | exact OneC.lit rfl | exact OneC.sl (hX (by repeat constructor)) )) (by repeat (first | exact OneAll.nil | (refine OneAll.cons ?_ ?_; · first | exact OneC.lit rfl | exact OneC.sl (hX (by repeat constructor)) ) | exact OneAll.rd (hX (by repeat constructor)))) rfl (pB (by repeat constructor)) rfl (?_))
  refine o_nil ?_
  refine c_ret_cell Tryz.func82 rfl ⟨_, Tryz.underlying32⟩ ti32 rfl (hX (by repeat constructor)) fun w O hS => ?_
  exact ⟨(), rfl, trivial, trivial⟩
set_option maxRecDepth 100000 in
theorem rNone_con (q : Rq9) (d f l : Value) : Con Tryz.prog 84 [.agg #[.int .i64 q.1, .int .i64 q.2.1, .int .i64 q.2.2.1, .string q.2.2.2.1, .string q.2.2.2.2.1, d, f, l]] [Sl (eInt .i64) d q.2.2.2.2.2.1, Sl eStr f q.2.2.2.2.2.2.1, Sl ePr l q.2.2.2.2.2.2.2] (γ := Unit) (fun _ => .agg #[.int .i64 q.1, .int .i64 q.2.1, .int .i64 q.2.2.1, .string q.2.2.2.1, .string q.2.2.2.2.1, d, f, l]) (fun _ => True) (fun _ => []) := by
  refine con_of Tryz.func84 rfl (dd rfl) fun w0 O0 => ?_
  refine c_seq (c_region ?_)
  refine o_step (s_box rfl (dd rfl) (fun b1 => ?_))
  refine o_step (s_alloc ti32 (dd rfl) (fun b2 => ?_))
  refine o_nil (c_seq (c_region ?_))
  refine oV (vW Tryz.underlying32 ti32) ?_
  refine o_step (s_store_all ti32 rfl rfl (by first | exact CellsV.lit rfl | exact CellsV.one (by first | exact OneC.lit rfl | exact OneC.sl (hX (by repeat constructor)) )) (by repeat (first | exact OneAll.nil | (refine OneAll.cons ?_ ?_; · first | exact OneC.lit rfl | exact OneC.sl (hX (by repeat constructor)) ) | exact OneAll.rd (hX (by repeat constructor)))) rfl (pB (by repeat constructor)) rfl (?_))
  refine o_nil ?_
  refine c_ret_cell Tryz.func84 rfl ⟨_, Tryz.underlying32⟩ ti32 rfl (hX (by repeat constructor)) fun w O hS => ?_
  exact ⟨(), rfl, trivial, trivial⟩
set_option maxRecDepth 100000 in
theorem rChange_con (q : Rq9) (d f l : Value) : Con Tryz.prog 89 [.agg #[.int .i64 q.1, .int .i64 q.2.1, .int .i64 q.2.2.1, .string q.2.2.2.1, .string q.2.2.2.2.1, d, f, l]] [Sl (eInt .i64) d q.2.2.2.2.2.1, Sl eStr f q.2.2.2.2.2.2.1, Sl ePr l q.2.2.2.2.2.2.2] (γ := Unit) (fun _ => .agg #[.int .i64 q.1, .int .i64 0, .int .i64 q.2.2.1, .string q.2.2.2.1, .string q.2.2.2.2.1, d, f, .slice none 0 0]) (fun _ => True) (fun _ => []) := by
  refine con_of Tryz.func89 rfl (dd rfl) fun w0 O0 => ?_
  refine c_seq (c_region ?_)
  refine o_step (s_box rfl (dd rfl) (fun b1 => ?_))
  refine o_step (s_alloc ti32 (dd rfl) (fun b2 => ?_))
  refine o_nil (c_seq (c_region ?_))
  refine oV (vF 1 Tryz.underlying32 ti3) ?_
  refine o_step (s_store1 ti3 rfl rfl (by first | exact OneC.lit rfl | exact OneC.sl (hX (by repeat constructor)) ) (pB (by repeat constructor)) (by first | decide | exact Nat.le_of_ble_eq_true rfl | simp) (by first | (dsimp only [List.set_cons_succ, List.set_cons_zero]; first | done | exact rfl) | rfl) (?_))
  refine oV (vF 7 Tryz.underlying32 ti30) ?_
  refine o_step (s_store1 ti30 rfl rfl (by first | exact OneC.lit rfl | exact OneC.sl (hX (by repeat constructor)) ) (pB (by repeat constructor)) (by first | decide | exact Nat.le_of_ble_eq_true rfl | simp) (by first | (dsimp only [List.set_cons_succ, List.set_cons_zero]; first | done | exact rfl) | rfl) (?_))
  refine o_nil (c_seq (c_region ?_))
  refine oV (vW Tryz.underlying32 ti32) ?_
  refine o_step (s_store_all ti32 rfl rfl (by first | exact CellsV.lit rfl | exact CellsV.one (by first | exact OneC.lit rfl | exact OneC.sl (hX (by repeat constructor)) )) (by repeat (first | exact OneAll.nil | (refine OneAll.cons ?_ ?_; · first | exact OneC.lit rfl | exact OneC.sl (hX (by repeat constructor)) ) | exact OneAll.rd (hX (by repeat constructor)))) rfl (pB (by repeat constructor)) rfl (?_))
  refine o_nil ?_
  refine c_ret_cell Tryz.func89 rfl ⟨_, Tryz.underlying32⟩ ti32 rfl (hX (by repeat constructor)) fun w O hS => ?_
  exact ⟨(), rfl, trivial, trivial⟩
set_option maxRecDepth 100000 in
theorem rUnrecord_con (q : Rq9) (d f l : Value) : Con Tryz.prog 97 [.agg #[.int .i64 q.1, .int .i64 q.2.1, .int .i64 q.2.2.1, .string q.2.2.2.1, .string q.2.2.2.2.1, d, f, l]] [Sl (eInt .i64) d q.2.2.2.2.2.1, Sl eStr f q.2.2.2.2.2.2.1, Sl ePr l q.2.2.2.2.2.2.2] (γ := Unit) (fun _ => .agg #[.int .i64 q.1, .int .i64 q.2.1, .int .i64 0, .string q.2.2.2.1, .string q.2.2.2.2.1, d, f, l]) (fun _ => True) (fun _ => []) := by
  refine con_of Tryz.func97 rfl (dd rfl) fun w0 O0 => ?_
  refine c_seq (c_region ?_)
  refine o_step (s_box rfl (dd rfl) (fun b1 => ?_))
  refine o_step (s_alloc ti32 (dd rfl) (fun b2 => ?_))
  refine o_nil (c_seq (c_region ?_))
  refine oV (vF 2 Tryz.underlying32 ti3) ?_
  refine o_step (s_store1 ti3 rfl rfl (by first | exact OneC.lit rfl | exact OneC.sl (hX (by repeat constructor)) ) (pB (by repeat constructor)) (by first | decide | exact Nat.le_of_ble_eq_true rfl | simp) (by first | (dsimp only [List.set_cons_succ, List.set_cons_zero]; first | done | exact rfl) | rfl) (?_))
  refine o_nil (c_seq (c_region ?_))
  refine oV (vW Tryz.underlying32 ti32) ?_
  refine o_step (s_store_all ti32 rfl rfl (by first | exact CellsV.lit rfl | exact CellsV.one (by first | exact OneC.lit rfl | exact OneC.sl (hX (by repeat constructor)) )) (by repeat (first | exact OneAll.nil | (refine OneAll.cons ?_ ?_; · first | exact OneC.lit rfl | exact OneC.sl (hX (by repeat constructor)) ) | exact OneAll.rd (hX (by repeat constructor)))) rfl (pB (by repeat constructor)) rfl (?_))
  refine o_nil ?_
  refine c_ret_cell Tryz.func97 rfl ⟨_, Tryz.underlying32⟩ ti32 rfl (hX (by repeat constructor)) fun w O hS => ?_
  exact ⟨(), rfl, trivial, trivial⟩
set_option maxRecDepth 100000 in
theorem rRevert_con (q : Rq9) (d f l : Value) : Con Tryz.prog 98 [.agg #[.int .i64 q.1, .int .i64 q.2.1, .int .i64 q.2.2.1, .string q.2.2.2.1, .string q.2.2.2.2.1, d, f, l]] [Sl (eInt .i64) d q.2.2.2.2.2.1, Sl eStr f q.2.2.2.2.2.2.1, Sl ePr l q.2.2.2.2.2.2.2] (γ := Unit) (fun _ => .agg #[.int .i64 q.1, .int .i64 q.2.1, .int .i64 q.2.2.1, .string q.2.2.2.1, .string q.2.2.2.2.1, d, .slice none 0 0, l]) (fun _ => True) (fun _ => []) := by
  refine con_of Tryz.func98 rfl (dd rfl) fun w0 O0 => ?_
  refine c_seq (c_region ?_)
  refine o_step (s_box rfl (dd rfl) (fun b1 => ?_))
  refine o_step (s_alloc ti32 (dd rfl) (fun b2 => ?_))
  refine o_nil (c_seq (c_region ?_))
  refine oV (vF 6 Tryz.underlying32 ti23) ?_
  refine o_step (s_store1 ti23 rfl rfl (by first | exact OneC.lit rfl | exact OneC.sl (hX (by repeat constructor)) ) (pB (by repeat constructor)) (by first | decide | exact Nat.le_of_ble_eq_true rfl | simp) (by first | (dsimp only [List.set_cons_succ, List.set_cons_zero]; first | done | exact rfl) | rfl) (?_))
  refine o_nil (c_seq (c_region ?_))
  refine oV (vW Tryz.underlying32 ti32) ?_
  refine o_step (s_store_all ti32 rfl rfl (by first | exact CellsV.lit rfl | exact CellsV.one (by first | exact OneC.lit rfl | exact OneC.sl (hX (by repeat constructor)) )) (by repeat (first | exact OneAll.nil | (refine OneAll.cons ?_ ?_; · first | exact OneC.lit rfl | exact OneC.sl (hX (by repeat constructor)) ) | exact OneAll.rd (hX (by repeat constructor)))) rfl (pB (by repeat constructor)) rfl (?_))
  refine o_nil ?_
  refine c_ret_cell Tryz.func98 rfl ⟨_, Tryz.underlying32⟩ ti32 rfl (hX (by repeat constructor)) fun w O hS => ?_
  exact ⟨(), rfl, trivial, trivial⟩
set_option maxRecDepth 100000 in
theorem rTake_con (q : Rq9) (d f l : Value) : Con Tryz.prog 103 [.agg #[.int .i64 q.1, .int .i64 q.2.1, .int .i64 q.2.2.1, .string q.2.2.2.1, .string q.2.2.2.2.1, d, f, l]] [Sl (eInt .i64) d q.2.2.2.2.2.1, Sl eStr f q.2.2.2.2.2.2.1, Sl ePr l q.2.2.2.2.2.2.2] (γ := Unit) (fun _ => .agg #[.int .i64 q.1, .int .i64 q.2.1, .int .i64 0, .string q.2.2.2.1, .string q.2.2.2.2.1, d, f, l]) (fun _ => True) (fun _ => []) := by
  refine con_of Tryz.func103 rfl (dd rfl) fun w0 O0 => ?_
  refine c_seq (c_region ?_)
  refine o_step (s_box rfl (dd rfl) (fun b1 => ?_))
  refine o_step (s_alloc ti32 (dd rfl) (fun b2 => ?_))
  refine o_nil (c_seq (c_region ?_))
  refine oV (vF 2 Tryz.underlying32 ti3) ?_
  refine o_step (s_store1 ti3 rfl rfl (by first | exact OneC.lit rfl | exact OneC.sl (hX (by repeat constructor)) ) (pB (by repeat constructor)) (by first | decide | exact Nat.le_of_ble_eq_true rfl | simp) (by first | (dsimp only [List.set_cons_succ, List.set_cons_zero]; first | done | exact rfl) | rfl) (?_))
  refine o_nil (c_seq (c_region ?_))
  refine oV (vW Tryz.underlying32 ti32) ?_
  refine o_step (s_store_all ti32 rfl rfl (by first | exact CellsV.lit rfl | exact CellsV.one (by first | exact OneC.lit rfl | exact OneC.sl (hX (by repeat constructor)) )) (by repeat (first | exact OneAll.nil | (refine OneAll.cons ?_ ?_; · first | exact OneC.lit rfl | exact OneC.sl (hX (by repeat constructor)) ) | exact OneAll.rd (hX (by repeat constructor)))) rfl (pB (by repeat constructor)) rfl (?_))
  refine o_nil ?_
  refine c_ret_cell Tryz.func103 rfl ⟨_, Tryz.underlying32⟩ ti32 rfl (hX (by repeat constructor)) fun w O hS => ?_
  exact ⟨(), rfl, trivial, trivial⟩
set_option maxRecDepth 100000 in
theorem rRecord_con (q : Rq9) (d f l : Value) (bc : Nat) : Con Tryz.prog 95 [.agg #[.int .i64 q.1, .int .i64 q.2.1, .int .i64 q.2.2.1, .string q.2.2.2.1, .string q.2.2.2.2.1, d, f, l], ptr1 bc] [BlkR bc 75 [.func (.func 82) #[] #[]], Sl (eInt .i64) d q.2.2.2.2.2.1, Sl eStr f q.2.2.2.2.2.2.1, Sl ePr l q.2.2.2.2.2.2.2] (γ := Unit) (fun _ => .agg #[.int .i64 q.1, .int .i64 q.2.1, .int .i64 0, .string q.2.2.2.1, .string ⟨#[]⟩, .slice none 0 0, .slice none 0 0, l]) (fun _ => True) (fun _ => []) := by
  have hC := by have h := rGroup_con (q.1, q.2.1, q.2.2.1, q.2.2.2.1, ⟨#[]⟩, [], q.2.2.2.2.2.2.1, q.2.2.2.2.2.2.2) (.slice none 0 0) f l; dsimp only at h; exact h
  refine con_of Tryz.func95 rfl (dd rfl) fun w0 O0 => ?_
  refine c_seq (c_region ?_)
  refine o_step (s_box rfl (dd rfl) (fun b2 => ?_))
  refine o_step (s_alloc ti32 (dd rfl) (fun b3 => ?_))
  refine o_nil (c_seq (c_region ?_))
  refine oV (vF 4 Tryz.underlying32 ti9) ?_
  refine o_step (s_store1 ti9 rfl rfl (by first | exact OneC.lit rfl | exact OneC.sl (hX (by repeat constructor)) ) (pB (by repeat constructor)) (by first | decide | exact Nat.le_of_ble_eq_true rfl | simp) (by first | (dsimp only [List.set_cons_succ, List.set_cons_zero]; first | done | exact rfl) | rfl) (?_))
  refine oV (vF 5 Tryz.underlying32 ti22) ?_
  refine o_step (s_store1 ti22 rfl rfl (by first | exact OneC.lit rfl | exact OneC.sl (hX (by repeat constructor)) ) (pB (by repeat constructor)) (by first | decide | exact Nat.le_of_ble_eq_true rfl | simp) (by first | (dsimp only [List.set_cons_succ, List.set_cons_zero]; first | done | exact rfl) | rfl) (?_))
  refine o_nil (c_seq (c_region ?_))
  refine oV (vL lone75) ?_
  refine oV (vW Tryz.underlying32 ti32) ?_
  refine o_step (s_call cl82 (hC) (first := []) (cap := []) rfl rfl (by rfl) (dd rfl) (pXs (by repeat constructor)) fun _ _ => ?_)
  refine o_step (s_store_all ti32 rfl rfl (by first | exact CellsV.lit rfl | exact CellsV.one (by first | exact OneC.lit rfl | exact OneC.sl (hX (by repeat constructor)) )) (by repeat (first | exact OneAll.nil | (refine OneAll.cons ?_ ?_; · first | exact OneC.lit rfl | exact OneC.sl (hX (by repeat constructor)) ) | exact OneAll.rd (hX (by repeat constructor)))) rfl (pB (by repeat constructor)) rfl (?_))
  refine o_nil ?_
  refine c_ret_cell Tryz.func95 rfl ⟨_, Tryz.underlying32⟩ ti32 rfl (hX (by repeat constructor)) fun w O hS => ?_
  exact ⟨(), rfl, trivial, trivial⟩
set_option maxRecDepth 100000 in
theorem rShelve_con (q : Rq9) (d f l : Value) (bc : Nat) : Con Tryz.prog 100 [.agg #[.int .i64 q.1, .int .i64 q.2.1, .int .i64 q.2.2.1, .string q.2.2.2.1, .string q.2.2.2.2.1, d, f, l], ptr1 bc] [BlkR bc 75 [.func (.func 81) #[] #[]], Sl (eInt .i64) d q.2.2.2.2.2.1, Sl eStr f q.2.2.2.2.2.2.1, Sl ePr l q.2.2.2.2.2.2.2] (γ := Unit) (fun _ => .agg #[.int .i64 q.1, .int .i64 q.2.1, .int .i64 q.2.2.1, .string ⟨#[]⟩, .string q.2.2.2.2.1, d, .slice none 0 0, l]) (fun _ => True) (fun _ => []) := by
  have hC := by have h := rName_con (q.1, q.2.1, q.2.2.1, q.2.2.2.1, q.2.2.2.2.1, q.2.2.2.2.2.1, [], q.2.2.2.2.2.2.2) d (.slice none 0 0) l; dsimp only at h; exact h
  refine con_of Tryz.func100 rfl (dd rfl) fun w0 O0 => ?_
  refine c_seq (c_region ?_)
  refine o_step (s_box rfl (dd rfl) (fun b2 => ?_))
  refine o_step (s_alloc ti32 (dd rfl) (fun b3 => ?_))
  refine o_nil (c_seq (c_region ?_))
  refine oV (vF 6 Tryz.underlying32 ti23) ?_
  refine o_step (s_store1 ti23 rfl rfl (by first | exact OneC.lit rfl | exact OneC.sl (hX (by repeat constructor)) ) (pB (by repeat constructor)) (by first | decide | exact Nat.le_of_ble_eq_true rfl | simp) (by first | (dsimp only [List.set_cons_succ, List.set_cons_zero]; first | done | exact rfl) | rfl) (?_))
  refine o_nil (c_seq (c_region ?_))
  refine oV (vL lone75) ?_
  refine oV (vW Tryz.underlying32 ti32) ?_
  refine o_step (s_call cl81 (hC) (first := []) (cap := []) rfl rfl (by rfl) (dd rfl) (pXs (by repeat constructor)) fun _ _ => ?_)
  refine o_step (s_store_all ti32 rfl rfl (by first | exact CellsV.lit rfl | exact CellsV.one (by first | exact OneC.lit rfl | exact OneC.sl (hX (by repeat constructor)) )) (by repeat (first | exact OneAll.nil | (refine OneAll.cons ?_ ?_; · first | exact OneC.lit rfl | exact OneC.sl (hX (by repeat constructor)) ) | exact OneAll.rd (hX (by repeat constructor)))) rfl (pB (by repeat constructor)) rfl (?_))
  refine o_nil ?_
  refine c_ret_cell Tryz.func100 rfl ⟨_, Tryz.underlying32⟩ ti32 rfl (hX (by repeat constructor)) fun w O hS => ?_
  exact ⟨(), rfl, trivial, trivial⟩
set_option maxRecDepth 100000 in
theorem tNone_con (q : Rq9) (d f l : Value) : Con Tryz.prog 83 [.agg #[.int .i64 q.1, .int .i64 q.2.1, .int .i64 q.2.2.1, .string q.2.2.2.1, .string q.2.2.2.2.1, d, f, l]] [Sl (eInt .i64) d q.2.2.2.2.2.1, Sl eStr f q.2.2.2.2.2.2.1, Sl ePr l q.2.2.2.2.2.2.2] (γ := Unit) (fun _ => .bool (true)) (fun _ => True) (fun _ => []) := by
  refine con_of Tryz.func83 rfl (dd rfl) fun w0 O0 => ?_
  refine c_seq (c_region ?_)
  refine o_step (s_box rfl (dd rfl) (fun b1 => ?_))
  refine oV vA ?_
  refine o_nil (c_seq (c_region ?_))
  refine oV vA ?_
  refine o_nil ?_
  refine c_ret1 Tryz.func83 rfl rfl fun w O hS => ?_
  exact ⟨(), rfl, trivial, trivial⟩
set_option maxRecDepth 100000 in
theorem tNamed_con (q : Rq9) (d f l : Value) (hn : q.2.2.2.1.size ≤ 1000000) : Con Tryz.prog 85 [.agg #[.int .i64 q.1, .int .i64 q.2.1, .int .i64 q.2.2.1, .string q.2.2.2.1, .string q.2.2.2.2.1, d, f, l]] [Sl (eInt .i64) d q.2.2.2.2.2.1, Sl eStr f q.2.2.2.2.2.2.1, Sl ePr l q.2.2.2.2.2.2.2] (γ := Unit) (fun _ => .bool (namedP q.2.2.2.1)) (fun _ => True) (fun _ => []) := by
  have hN := named_con q.2.2.2.1 hn
  refine con_of Tryz.func85 rfl (dd rfl) fun w0 O0 => ?_
  refine c_seq (c_region ?_)
  refine o_step (s_box rfl (dd rfl) (fun b1 => ?_))
  refine oV vA ?_
  refine o_nil (c_seq (c_region ?_))
  refine oV (vF 3 Tryz.underlying32 ti9) ?_
  refine oV (vL lone9) ?_
  refine oC cl86 (hN) fun _ _ => ?_
  refine oV vA ?_
  refine o_nil ?_
  refine c_ret1 Tryz.func85 rfl rfl fun w O hS => ?_
  exact ⟨(), rfl, trivial, trivial⟩
set_option maxRecDepth 100000 in
theorem tTake_con (q : Rq9) (d f l : Value) : Con Tryz.prog 102 [.agg #[.int .i64 q.1, .int .i64 q.2.1, .int .i64 q.2.2.1, .string q.2.2.2.1, .string q.2.2.2.2.1, d, f, l]] [Sl (eInt .i64) d q.2.2.2.2.2.1, Sl eStr f q.2.2.2.2.2.2.1, Sl ePr l q.2.2.2.2.2.2.2] (γ := Unit) (fun _ => .bool (decide (0 ≤ q.2.2.1 ∧ q.2.2.1 ≤ 100))) (fun _ => True) (fun _ => []) := by
  refine con_of Tryz.func102 rfl (dd rfl) fun w0 O0 => ?_
  refine c_seq (c_region ?_)
  refine o_step (s_box rfl (dd rfl) (fun b1 => ?_))
  refine oV vA ?_
  refine o_nil (c_seq (c_region ?_))
  refine oV (vF 2 Tryz.underlying32 ti3) ?_
  refine oV (vL lone3) ?_
  refine oV (v_ge rfl rfl) ?_
  refine oV vM ?_
  refine o_guard_t rfl rfl (fun g1 => ?_) (fun g1 => ?_)
  · skip
    refine oV (vF 2 Tryz.underlying32 ti3) ?_
    refine oN ?_
    refine oV (vL lone3) ?_
    refine oN ?_
    refine oV (v_le rfl rfl) ?_
    refine oV vT ?_
    refine oV vA ?_
    refine o_nil ?_
    refine c_ret1 Tryz.func102 rfl rfl fun w O hS => ?_
    exact ⟨(), congrArg Value.bool (by simp [g1]), trivial, trivial⟩
  · skip
    iterate 3 refine oX ?_
    refine oV vQ ?_
    refine oV vA ?_
    refine o_nil ?_
    refine c_ret1 Tryz.func102 rfl rfl fun w O hS => ?_
    exact ⟨(), congrArg Value.bool (by first | (simp [g1]; done) | (simp [g1]; intros; omega)), trivial, trivial⟩
set_option maxRecDepth 100000 in
theorem tWatch_con (q : Rq9) (d f l : Value) (hn : q.2.2.2.1.size ≤ 1000000) : Con Tryz.prog 101 [.agg #[.int .i64 q.1, .int .i64 q.2.1, .int .i64 q.2.2.1, .string q.2.2.2.1, .string q.2.2.2.2.1, d, f, l]] [Sl (eInt .i64) d q.2.2.2.2.2.1, Sl eStr f q.2.2.2.2.2.2.1, Sl ePr l q.2.2.2.2.2.2.2] (γ := Unit) (fun _ => .bool (decide (q.2.2.2.1 = ⟨#[]⟩) || namedP q.2.2.2.1)) (fun _ => True) (fun _ => []) := by
  have hN := named_con q.2.2.2.1 hn
  refine con_of Tryz.func101 rfl (dd rfl) fun w0 O0 => ?_
  refine c_seq (c_region ?_)
  refine o_step (s_box rfl (dd rfl) (fun b1 => ?_))
  refine oV vA ?_
  refine o_nil (c_seq (c_region ?_))
  refine oV (vF 3 Tryz.underlying32 ti9) ?_
  refine oV (vL lone9) ?_
  refine oV (v_seq rfl rfl) ?_
  refine oV vM ?_
  refine o_guard_f rfl rfl (fun g1 => ?_) (fun g1 => ?_)
  · skip
    refine oV (vF 3 Tryz.underlying32 ti9) ?_
    refine oN ?_
    refine oV (vL lone9) ?_
    refine oN ?_
    refine oC cl86 (hN) fun _ _ => ?_
    refine oV vQ ?_
    refine oV vA ?_
    refine o_nil ?_
    refine c_ret1 Tryz.func101 rfl rfl fun w O hS => ?_
    exact ⟨(), congrArg Value.bool (by simp [g1]), trivial, trivial⟩
  · skip
    iterate 3 refine oX ?_
    refine oV vT ?_
    refine oV vA ?_
    refine o_nil ?_
    refine c_ret1 Tryz.func101 rfl rfl fun w O hS => ?_
    exact ⟨(), congrArg Value.bool (by simp [g1]), trivial, trivial⟩
set_option maxRecDepth 100000 in
theorem tAmend_con (q : Rq9) (d f l : Value) (hf : q.2.2.2.2.2.2.1.length ≤ 1000000) (hs : ∀ s ∈ q.2.2.2.2.2.2.1, s.size ≤ 1000000) : Con Tryz.prog 96 [.agg #[.int .i64 q.1, .int .i64 q.2.1, .int .i64 q.2.2.1, .string q.2.2.2.1, .string q.2.2.2.2.1, d, f, l]] [Sl (eInt .i64) d q.2.2.2.2.2.1, Sl eStr f q.2.2.2.2.2.2.1, Sl ePr l q.2.2.2.2.2.2.2] (γ := Unit) (fun _ => .bool (decide (1 ≤ q.2.2.1 ∧ q.2.2.1 ≤ 1000000000) && (decide (q.2.2.2.2.2.2.1.length ≤ 8) && filesP ⟨#[]⟩ q.2.2.2.2.2.2.1))) (fun _ => True) (fun _ => []) := by
  have hF := files_con (.int .i64 q.1) (.int .i64 q.2.1) (.int .i64 q.2.2.1) (.string q.2.2.2.1) (.string q.2.2.2.2.1) d f l q.2.2.2.2.2.2.1 hf hs
  have hI := id_con (.int .i64 q.1) (.int .i64 q.2.1) (.string q.2.2.2.1) (.string q.2.2.2.2.1) d f l q.2.2.1
  refine con_of Tryz.func96 rfl (dd rfl) fun w0 O0 => ?_
  refine c_seq (c_region ?_)
  refine o_step (s_box rfl (dd rfl) (fun b1 => ?_))
  refine oV vA ?_
  refine o_nil (c_seq (c_region ?_))
  refine oV (vW Tryz.underlying32 ti32) ?_
  refine o_step (s_callf_keep cl91 (hI) rfl (dd rfl) (rX (by repeat constructor)) (fun _ => sX) (fun _ _ => ?_))
  refine oV vM ?_
  refine o_guard_t rfl rfl (fun g1 => ?_) (fun g1 => ?_)
  · skip
    refine oV (vW Tryz.underlying32 ti32) ?_
    refine oN ?_
    refine o_step (s_callf_keep cl94 (hF) rfl (dd rfl) (rX (by repeat constructor)) (fun _ => sX) (fun _ _ => ?_))
    refine oV vT ?_
    refine oV vA ?_
    refine o_nil ?_
    refine c_ret1 Tryz.func96 rfl rfl fun w O hS => ?_
    exact ⟨(), congrArg Value.bool (by simp [g1]), trivial, trivial⟩
  · skip
    iterate 2 refine oX ?_
    refine oV vQ ?_
    refine oV vA ?_
    refine o_nil ?_
    refine c_ret1 Tryz.func96 rfl rfl fun w O hS => ?_
    exact ⟨(), congrArg Value.bool (by first | (simp [g1]; done) | (simp [g1]; intros; omega)), trivial, trivial⟩
set_option maxRecDepth 100000 in
theorem tShelve_con (q : Rq9) (d f l : Value) (hn : q.2.2.2.1.size ≤ 1000000) (hf : q.2.2.2.2.2.2.1.length ≤ 1000000) (hs : ∀ s ∈ q.2.2.2.2.2.2.1, s.size ≤ 1000000) : Con Tryz.prog 99 [.agg #[.int .i64 q.1, .int .i64 q.2.1, .int .i64 q.2.2.1, .string q.2.2.2.1, .string q.2.2.2.2.1, d, f, l]] [Sl (eInt .i64) d q.2.2.2.2.2.1, Sl eStr f q.2.2.2.2.2.2.1, Sl ePr l q.2.2.2.2.2.2.2] (γ := Unit) (fun _ => .bool (namedP q.2.2.2.1 && (decide (q.2.2.2.2.2.2.1.length ≤ 8) && filesP ⟨#[]⟩ q.2.2.2.2.2.2.1))) (fun _ => True) (fun _ => []) := by
  have hF := files_con (.int .i64 q.1) (.int .i64 q.2.1) (.int .i64 q.2.2.1) (.string q.2.2.2.1) (.string q.2.2.2.2.1) d f l q.2.2.2.2.2.2.1 hf hs
  have hN := named_con q.2.2.2.1 hn
  refine con_of Tryz.func99 rfl (dd rfl) fun w0 O0 => ?_
  refine c_seq (c_region ?_)
  refine o_step (s_box rfl (dd rfl) (fun b1 => ?_))
  refine oV vA ?_
  refine o_nil (c_seq (c_region ?_))
  refine oV (vF 3 Tryz.underlying32 ti9) ?_
  refine oV (vL lone9) ?_
  refine o_step (s_callf_keep cl86 (hN) rfl (dd rfl) (rX (by repeat constructor)) (fun _ => sX) (fun _ _ => ?_))
  refine oV vM ?_
  refine o_guard rfl rfl (fun g1 => ?_) (fun g1 => ?_)
  · skip
    refine oV (vW Tryz.underlying32 ti32) ?_
    refine oN ?_
    refine o_step (s_callf_keep cl94 (hF) rfl (dd rfl) (rX (by repeat constructor)) (fun _ => sX) (fun _ _ => ?_))
    refine oV vT ?_
    refine oV vA ?_
    refine o_nil ?_
    refine c_ret1 Tryz.func99 rfl rfl fun w O hS => ?_
    exact ⟨(), congrArg Value.bool (by simp [g1]), trivial, trivial⟩
  · skip
    iterate 2 refine oX ?_
    refine oV vQ ?_
    refine oV vA ?_
    refine o_nil ?_
    refine c_ret1 Tryz.func99 rfl rfl fun w O hS => ?_
    exact ⟨(), congrArg Value.bool (by first | (simp [g1]; done) | (simp [g1]; intros; omega)), trivial, trivial⟩
set_option maxRecDepth 100000 in
theorem tRecord_con (q : Rq9) (d f l : Value) (hd : q.2.2.2.2.2.1.length ≤ 1000000) (hf : q.2.2.2.2.2.2.1.length ≤ 1000000) (hs : ∀ s ∈ q.2.2.2.2.2.2.1, s.size ≤ 1000000) : Con Tryz.prog 90 [.agg #[.int .i64 q.1, .int .i64 q.2.1, .int .i64 q.2.2.1, .string q.2.2.2.1, .string q.2.2.2.2.1, d, f, l]] [Sl (eInt .i64) d q.2.2.2.2.2.1, Sl eStr f q.2.2.2.2.2.2.1, Sl ePr l q.2.2.2.2.2.2.2] (γ := Unit) (fun _ => .bool (decide (1 ≤ q.2.2.1 ∧ q.2.2.1 ≤ 1000000000) && lineP q.2.2.2.2.1 && (decide (q.2.2.2.2.2.1.length ≤ 8) && depsP q.2.2.1 0 q.2.2.2.2.2.1) && (decide (q.2.2.2.2.2.2.1.length ≤ 8) && filesP ⟨#[]⟩ q.2.2.2.2.2.2.1))) (fun _ => True) (fun _ => []) := by
  have hF := files_con (.int .i64 q.1) (.int .i64 q.2.1) (.int .i64 q.2.2.1) (.string q.2.2.2.1) (.string q.2.2.2.2.1) d f l q.2.2.2.2.2.2.1 hf hs
  have hI := id_con (.int .i64 q.1) (.int .i64 q.2.1) (.string q.2.2.2.1) (.string q.2.2.2.2.1) d f l q.2.2.1
  have hD := deps_con (.int .i64 q.1) (.int .i64 q.2.1) (.string q.2.2.2.1) (.string q.2.2.2.2.1) d f l q.2.2.1 q.2.2.2.2.2.1 hd
  have hN := right_con q.2.2.2.2.1
  rw [right_line] at hN
  refine con_of Tryz.func90 rfl (dd rfl) fun w0 O0 => ?_
  refine c_seq (c_region ?_)
  refine o_step (s_box rfl (dd rfl) (fun b1 => ?_))
  refine oV vA ?_
  refine o_nil (c_seq (c_region ?_))
  refine oV (vW Tryz.underlying32 ti32) ?_
  refine o_step (s_callf_keep cl91 (hI) rfl (dd rfl) (rX (by repeat constructor)) (fun _ => sX) (fun _ _ => ?_))
  refine oV vM ?_
  refine o_guard_t rfl rfl (fun g1 => ?_) (fun g1 => ?_)
  · skip
    refine oV (vF 4 Tryz.underlying32 ti9) ?_
    refine oN ?_
    refine oV (vL lone9) ?_
    refine oN ?_
    refine o_step (s_callf_keep cl92 (hN) rfl (dd rfl) (rX (by repeat constructor)) (fun _ => sX) (fun _ _ => ?_))
    refine oV vT ?_
    refine oV vM ?_
    refine o_guard rfl rfl (fun g2 => ?_) (fun g2 => ?_)
    · skip
      refine oV (vW Tryz.underlying32 ti32) ?_
      refine oN ?_
      refine o_step (s_callf_keep cl93 (hD) rfl (dd rfl) (rX (by repeat constructor)) (fun _ => sX) (fun _ _ => ?_))
      refine oV vT ?_
      refine oV vM ?_
      refine o_guard rfl rfl (fun g3 => ?_) (fun g3 => ?_)
      · skip
        refine oV (vW Tryz.underlying32 ti32) ?_
        refine oN ?_
        refine o_step (s_callf_keep cl94 (hF) rfl (dd rfl) (rX (by repeat constructor)) (fun _ => sX) (fun _ _ => ?_))
        refine oV vT ?_
        refine oV vA ?_
        refine o_nil ?_
        refine c_ret1 Tryz.func90 rfl rfl fun w O hS => ?_
        exact ⟨(), congrArg Value.bool (by rw [g2, g3]; simp [g1]), trivial, trivial⟩
      · skip
        iterate 2 refine oX ?_
        refine oV vQ ?_
        refine oV vA ?_
        refine o_nil ?_
        refine c_ret1 Tryz.func90 rfl rfl fun w O hS => ?_
        exact ⟨(), congrArg Value.bool (by first | (simp [g3]; done) | (simp [g3]; intros; omega)), trivial, trivial⟩
    · skip
      iterate 2 refine oX ?_
      refine oV vQ ?_
      refine oV vM ?_
      iterate 2 refine oX ?_
      refine oV vQ ?_
      refine oV vA ?_
      refine o_nil ?_
      refine c_ret1 Tryz.func90 rfl rfl fun w O hS => ?_
      exact ⟨(), congrArg Value.bool (by first | (simp [g2]; done) | (simp [g2]; intros; omega)), trivial, trivial⟩
  · skip
    iterate 3 refine oX ?_
    refine oV vQ ?_
    refine oV vM ?_
    iterate 2 refine oX ?_
    refine oV vQ ?_
    refine oV vM ?_
    iterate 2 refine oX ?_
    refine oV vQ ?_
    refine oV vA ?_
    refine o_nil ?_
    refine c_ret1 Tryz.func90 rfl rfl fun w O hS => ?_
    exact ⟨(), congrArg Value.bool (by first | (simp [g1]; done) | (simp [g1]; intros; omega)), trivial, trivial⟩
set_option maxRecDepth 100000 in
theorem tChange_con (q : Rq9) (d f l : Value) (hl : q.2.2.2.2.2.2.2.length ≤ 1000000 ∧ ∀ p ∈ q.2.2.2.2.2.2.2, SizeP p) : Con Tryz.prog 87 [.agg #[.int .i64 q.1, .int .i64 q.2.1, .int .i64 q.2.2.1, .string q.2.2.2.1, .string q.2.2.2.2.1, d, f, l]] [Sl (eInt .i64) d q.2.2.2.2.2.1, Sl eStr f q.2.2.2.2.2.2.1, Sl ePr l q.2.2.2.2.2.2.2] (γ := Unit) (fun _ => .bool (decide (0 ≤ q.2.1) && decide (q.2.1 ≤ 1099511627776) && decide (1 ≤ q.2.2.2.2.2.2.2.length) && decide (q.2.2.2.2.2.2.2.length ≤ 24) && q.2.2.2.2.2.2.2.all rightP)) (fun _ => True) (fun _ => []) := by
  have hR := rights_con l q.2.2.2.2.2.2.2 hl
  refine con_of Tryz.func87 rfl (dd rfl) fun w0 O0 => ?_
  refine c_seq (c_region ?_)
  refine o_step (s_box rfl (dd rfl) (fun b1 => ?_))
  refine oV vA ?_
  refine o_nil (c_seq (c_region ?_))
  refine oV (vF 1 Tryz.underlying32 ti3) ?_
  refine oV (vL lone3) ?_
  refine oV (v_ge rfl rfl) ?_
  refine oV vM ?_
  refine o_guard_t rfl rfl (fun g1 => ?_) (fun g1 => ?_)
  · skip
    refine oV (vF 1 Tryz.underlying32 ti3) ?_
    refine oN ?_
    refine oV (vL lone3) ?_
    refine oN ?_
    refine oV (v_le rfl rfl) ?_
    refine oV vT ?_
    refine oV vM ?_
    refine o_guard_t rfl rfl (fun g2 => ?_) (fun g2 => ?_)
    · skip
      refine oV (vF 7 Tryz.underlying32 ti30) ?_
      refine oN ?_
      refine oV (vL lone30) ?_
      refine oN ?_
      refine oV ((by first | exact v_len_form Tryz.underlying30 rfl | exact v_len_sl Tryz.underlying30 rfl (hX (by repeat constructor)))) ?_
      refine oN ?_
      refine oV (v_ge rfl rfl) ?_
      refine oV vT ?_
      refine oV vM ?_
      refine o_guard_t rfl rfl (fun g3 => ?_) (fun g3 => ?_)
      · skip
        refine oV (vF 7 Tryz.underlying32 ti30) ?_
        refine oN ?_
        refine oV (vL lone30) ?_
        refine oN ?_
        refine oV ((by first | exact v_len_form Tryz.underlying30 rfl | exact v_len_sl Tryz.underlying30 rfl (hX (by repeat constructor)))) ?_
        refine oN ?_
        refine oV (v_le rfl rfl) ?_
        refine oV vT ?_
        refine oV vM ?_
        refine o_guard_t rfl rfl (fun g4 => ?_) (fun g4 => ?_)
        · skip
          refine oV (vF 7 Tryz.underlying32 ti30) ?_
          refine oN ?_
          refine oV (vL lone30) ?_
          refine oN ?_
          refine o_step (s_callf_keep cl88 (hR) rfl (dd rfl) (rX (by repeat constructor)) (fun _ => sX) (fun _ _ => ?_))
          refine oV vT ?_
          refine oV vA ?_
          refine o_nil ?_
          refine c_ret1 Tryz.func87 rfl rfl fun w O hS => ?_
          exact ⟨(), congrArg Value.bool (by rw [decide_eq_true g1, decide_eq_true g2, decide_eq_true (p := 1 ≤ q.2.2.2.2.2.2.2.length) (by omega), decide_eq_true (p := q.2.2.2.2.2.2.2.length ≤ 24) (by omega)]; rfl), trivial, trivial⟩
        · skip
          iterate 3 refine oX ?_
          refine oV vQ ?_
          refine oV vA ?_
          refine o_nil ?_
          refine c_ret1 Tryz.func87 rfl rfl fun w O hS => ?_
          exact ⟨(), congrArg Value.bool (by first | (simp [g4]; done) | (simp [g4]; intros; omega)), trivial, trivial⟩
      · skip
        iterate 4 refine oX ?_
        refine oV vQ ?_
        refine oV vM ?_
        iterate 3 refine oX ?_
        refine oV vQ ?_
        refine oV vA ?_
        refine o_nil ?_
        refine c_ret1 Tryz.func87 rfl rfl fun w O hS => ?_
        exact ⟨(), congrArg Value.bool (by first | (simp [g3]; done) | (simp [g3]; intros; omega)), trivial, trivial⟩
    · skip
      iterate 4 refine oX ?_
      refine oV vQ ?_
      refine oV vM ?_
      iterate 4 refine oX ?_
      refine oV vQ ?_
      refine oV vM ?_
      iterate 3 refine oX ?_
      refine oV vQ ?_
      refine oV vA ?_
      refine o_nil ?_
      refine c_ret1 Tryz.func87 rfl rfl fun w O hS => ?_
      exact ⟨(), congrArg Value.bool (by first | (simp [g2]; done) | (simp [g2]; intros; omega)), trivial, trivial⟩
  · skip
    iterate 3 refine oX ?_
    refine oV vQ ?_
    refine oV vM ?_
    iterate 4 refine oX ?_
    refine oV vQ ?_
    refine oV vM ?_
    iterate 4 refine oX ?_
    refine oV vQ ?_
    refine oV vM ?_
    iterate 3 refine oX ?_
    refine oV vQ ?_
    refine oV vA ?_
    refine o_nil ?_
    refine c_ret1 Tryz.func87 rfl rfl fun w O hS => ?_
    exact ⟨(), congrArg Value.bool (by first | (simp [g1]; done) | (simp [g1]; intros; omega)), trivial, trivial⟩
end Go.Proofs.YtlfehnnmpkohkaaGreatDoor
/- Chapter 16: which requests may be. -/
namespace Go.Proofs.YtlfehnnmpkohkaaGreatDoor
open Go Go.SL Go.Lib
abbrev fnV (n : Nat) : Value := .func (.func n) #[] #[]
abbrev fnC (n b : Nat) : Value := .func (.func n) #[] #[ptr1 b]
def kindsM (b1 b2 : Nat) : List (Int × Value) := upd (upd (upd (upd (upd (upd (upd (upd (upd (upd (upd (upd (upd ([]) 0 (.agg #[fnV 87, fnV 89])) 1 (.agg #[fnV 90, fnC 95 b2])) 2 (.agg #[fnV 96, fnV 82])) 3 (.agg #[fnV 91, fnV 97])) 4 (.agg #[fnV 94, fnV 98])) 5 (.agg #[fnV 99, fnC 100 b1])) 6 (.agg #[fnV 85, fnV 81])) 9 (.agg #[fnV 85, fnV 81])) 7 (.agg #[fnV 83, fnV 84])) 8 (.agg #[fnV 83, fnV 84])) 11 (.agg #[fnV 83, fnV 84])) 10 (.agg #[fnV 101, fnV 81])) 12 (.agg #[fnV 102, fnV 103])
theorem look0 (b1 b2 : Nat) : Go.SL.look (kindsM b1 b2) (0 : Int) = some (.agg #[fnV 87, fnV 89]) := by unfold kindsM; simp only [Go.SL.look_upd]; simp
theorem look1 (b1 b2 : Nat) : Go.SL.look (kindsM b1 b2) (1 : Int) = some (.agg #[fnV 90, fnC 95 b2]) := by unfold kindsM; simp only [Go.SL.look_upd]; simp
theorem look2 (b1 b2 : Nat) : Go.SL.look (kindsM b1 b2) (2 : Int) = some (.agg #[fnV 96, fnV 82]) := by unfold kindsM; simp only [Go.SL.look_upd]; simp
theorem look3 (b1 b2 : Nat) : Go.SL.look (kindsM b1 b2) (3 : Int) = some (.agg #[fnV 91, fnV 97]) := by unfold kindsM; simp only [Go.SL.look_upd]; simp
theorem look4 (b1 b2 : Nat) : Go.SL.look (kindsM b1 b2) (4 : Int) = some (.agg #[fnV 94, fnV 98]) := by unfold kindsM; simp only [Go.SL.look_upd]; simp
theorem look5 (b1 b2 : Nat) : Go.SL.look (kindsM b1 b2) (5 : Int) = some (.agg #[fnV 99, fnC 100 b1]) := by unfold kindsM; simp only [Go.SL.look_upd]; simp
theorem look6 (b1 b2 : Nat) : Go.SL.look (kindsM b1 b2) (6 : Int) = some (.agg #[fnV 85, fnV 81]) := by unfold kindsM; simp only [Go.SL.look_upd]; simp
theorem look7 (b1 b2 : Nat) : Go.SL.look (kindsM b1 b2) (7 : Int) = some (.agg #[fnV 83, fnV 84]) := by unfold kindsM; simp only [Go.SL.look_upd]; simp
theorem look8 (b1 b2 : Nat) : Go.SL.look (kindsM b1 b2) (8 : Int) = some (.agg #[fnV 83, fnV 84]) := by unfold kindsM; simp only [Go.SL.look_upd]; simp
theorem look9 (b1 b2 : Nat) : Go.SL.look (kindsM b1 b2) (9 : Int) = some (.agg #[fnV 85, fnV 81]) := by unfold kindsM; simp only [Go.SL.look_upd]; simp
theorem look10 (b1 b2 : Nat) : Go.SL.look (kindsM b1 b2) (10 : Int) = some (.agg #[fnV 101, fnV 81]) := by unfold kindsM; simp only [Go.SL.look_upd]; simp
theorem look11 (b1 b2 : Nat) : Go.SL.look (kindsM b1 b2) (11 : Int) = some (.agg #[fnV 83, fnV 84]) := by unfold kindsM; simp only [Go.SL.look_upd]; simp
theorem look12 (b1 b2 : Nat) : Go.SL.look (kindsM b1 b2) (12 : Int) = some (.agg #[fnV 102, fnV 103]) := by unfold kindsM; simp only [Go.SL.look_upd]; simp
theorem lookN (b1 b2 : Nat) {k : Int} (h : k < 0 ∨ 12 < k) : Go.SL.look (kindsM b1 b2) k = none := by unfold kindsM; simp only [Go.SL.look_upd, Go.SL.look_nil]; repeat rw [if_neg (by omega)]
attribute [local irreducible] Cfg Kont StepK Val Con Qops Any Sl Own Blk BlkR Rd Pu ExA AllA Has Pick Ent Elem Beside Callable TI Lone OwnO AndA
set_option maxRecDepth 100000 in
theorem kinds_con : Con Tryz.prog 39 [] [] (γ := Nat × Nat × Nat) (fun g => .map (some g.1)) (fun _ => True) (fun g => [MapA kInt g.1 (kindsM g.2.1 g.2.2), Blk g.2.1 75 [fnV 81], Blk g.2.2 75 [fnV 82]]) := by
  refine con_of Tryz.func39 rfl (dd rfl) fun w0 O0 => ?_
  refine c_seq (c_region ?_)
  refine oV vA ?_
  refine o_nil (c_seq (c_region ?_))
  refine o_step (s_alloc ti75 (dd rfl) (fun b1 => ?_))
  refine o_step (s_store1 ti75 rfl rfl (by first | exact OneC.lit rfl | exact OneC.sl (hX (by repeat constructor)) ) (pB (by repeat constructor)) (by first | decide | exact Nat.le_of_ble_eq_true rfl | simp) (by first | (dsimp only [List.set_cons_succ, List.set_cons_zero]; first | done | exact rfl) | rfl) (?_))
  refine o_nil (c_seq (c_region ?_))
  refine o_step (s_alloc ti75 (dd rfl) (fun b2 => ?_))
  refine o_step (s_store1 ti75 rfl rfl (by first | exact OneC.lit rfl | exact OneC.sl (hX (by repeat constructor)) ) (pB (by repeat constructor)) (by first | decide | exact Nat.le_of_ble_eq_true rfl | simp) (by first | (dsimp only [List.set_cons_succ, List.set_cons_zero]; first | done | exact rfl) | rfl) (?_))
  refine o_nil (c_seq (c_region ?_))
  refine oV (v_buildS (places := [(0, 1), (1, 1)]) (cells := [_, _]) Tryz.underlying77 ti77 (by kernel_rfl) rfl (by repeat (first | exact PartsC.nil | (apply PartsC.one (by first | exact OneC.lit rfl | exact OneC.sl (hX (by repeat constructor)) )) | (apply PartsC.lit rfl))) rfl) ?_
  refine o_step (s_alloc ti77 (dd rfl) (fun b3 => ?_))
  refine o_step (s_store_all ti77 rfl rfl (by first | exact CellsV.lit rfl | exact CellsV.one (by first | exact OneC.lit rfl | exact OneC.sl (hX (by repeat constructor)) )) (by repeat (first | exact OneAll.nil | (refine OneAll.cons ?_ ?_; · first | exact OneC.lit rfl | exact OneC.sl (hX (by repeat constructor)) ) | exact OneAll.rd (hX (by repeat constructor)))) rfl (pB (by repeat constructor)) rfl (?_))
  refine o_nil (c_seq (c_region ?_))
  refine oV (vL lone75) ?_
  refine oV (v_buildS (places := [(0, 1), (1, 1)]) (cells := [_, _]) Tryz.underlying77 ti77 (by kernel_rfl) rfl (by repeat (first | exact PartsC.nil | (apply PartsC.one (by first | exact OneC.lit rfl | exact OneC.sl (hX (by repeat constructor)) )) | (apply PartsC.lit rfl))) rfl) ?_
  refine o_step (s_alloc ti77 (dd rfl) (fun b4 => ?_))
  refine o_step (s_store_all ti77 rfl rfl (by first | exact CellsV.lit rfl | exact CellsV.one (by first | exact OneC.lit rfl | exact OneC.sl (hX (by repeat constructor)) )) (by repeat (first | exact OneAll.nil | (refine OneAll.cons ?_ ?_; · first | exact OneC.lit rfl | exact OneC.sl (hX (by repeat constructor)) ) | exact OneAll.rd (hX (by repeat constructor)))) rfl (pB (by repeat constructor)) rfl (?_))
  refine o_nil (c_seq (c_region ?_))
  refine o_step (s_makeMap (ke := kInt) (dd rfl) (fun b8 => ?_))
  refine oV (v_buildS (places := [(0, 1), (1, 1)]) (cells := [_, _]) Tryz.underlying77 ti77 (by kernel_rfl) rfl (by repeat (first | exact PartsC.nil | (apply PartsC.one (by first | exact OneC.lit rfl | exact OneC.sl (hX (by repeat constructor)) )) | (apply PartsC.lit rfl))) rfl) ?_
  refine o_step (s_insert kInt Tryz.underlying79 Tryz.underlying3 kInt_sc rfl rfl rfl (pX (by repeat constructor)) (?_))
  refine oV (v_makeFunc rfl rfl) ?_
  refine oV (v_buildS (places := [(0, 1), (1, 1)]) (cells := [_, _]) Tryz.underlying77 ti77 (by kernel_rfl) rfl (by repeat (first | exact PartsC.nil | (apply PartsC.one (by first | exact OneC.lit rfl | exact OneC.sl (hX (by repeat constructor)) )) | (apply PartsC.lit rfl))) rfl) ?_
  refine o_step (s_insert kInt Tryz.underlying79 Tryz.underlying3 kInt_sc rfl rfl rfl (pX (by repeat constructor)) (?_))
  refine oV (vL lone75) ?_
  refine oV (v_buildS (places := [(0, 1), (1, 1)]) (cells := [_, _]) Tryz.underlying77 ti77 (by kernel_rfl) rfl (by repeat (first | exact PartsC.nil | (apply PartsC.one (by first | exact OneC.lit rfl | exact OneC.sl (hX (by repeat constructor)) )) | (apply PartsC.lit rfl))) rfl) ?_
  refine o_step (s_insert kInt Tryz.underlying79 Tryz.underlying3 kInt_sc rfl rfl rfl (pX (by repeat constructor)) (?_))
  refine oV (v_buildS (places := [(0, 1), (1, 1)]) (cells := [_, _]) Tryz.underlying77 ti77 (by kernel_rfl) rfl (by repeat (first | exact PartsC.nil | (apply PartsC.one (by first | exact OneC.lit rfl | exact OneC.sl (hX (by repeat constructor)) )) | (apply PartsC.lit rfl))) rfl) ?_
  refine o_step (s_insert kInt Tryz.underlying79 Tryz.underlying3 kInt_sc rfl rfl rfl (pX (by repeat constructor)) (?_))
  refine oV (v_buildS (places := [(0, 1), (1, 1)]) (cells := [_, _]) Tryz.underlying77 ti77 (by kernel_rfl) rfl (by repeat (first | exact PartsC.nil | (apply PartsC.one (by first | exact OneC.lit rfl | exact OneC.sl (hX (by repeat constructor)) )) | (apply PartsC.lit rfl))) rfl) ?_
  refine o_step (s_insert kInt Tryz.underlying79 Tryz.underlying3 kInt_sc rfl rfl rfl (pX (by repeat constructor)) (?_))
  refine oV (v_makeFunc rfl rfl) ?_
  refine oV (v_buildS (places := [(0, 1), (1, 1)]) (cells := [_, _]) Tryz.underlying77 ti77 (by kernel_rfl) rfl (by repeat (first | exact PartsC.nil | (apply PartsC.one (by first | exact OneC.lit rfl | exact OneC.sl (hX (by repeat constructor)) )) | (apply PartsC.lit rfl))) rfl) ?_
  refine o_step (s_insert kInt Tryz.underlying79 Tryz.underlying3 kInt_sc rfl rfl rfl (pX (by repeat constructor)) (?_))
  refine oV (vW Tryz.underlying77 ti77) ?_
  refine o_step (s_insert kInt Tryz.underlying79 Tryz.underlying3 kInt_sc rfl rfl rfl (pX (by repeat constructor)) (?_))
  refine oV (vW Tryz.underlying77 ti77) ?_
  refine o_step (s_insert kInt Tryz.underlying79 Tryz.underlying3 kInt_sc rfl rfl rfl (pX (by repeat constructor)) (?_))
  refine oV (vW Tryz.underlying77 ti77) ?_
  refine o_step (s_insert kInt Tryz.underlying79 Tryz.underlying3 kInt_sc rfl rfl rfl (pX (by repeat constructor)) (?_))
  refine oV (vW Tryz.underlying77 ti77) ?_
  refine o_step (s_insert kInt Tryz.underlying79 Tryz.underlying3 kInt_sc rfl rfl rfl (pX (by repeat constructor)) (?_))
  refine oV (vW Tryz.underlying77 ti77) ?_
  refine o_step (s_insert kInt Tryz.underlying79 Tryz.underlying3 kInt_sc rfl rfl rfl (pX (by repeat constructor)) (?_))
  refine oV (vL lone75) ?_
  refine oV (v_buildS (places := [(0, 1), (1, 1)]) (cells := [_, _]) Tryz.underlying77 ti77 (by kernel_rfl) rfl (by repeat (first | exact PartsC.nil | (apply PartsC.one (by first | exact OneC.lit rfl | exact OneC.sl (hX (by repeat constructor)) )) | (apply PartsC.lit rfl))) rfl) ?_
  refine o_step (s_insert kInt Tryz.underlying79 Tryz.underlying3 kInt_sc rfl rfl rfl (pX (by repeat constructor)) (?_))
  refine oV (v_buildS (places := [(0, 1), (1, 1)]) (cells := [_, _]) Tryz.underlying77 ti77 (by kernel_rfl) rfl (by repeat (first | exact PartsC.nil | (apply PartsC.one (by first | exact OneC.lit rfl | exact OneC.sl (hX (by repeat constructor)) )) | (apply PartsC.lit rfl))) rfl) ?_
  refine o_step (s_insert kInt Tryz.underlying79 Tryz.underlying3 kInt_sc rfl rfl rfl (pX (by repeat constructor)) (?_))
  refine oV vM ?_
  refine oV vA ?_
  refine o_nil ?_
  refine c_ret1 Tryz.func39 rfl rfl fun w O hS => ?_
  exact ⟨(b8, b1, b2), rfl, trivial, Ent.get hS (eX (by repeat constructor))⟩
end Go.Proofs.YtlfehnnmpkohkaaGreatDoor
/- Chapter 16: what a request that may be needs, kind by kind. -/
namespace Go.Proofs.YtlfehnnmpkohkaaGreatDoor
open Go Go.Lib
abbrev zeroQ (k : Int) : Rq9 := (k, 0, 0, ⟨#[]⟩, ⟨#[]⟩, [], [], [])
theorem right_iff0 {q : Rq9} (hk : q.1 = 0) : RightQ q ↔ (decide (0 ≤ q.2.1) && decide (q.2.1 ≤ 1099511627776) && decide (1 ≤ q.2.2.2.2.2.2.2.length) && decide (q.2.2.2.2.2.2.2.length ≤ 24) && q.2.2.2.2.2.2.2.all rightP) = true ∧ ((q.1, 0, q.2.2.1, q.2.2.2.1, q.2.2.2.2.1, q.2.2.2.2.2.1, q.2.2.2.2.2.2.1, []) : Rq9) = zeroQ q.1 := by
  obtain ⟨k, b, i, n, t, d, f, l⟩ := q
  dsimp only at hk ⊢
  subst hk
  unfold RightQ zeroQ
  simp [Prod.mk.injEq, far9]
  try grind
theorem right_iff1 {q : Rq9} (hk : q.1 = 1) : RightQ q ↔ (decide (1 ≤ q.2.2.1 ∧ q.2.2.1 ≤ 1000000000) && lineP q.2.2.2.2.1 && (decide (q.2.2.2.2.2.1.length ≤ 8) && depsP q.2.2.1 0 q.2.2.2.2.2.1) && (decide (q.2.2.2.2.2.2.1.length ≤ 8) && filesP ⟨#[]⟩ q.2.2.2.2.2.2.1)) = true ∧ ((q.1, q.2.1, 0, q.2.2.2.1, ⟨#[]⟩, [], [], q.2.2.2.2.2.2.2) : Rq9) = zeroQ q.1 := by
  obtain ⟨k, b, i, n, t, d, f, l⟩ := q
  dsimp only at hk ⊢
  subst hk
  unfold RightQ zeroQ
  simp [Prod.mk.injEq, far9]
  try grind
theorem right_iff2 {q : Rq9} (hk : q.1 = 2) : RightQ q ↔ (decide (1 ≤ q.2.2.1 ∧ q.2.2.1 ≤ 1000000000) && (decide (q.2.2.2.2.2.2.1.length ≤ 8) && filesP ⟨#[]⟩ q.2.2.2.2.2.2.1)) = true ∧ ((q.1, q.2.1, 0, q.2.2.2.1, q.2.2.2.2.1, q.2.2.2.2.2.1, [], q.2.2.2.2.2.2.2) : Rq9) = zeroQ q.1 := by
  obtain ⟨k, b, i, n, t, d, f, l⟩ := q
  dsimp only at hk ⊢
  subst hk
  unfold RightQ zeroQ
  simp [Prod.mk.injEq, far9]
  try grind
theorem right_iff3 {q : Rq9} (hk : q.1 = 3) : RightQ q ↔ (decide (1 ≤ q.2.2.1 ∧ q.2.2.1 ≤ 1000000000)) = true ∧ ((q.1, q.2.1, 0, q.2.2.2.1, q.2.2.2.2.1, q.2.2.2.2.2.1, q.2.2.2.2.2.2.1, q.2.2.2.2.2.2.2) : Rq9) = zeroQ q.1 := by
  obtain ⟨k, b, i, n, t, d, f, l⟩ := q
  dsimp only at hk ⊢
  subst hk
  unfold RightQ zeroQ
  simp [Prod.mk.injEq, far9]
  try grind
theorem right_iff4 {q : Rq9} (hk : q.1 = 4) : RightQ q ↔ (decide (q.2.2.2.2.2.2.1.length ≤ 8) && filesP ⟨#[]⟩ q.2.2.2.2.2.2.1) = true ∧ ((q.1, q.2.1, q.2.2.1, q.2.2.2.1, q.2.2.2.2.1, q.2.2.2.2.2.1, [], q.2.2.2.2.2.2.2) : Rq9) = zeroQ q.1 := by
  obtain ⟨k, b, i, n, t, d, f, l⟩ := q
  dsimp only at hk ⊢
  subst hk
  unfold RightQ zeroQ
  simp [Prod.mk.injEq, far9]
  try grind
theorem right_iff5 {q : Rq9} (hk : q.1 = 5) : RightQ q ↔ (namedP q.2.2.2.1 && (decide (q.2.2.2.2.2.2.1.length ≤ 8) && filesP ⟨#[]⟩ q.2.2.2.2.2.2.1)) = true ∧ ((q.1, q.2.1, q.2.2.1, ⟨#[]⟩, q.2.2.2.2.1, q.2.2.2.2.2.1, [], q.2.2.2.2.2.2.2) : Rq9) = zeroQ q.1 := by
  obtain ⟨k, b, i, n, t, d, f, l⟩ := q
  dsimp only at hk ⊢
  subst hk
  unfold RightQ zeroQ
  simp [Prod.mk.injEq, far9]
  try grind
theorem right_iff6 {q : Rq9} (hk : q.1 = 6) : RightQ q ↔ (namedP q.2.2.2.1) = true ∧ ((q.1, q.2.1, q.2.2.1, ⟨#[]⟩, q.2.2.2.2.1, q.2.2.2.2.2.1, q.2.2.2.2.2.2.1, q.2.2.2.2.2.2.2) : Rq9) = zeroQ q.1 := by
  obtain ⟨k, b, i, n, t, d, f, l⟩ := q
  dsimp only at hk ⊢
  subst hk
  unfold RightQ zeroQ
  simp [Prod.mk.injEq, far9]
  try grind
theorem right_iff7 {q : Rq9} (hk : q.1 = 7) : RightQ q ↔ (true) = true ∧ ((q.1, q.2.1, q.2.2.1, q.2.2.2.1, q.2.2.2.2.1, q.2.2.2.2.2.1, q.2.2.2.2.2.2.1, q.2.2.2.2.2.2.2) : Rq9) = zeroQ q.1 := by
  obtain ⟨k, b, i, n, t, d, f, l⟩ := q
  dsimp only at hk ⊢
  subst hk
  unfold RightQ zeroQ
  simp [Prod.mk.injEq, far9]
  try grind
theorem right_iff8 {q : Rq9} (hk : q.1 = 8) : RightQ q ↔ (true) = true ∧ ((q.1, q.2.1, q.2.2.1, q.2.2.2.1, q.2.2.2.2.1, q.2.2.2.2.2.1, q.2.2.2.2.2.2.1, q.2.2.2.2.2.2.2) : Rq9) = zeroQ q.1 := by
  obtain ⟨k, b, i, n, t, d, f, l⟩ := q
  dsimp only at hk ⊢
  subst hk
  unfold RightQ zeroQ
  simp [Prod.mk.injEq, far9]
  try grind
theorem right_iff9 {q : Rq9} (hk : q.1 = 9) : RightQ q ↔ (namedP q.2.2.2.1) = true ∧ ((q.1, q.2.1, q.2.2.1, ⟨#[]⟩, q.2.2.2.2.1, q.2.2.2.2.2.1, q.2.2.2.2.2.2.1, q.2.2.2.2.2.2.2) : Rq9) = zeroQ q.1 := by
  obtain ⟨k, b, i, n, t, d, f, l⟩ := q
  dsimp only at hk ⊢
  subst hk
  unfold RightQ zeroQ
  simp [Prod.mk.injEq, far9]
  try grind
theorem right_iff10 {q : Rq9} (hk : q.1 = 10) : RightQ q ↔ (decide (q.2.2.2.1 = ⟨#[]⟩) || namedP q.2.2.2.1) = true ∧ ((q.1, q.2.1, q.2.2.1, ⟨#[]⟩, q.2.2.2.2.1, q.2.2.2.2.2.1, q.2.2.2.2.2.2.1, q.2.2.2.2.2.2.2) : Rq9) = zeroQ q.1 := by
  obtain ⟨k, b, i, n, t, d, f, l⟩ := q
  dsimp only at hk ⊢
  subst hk
  unfold RightQ zeroQ
  simp [Prod.mk.injEq, far9]
  try grind
theorem right_iff11 {q : Rq9} (hk : q.1 = 11) : RightQ q ↔ (true) = true ∧ ((q.1, q.2.1, q.2.2.1, q.2.2.2.1, q.2.2.2.2.1, q.2.2.2.2.2.1, q.2.2.2.2.2.2.1, q.2.2.2.2.2.2.2) : Rq9) = zeroQ q.1 := by
  obtain ⟨k, b, i, n, t, d, f, l⟩ := q
  dsimp only at hk ⊢
  subst hk
  unfold RightQ zeroQ
  simp [Prod.mk.injEq, far9]
  try grind
theorem right_iff12 {q : Rq9} (hk : q.1 = 12) : RightQ q ↔ (decide (0 ≤ q.2.2.1 ∧ q.2.2.1 ≤ 100)) = true ∧ ((q.1, q.2.1, 0, q.2.2.2.1, q.2.2.2.2.1, q.2.2.2.2.2.1, q.2.2.2.2.2.2.1, q.2.2.2.2.2.2.2) : Rq9) = zeroQ q.1 := by
  obtain ⟨k, b, i, n, t, d, f, l⟩ := q
  dsimp only at hk ⊢
  subst hk
  unfold RightQ zeroQ
  simp [Prod.mk.injEq, far9]
  try grind
theorem right_none {q : Rq9} (h : q.1 < 0 ∨ 12 < q.1) : ¬ RightQ q := fun k => by have := k.1; omega
end Go.Proofs.YtlfehnnmpkohkaaGreatDoor

/- The texts I3, I5, P1, V1, V4, V2, D9, V3, V5, V6, V7, I4, W7, W8, I6, I7, S1, S2, S3, DA, DB, E1, E2, E3, E4, DC, F1, one behind the other. -/
import Derived.Test.YtlfehnnmpkohkaaGreatDoorYB2
set_option linter.unusedVariables false
set_option linter.unusedSimpArgs false
/- Chapter 09: the program's reader: texts. -/
namespace Go.Proofs.YtlfehnnmpkohkaaGreatDoor
open Go Go.SL Go.Lib
/-- What 'some' reads ahead of 'whole'. -/
def somR {α : Type} (take : St9 → St9 × α) (most : Int) (s : St9) : St9 × List α := takeMany take (takeNum s).2.toNat (if (takeNum s).2 < 0 ∨ most < (takeNum s).2 then spoil9 (takeNum s).1 else (takeNum s).1) []
theorem some_as {α : Type} (take : St9 → St9 × α) (most : Int) (s : St9) : takeSome take most s = if (somR take most s).1.2 = true then (spoil9 s, []) else somR take most s := by
  unfold takeSome somR
  by_cases h : (takeNum s).2 < 0 ∨ most < (takeNum s).2
  · rw [if_pos (.inr h), if_pos h, takeMany_bad take _ _ _ rfl]; exact (if_pos rfl).symm
  · rw [if_neg h]
    by_cases hb : (takeNum s).1.2 = true
    · rw [if_pos (.inl hb), takeMany_bad take _ _ _ hb, if_pos hb]
    · rw [if_neg (by rintro (q | q); exact hb q; exact h q)]
attribute [local irreducible] Cfg Kont StepK Val Con Qops Any Sl Own Blk BlkR Rd Pu ExA AllA Has Pick Ent Elem Beside Callable TI Lone OwnO AndA
set_option maxRecDepth 100000 in
theorem inEach_con (i bi be : Nat) (bv : Value) (s : St9) (each : Int) (te : TypeId) (pe : Value) : Con Tryz.prog 119 [ptr bi, ptr be] [BlkR bi 103 [ptr i], BlkR be 3 [.int .i64 each], Blk i 141 [bv, .bool s.2], Sl eByte bv s.1, G1 te pe, G3] (γ := Value) (fun _ => .string (takeText each s).2) (fun _ => True) (fun g => [Blk i 141 [g, .bool (takeText each s).1.2], Sl eByte g (takeText each s).1.1]) := by
  have h := inText_con i bv s each te pe
  refine con_of Tryz.func119 rfl (dd rfl) fun w0 O0 => ?_
  refine c_seq (c_region ?_)
  refine oV vA ?_
  refine o_nil (c_seq (c_region ?_))
  refine oV (vL lone103) ?_
  refine oV (vL lone3) ?_
  refine oC cl64 (h) fun g _ => ?_
  refine oV vA ?_
  refine o_nil ?_
  refine c_ret1 Tryz.func119 rfl rfl fun w O hS => ?_
  exact ⟨g, rfl, trivial, Ent.get hS (eX (by repeat constructor))⟩
set_option maxRecDepth 100000 in
theorem someS1_con (i b3 b4 b5 b7 : Nat) (bv : Value) (s : St9) (most : Int) (bi be : Nat) (each : Int) (te : TypeId) (pe : Value) : Con Tryz.prog 140 [ptr b3, ptr b4, ptr b7, ptr b5] [BlkR b3 103 [ptr i], BlkR b4 3 [.int .i64 most], Blk b7 23 [.slice none 0 0], BlkR b5 147 [.func (.func 119) #[] #[ptr bi, ptr be]], Blk i 141 [bv, .bool s.2], Sl eByte bv s.1, G1 te pe, G3, BlkR bi 103 [ptr i], BlkR be 3 [.int .i64 each]] (γ := Value × Value) (fun g => g.2) (fun _ => True) (fun g => [Blk i 141 [g.1, .bool (somR (takeText each) most s).1.2], Sl eByte g.1 (somR (takeText each) most s).1.1, Own eStr 9 g.2 (somR (takeText each) most s).2]) := by
  have hfar := num_far (s := s)
  have hN := inNum_con i bv s te pe
  unfold somR
  obtain ⟨s1, n, hn⟩ : ∃ s1 n, takeNum s = (s1, n) := ⟨_, _, rfl⟩
  rw [hn] at hN hfar ⊢
  dsimp only at hN hfar ⊢
  unfold far9 at hfar
  refine con_of Tryz.func140 rfl (dd rfl) fun w0 O0 => ?_
  refine c_seq (c_region ?_)
  refine oV vA ?_
  refine o_nil (c_seq (c_region ?_))
  refine oV (vL lone103) ?_
  refine oC cl63 (hN) fun v1 _ => ?_
  refine oV vA ?_
  refine o_nil (c_seq (c_seq ?_))
  refine c_env (env' := [(0, _), (1, _), (2, _), (3, _), (4, _), (5, _)]) (by repeat (first | exact trivial | refine ⟨rfl, ?_⟩)) ?_
  refine c_joinb (d := 15) (decide (n < 0 ∨ most < n)) ?_ ?_
  rotate_left
  · intro J
    refine c_region ?_
    refine oV vM ?_
    refine oV (v_lt rfl rfl) ?_
    refine oV vM ?_
    first | refine o_guard_f rfl rfl (fun g11 => ?_) (fun g11 => ?_) | refine o_guard rfl rfl (fun g11 => ?_) (fun g11 => ?_)
    · refine oV vM ?_
      refine oN ?_
      refine oV (vL lone3) ?_
      refine oN ?_
      refine oV (v_gt rfl rfl) ?_
      refine oV vQ ?_
      refine o_nil ?_
      exact cJ J rfl (by first | rfl | (simp_all; done) | (simp_all; omega) | (simp; omega))
    · refine oX ?_
      iterate 2 refine oX ?_
      refine oV vT ?_
      refine o_nil ?_
      exact cJ J rfl (by first | rfl | (simp_all; done) | (simp_all; omega) | (simp; omega))
  obtain ⟨s2, hs2⟩ : ∃ s2, s2 = (if n < 0 ∨ most < n then spoil9 s1 else s1) := ⟨_, rfl⟩
  rw [← hs2]
  refine c_joinR (γ := Unit) [(0, _), (2, _), (3, _), (4, _), (5, _)] (fun _ => True) (fun _ => []) (fun _ => [BlkR b3 103 [ptr i], BlkR b4 3 [.int .i64 most], Blk b7 23 [.slice none 0 0], BlkR b5 147 [.func (.func 119) #[] #[ptr bi, ptr be]], Blk i 141 [v1, .bool s2.2], Sl eByte v1 s2.1, G1 te pe, G3, BlkR bi 103 [ptr i], BlkR be 3 [.int .i64 each]]) (by repeat (first | exact trivial | refine ⟨rfl, ?_⟩)) ?_ ?_
  rotate_left
  · intro MEET
    skip
    refine c_cond_p rfl (fun hq => ?_) (fun hq => ?_)
    · have e2 : s2 = (s1.1, true) := by rw [hs2, if_pos hq]; rfl
      subst e2
      refine c_region ?_
      refine oV (vL lone103) ?_
      refine oV (v_nilCheck rfl) ?_
      refine oV (vF 1 Tryz.underlying141 ti4) ?_
      refine o_step (s_store1 ti4 rfl rfl (by first | exact OneC.lit rfl | exact OneC.sl (hX (by repeat constructor)) ) (pB (by repeat constructor)) (by first | decide | exact Nat.le_of_ble_eq_true rfl | simp) (by first | (dsimp only [List.set_cons_succ, List.set_cons_zero]; first | done | exact rfl) | rfl) (?_))
      refine o_nil ?_
      refine cU (MEET (()) (trivial))
    · have e2 : s2 = s1 := by rw [hs2, if_neg hq]
      subst e2
      refine c_skip ?_
      refine cU (MEET (()) (trivial))
  rintro ⟨⟩ -
  dsimp only [List.cons_append, List.nil_append]
  refine c_seq (c_seq (c_region ?_))
  refine oV vA ?_
  refine o_nil (c_block ?_)
  refine c_loopR (γ := Nat × St9 × List ByteArray × Value × Value) [(0, _), (2, _), (3, _), (4, _), (5, _)] (fun g => n.toNat - g.1) (fun g => g.1 ≤ n.toNat ∧ g.2.2.1.length ≤ g.1 ∧ takeMany (takeText each) (n.toNat - g.1) g.2.1 g.2.2.1 = takeMany (takeText each) n.toNat s2 []) (fun g => [(6, .int .i64 g.1)]) (fun g => [BlkR b3 103 [ptr i], BlkR b5 147 [.func (.func 119) #[] #[ptr bi, ptr be]], Blk b7 23 [g.2.2.2.2], Own eStr 9 g.2.2.2.2 g.2.2.1, Blk i 141 [g.2.2.2.1, .bool g.2.1.2], Sl eByte g.2.2.2.1 g.2.1.1, G1 te pe, G3, BlkR bi 103 [ptr i], BlkR be 3 [.int .i64 each]]) ((0, s2, [], v1, .slice none 0 0)) (⟨Nat.zero_le _, Nat.le_refl _, rfl⟩) (by repeat (first | exact trivial | refine ⟨rfl, ?_⟩)) (eX (by repeat constructor)) ?_
  rintro ⟨k, sk, out, r, v⟩ ⟨hk, hlk, hTk⟩ IH
  dsimp only at hk hlk hTk ⊢
  try dsimp only [List.cons_append, List.nil_append]
  refine c_seq (c_seq ?_)
  refine c_env (env' := [(0, _), (2, _), (3, _), (4, _), (5, _), (6, _)]) (by repeat (first | exact trivial | refine ⟨rfl, ?_⟩)) ?_
  refine c_joinb (d := 28) (decide ((k : Int) < n ∧ sk.2 = false)) ?_ ?_
  rotate_left
  · intro J
    refine c_region ?_
    iterate 2 refine oV vM ?_
    refine oV (v_lt rfl rfl) ?_
    refine oV vM ?_
    first | refine o_guard_t rfl rfl (fun g22 => ?_) (fun g22 => ?_) | refine o_guard rfl rfl (fun g22 => ?_) (fun g22 => ?_)
    · refine oV (vL lone103) ?_
      refine oN ?_
      refine oV (v_nilCheck rfl) ?_
      refine oN ?_
      refine oV (vF 1 Tryz.underlying141 ti4) ?_
      refine oN ?_
      refine oV (vL lone4) ?_
      refine oN ?_
      refine oV (v_not rfl) ?_
      refine oV vT ?_
      refine o_nil ?_
      exact cJ J rfl (by first | rfl | (simp_all; done) | (simp_all; omega))
    · refine oX ?_
      iterate 4 refine oX ?_
      refine oV vQ ?_
      refine o_nil ?_
      exact cJ J rfl (by first | rfl | (simp_all; done) | (simp_all; omega))
  refine c_cond_p rfl (fun hlt => ?_) (fun hlt => ?_)
  · have hst := takeMany_step (takeText each) (n := n.toNat) (k := k) (out := out) (by omega) hlt.2
    refine c_skip (c_seq (c_block ?_))
    refine c_heldk 5 [Blk b7 23 [v], BlkR b5 147 [.func (.func 119) #[] #[ptr bi, ptr be]]] rfl ?_
    refine k_take 0 rfl (by kernel_rfl) (by kernel_rfl) (by kernel_rfl) rfl (by kernel_rfl) (vL lone23) (eX (by repeat constructor)) (dd rfl) ?_
    refine k_take 1 rfl (by kernel_rfl) (by kernel_rfl) (by kernel_rfl) rfl (by kernel_rfl) (vL lone147) (eX (by repeat constructor)) (dd rfl) ?_
    refine k_one 2 rfl (by kernel_rfl) fun hc_ => (s_call cl119 (inEach_con i bi be r sk each te pe) (first := []) (cap := [ptr bi, ptr be]) rfl rfl (by rfl) (dd rfl) (pXs (by repeat constructor)) (fun w2 _ => k_on hc_ (eX (by repeat constructor)) ?_))
    refine k_one 3 rfl (by kernel_rfl) fun hc_ => (s_buildSlice Tryz.underlying23 ti9 rfl rfl rfl (by decide) (by decide) (beside_str [(takeText each sk).2]) rfl rfl (dd rfl) (fun v2 => k_on hc_ (eX (by repeat constructor)) ?_))
    refine k_one 4 rfl (by kernel_rfl) fun hc_ => (s_append Tryz.underlying23 ti9 rfl (by decide) rfl rfl (dd rfl) (pB (by repeat constructor)) (pX (by repeat constructor)) rfl (by (first | omega | (simp only [maxLen, List.length_append, List.length_drop, List.length_take, List.length_nil, List.length_cons]; omega))) (by (first | omega | (simp only [maxLen, List.length_append, List.length_drop, List.length_take, List.length_nil, List.length_cons]; omega))) (fun v3 => k_on hc_ (eX (by repeat constructor)) ?_))
    refine k_one 5 rfl (by kernel_rfl) fun hc_ => (s_store1 ti23 rfl rfl (by first | exact OneC.lit rfl | exact OneC.sl (hX (by repeat constructor)) ) (pB (by repeat constructor)) (by first | decide | exact Nat.le_of_ble_eq_true rfl | simp) (by first | (dsimp only [List.set_cons_succ, List.set_cons_zero]; first | done | exact rfl) | rfl) (k_last hc_ (by kernel_rfl) ?_))
    refine k_done (by kernel_rfl) ?_ _
    refine c_inBlock (c_region ?_)
    refine oV vM ?_
    refine oV ((by first | exact v_add64 rfl rfl (by omega) | exact v_add rfl rfl)) ?_
    refine oV vA ?_
    refine o_nil ?_
    refine cU (IH ((k + 1, ((takeText each) sk).1, out ++ [((takeText each) sk).2], w2, v3)) (by first | omega | (dsimp only; omega)) (⟨by dsimp only; omega, by simp; omega, hst.symm.trans hTk⟩))
  · have hend : takeMany (takeText each) (n.toNat - k) sk out = (sk, out) := by
      cases hb : sk.2 with
      | true => exact takeMany_bad _ _ _ _ hb
      | false => exact takeMany_end _ (by have : ¬ (k : Int) < n := fun q => hlt ⟨q, hb⟩; omega)
    refine c_exit rfl ?_
    refine c_seq (c_region ?_)
    refine oV (vL lone23) ?_
    refine oV vA ?_
    refine o_nil ?_
    refine c_ret1 Tryz.func140 rfl rfl fun w O hS => ?_
    exact ⟨(r, v), rfl, trivial, by rw [← hTk, hend]; exact Ent.get hS (eX (by repeat constructor))⟩
set_option maxRecDepth 100000 in
theorem alwaysS_con (v : Value) : Con Tryz.prog 142 [v] [] (γ := Unit) (fun _ => .bool true) (fun _ => True) (fun _ => []) := by
  refine con_of Tryz.func142 rfl (dd rfl) fun w0 O0 => ?_
  refine c_seq (c_region ?_)
  refine oV vA ?_
  refine o_nil (c_seq (c_region ?_))
  refine oV vA ?_
  refine o_nil ?_
  refine c_ret1 Tryz.func142 rfl rfl fun w O hS => ?_
  exact ⟨(), rfl, trivial, trivial⟩
set_option maxRecDepth 100000 in
theorem wholeS_con (i b3 b4 b5 b7 : Nat) (bv : Value) (s : St9) (most : Int) (bi be : Nat) (each : Int) (te : TypeId) (pe : Value) : Con Tryz.prog 141 [ptr i, .func (.func 140) #[] #[ptr b3, ptr b4, ptr b7, ptr b5], .func (.func 142) #[] #[]] [BlkR b3 103 [ptr i], BlkR b4 3 [.int .i64 most], Blk b7 23 [.slice none 0 0], BlkR b5 147 [.func (.func 119) #[] #[ptr bi, ptr be]], Blk i 141 [bv, .bool s.2], Sl eByte bv s.1, G1 te pe, G3, BlkR bi 103 [ptr i], BlkR be 3 [.int .i64 each]] (γ := Value × Value) (fun g => g.2) (fun _ => True) (fun g => [Blk i 141 [g.1, .bool (takeSome (takeText each) most s).1.2], Sl eByte g.1 (takeSome (takeText each) most s).1.1, Own eStr 9 g.2 (takeSome (takeText each) most s).2]) := by
  have h1 := someS1_con i b3 b4 b5 b7 bv s most bi be each te pe
  have h2 := fun v => alwaysS_con v
  rw [some_as]
  refine con_of Tryz.func141 rfl (dd rfl) fun w0 O0 => ?_
  refine c_seq (c_region ?_)
  refine oV vA ?_
  refine o_nil (c_seq (c_region ?_))
  refine oV vM ?_
  refine oV (v_nilCheck rfl) ?_
  refine oV (vF 0 Tryz.underlying141 ti38) ?_
  refine oV (vL lone38) ?_
  refine oV vA ?_
  refine o_nil (c_seq (c_region ?_))
  refine oV vM ?_
  refine o_step (s_call cl140 (h1) (first := []) (cap := [ptr b3, ptr b4, ptr b7, ptr b5]) rfl rfl (by rfl) (dd rfl) (pXs (by repeat constructor)) fun g _ => ?_)
  refine oV vA ?_
  refine o_nil (c_seq (c_seq (c_region ?_)))
  refine oV vM ?_
  refine oV (v_nilCheck rfl) ?_
  refine oV (vF 1 Tryz.underlying141 ti4) ?_
  refine oV (vL lone4) ?_
  refine oV (v_not rfl) ?_
  refine oV vM ?_
  refine o_guard rfl rfl (fun hb => ?_) (fun hb => ?_)
  · have hb2 : (somR (takeText each) most s).1.2 = false := by simpa using hb
    rw [if_neg (by rw [hb2]; decide)]
    refine oV vM ?_
    refine oN ?_
    refine oV vM ?_
    refine oN ?_
    refine o_step (s_call cl142 (h2 g.2) (first := []) (cap := []) rfl rfl (by rfl) (dd rfl) (pXs (by repeat constructor)) fun _ _ => ?_)
    refine oV vT ?_
    refine o_nil ?_
    refine c_cond_t rfl ?_
    refine c_seq (c_region ?_)
    refine oV vM ?_
    refine oV vA ?_
    refine o_nil ?_
    refine c_ret1 Tryz.func141 rfl rfl fun w O hS => ?_
    exact ⟨g, rfl, trivial, Ent.get hS (eX (by repeat constructor))⟩
  · have hb2 : (somR (takeText each) most s).1.2 = true := by simpa using hb
    rw [if_pos hb2]
    iterate 3 refine oX ?_
    refine oV vQ ?_
    refine o_nil ?_
    refine c_cond_f rfl ?_
    refine c_skip (c_seq (c_region ?_))
    refine oV vA ?_
    refine o_nil (c_seq (c_region ?_))
    iterate 3 refine oV vM ?_
    refine oV (v_nilCheck rfl) ?_
    refine oV (vF 0 Tryz.underlying141 ti38) ?_
    refine o_step (s_store1 ti38 rfl rfl (by first | exact OneC.lit rfl | exact OneC.sl (hX (by repeat constructor)) ) (pB (by repeat constructor)) (by first | decide | exact Nat.le_of_ble_eq_true rfl | simp) (by first | (dsimp only [List.set_cons_succ, List.set_cons_zero]; first | done | exact rfl) | rfl) (?_))
    refine oV (v_nilCheck rfl) ?_
    refine oV (vF 1 Tryz.underlying141 ti4) ?_
    refine o_step (s_store1 ti4 rfl rfl (by first | exact OneC.lit rfl | exact OneC.sl (hX (by repeat constructor)) ) (pB (by repeat constructor)) (by first | decide | exact Nat.le_of_ble_eq_true rfl | simp) (by first | (dsimp only [List.set_cons_succ, List.set_cons_zero]; first | done | exact rfl) | rfl) (?_))
    refine o_nil (c_seq (c_region ?_))
    refine oV vM ?_
    refine oV vA ?_
    refine o_nil ?_
    refine c_ret1 Tryz.func141 rfl rfl fun w O hS => ?_
    exact ⟨(bv, .slice none 0 0), rfl, trivial, Ent.get hS (eX (by repeat constructor))⟩
set_option maxRecDepth 100000 in
theorem someS_con (i : Nat) (bv : Value) (s : St9) (most : Int) (bi be : Nat) (each : Int) (te : TypeId) (pe : Value) : Con Tryz.prog 118 [ptr i, .int .i64 most, .func (.func 119) #[] #[ptr bi, ptr be]] [Blk i 141 [bv, .bool s.2], Sl eByte bv s.1, G1 te pe, G3, BlkR bi 103 [ptr i], BlkR be 3 [.int .i64 each]] (γ := Value × Value) (fun g => g.2) (fun _ => True) (fun g => [Blk i 141 [g.1, .bool (takeSome (takeText each) most s).1.2], Sl eByte g.1 (takeSome (takeText each) most s).1.1, Own eStr 9 g.2 (takeSome (takeText each) most s).2]) := by
  refine con_of Tryz.func118 rfl (dd rfl) fun w0 O0 => ?_
  refine c_seq (c_region ?_)
  refine o_step (s_box rfl (dd rfl) (fun b3 => ?_))
  refine o_step (s_box rfl (dd rfl) (fun b4 => ?_))
  refine o_step (s_box rfl (dd rfl) (fun b5 => ?_))
  refine oV vA ?_
  refine o_nil (c_seq (c_region ?_))
  refine o_step (s_alloc ti23 (dd rfl) (fun b7 => ?_))
  refine o_nil (c_seq (c_region ?_))
  refine oV (v_makeFunc rfl rfl) ?_
  refine oV vA ?_
  refine o_nil (c_seq (c_region ?_))
  refine oV (vL lone103) ?_
  refine oV vM ?_
  have h := wholeS_con i b3 b4 b5 b7 bv s most bi be each te pe
  refine oC cl141 (h) fun g _ => ?_
  refine oV vA ?_
  refine o_nil ?_
  refine c_ret1 Tryz.func118 rfl rfl fun w O hS => ?_
  exact ⟨g, rfl, trivial, Ent.get hS (eX (by repeat constructor))⟩
set_option maxRecDepth 100000 in
theorem inTexts_con (i : Nat) (bv : Value) (s : St9) (most each : Int) (te : TypeId) (pe : Value) : Con Tryz.prog 66 [ptr i, .int .i64 most, .int .i64 each] [Blk i 141 [bv, .bool s.2], Sl eByte bv s.1, G1 te pe, G3] (γ := Value × Value) (fun g => g.2) (fun _ => True) (fun g => [Blk i 141 [g.1, .bool (takeTexts most each s).1.2], Sl eByte g.1 (takeTexts most each s).1.1, Own eStr 9 g.2 (takeTexts most each s).2]) := by
  unfold takeTexts
  refine con_of Tryz.func66 rfl (dd rfl) fun w0 O0 => ?_
  refine c_seq (c_region ?_)
  refine o_step (s_box rfl (dd rfl) (fun b3 => ?_))
  refine o_step (s_box rfl (dd rfl) (fun b5 => ?_))
  refine oV vA ?_
  refine o_nil (c_seq (c_region ?_))
  refine oV (vL lone103) ?_
  refine oV vM ?_
  refine oV (v_makeFunc rfl rfl) ?_
  have h := someS_con i bv s most b3 b5 each te pe
  refine oC cl118 (h) fun g _ => ?_
  refine oV vA ?_
  refine o_nil ?_
  refine c_ret1 Tryz.func66 rfl rfl fun w O hS => ?_
  exact ⟨g, rfl, trivial, Ent.get hS (eX (by repeat constructor))⟩
end Go.Proofs.YtlfehnnmpkohkaaGreatDoor
/- Chapter 09: the program's reader: numbers. -/
namespace Go.Proofs.YtlfehnnmpkohkaaGreatDoor
open Go Go.SL Go.Lib
attribute [local irreducible] Cfg Kont StepK Val Con Qops Any Sl Own Blk BlkR Rd Pu ExA AllA Has Pick Ent Elem Beside Callable TI Lone OwnO AndA
end Go.Proofs.YtlfehnnmpkohkaaGreatDoor
/- Chapter 1's plain laws: what lines, texts and rows of lines come to. No program. -/
namespace L01
abbrev Ls := List ByteArray

def bytesOf : List Ls → Nat
  | [] => 0
  | l :: r => (l.map (·.size)).sum + bytesOf r
def linesOf : List Ls → Nat
  | [] => 0
  | l :: r => l.length + linesOf r
def Stands (xs : Ls) (k : Int) (ps : Ls) : Prop := 0 ≤ k ∧ k.toNat + ps.length ≤ xs.length ∧ (xs.drop k.toNat).take ps.length = ps
instance (xs : Ls) (k : Int) (ps : Ls) : Decidable (Stands xs k ps) := by unfold Stands; infer_instance
def IsFind (xs ps : Ls) (fr r : Int) : Prop := (r = -1 ∧ ∀ a, fr ≤ a → ¬ Stands xs a ps) ∨ (fr ≤ r ∧ Stands xs r ps ∧ ∀ a, fr ≤ a → a < r → ¬ Stands xs a ps)
def IsHead (a b : Ls) (n : Nat) : Prop := n ≤ a.length ∧ n ≤ b.length ∧ a.take n = b.take n ∧ ∀ k, k ≤ a.length → k ≤ b.length → a.take k = b.take k → k ≤ n
def IsTail (a b : Ls) (n : Nat) : Prop := n ≤ a.length ∧ n ≤ b.length ∧ a.drop (a.length - n) = b.drop (b.length - n) ∧ ∀ k, k ≤ a.length → k ≤ b.length → a.drop (a.length - k) = b.drop (b.length - k) → k ≤ n
def RightS (s : ByteArray) : Prop := 10 ∉ s.data.toList ∧ s.size ≤ 60
instance (s : ByteArray) : Decidable (RightS s) := by unfold RightS; infer_instance
def nl : ByteArray := ⟨#[10]⟩
def textS : Ls → ByteArray
  | [] => ByteArray.empty
  | x :: l => x ++ nl ++ textS l
/-- The pieces of a text: a piece ends at each byte 10; what is left behind the last one is one, too, if there is something. -/
def cutGo : List UInt8 → List UInt8 → List (List UInt8)
  | cur, [] => if cur = [] then [] else [cur]
  | cur, b :: l => if b = 10 then cur :: cutGo [] l else cutGo (cur ++ [b]) l
def cutS (s : ByteArray) : Ls := (cutGo [] s.data.toList).map fun l => ⟨l.toArray⟩
end L01
/- Chapter 09: lines: which may be, and which rows are the same (turned from chapter 01's walks). -/
namespace Go.Proofs.YtlfehnnmpkohkaaGreatDoor
open Go Go.SL L01
attribute [local irreducible] Cfg Kont StepK Val Con Qops Any Sl Own Blk BlkR Rd Pu ExA AllA Has Pick Ent Elem Beside Callable TI Lone OwnO AndA
set_option maxRecDepth 100000 in
/-- slices.Equal and the document's Same. -/
theorem equal_con (v u : Value) (xs ys : Ls) (hx : xs.length ≤ 1000000) (hy : ys.length ≤ 1000000) :
    Con Tryz.prog 105 [v, u] [Sl eStr v xs, Sl eStr u ys] (γ := Unit) (fun _ => .bool (decide (xs = ys))) (fun _ => True) (fun _ => []) := by
  refine con_of Tryz.func105 rfl (dd rfl) fun w0 O0 => ?_
  refine c_seq (c_region ?_)
  refine oV vA ?_
  refine o_nil (c_seq (c_seq (c_region ?_)))
  refine oV vM ?_
  refine oV ((by first | exact v_len_form Tryz.underlying23 rfl | exact v_len_sl Tryz.underlying23 rfl (hX (by repeat constructor)))) ?_
  refine oV vM ?_
  refine oV ((by first | exact v_len_form Tryz.underlying23 rfl | exact v_len_sl Tryz.underlying23 rfl (hX (by repeat constructor)))) ?_
  refine oV (v_ne rfl rfl) ?_
  refine o_nil ?_
  refine c_cond_p rfl (fun h => ?_) (fun h => ?_)
  · refine c_seq (c_region ?_)
    refine oV vA ?_
    refine o_nil ?_
    refine c_ret1 Tryz.func105 rfl rfl fun w O hS => ?_
    exact ⟨(), by rw [decide_eq_false (fun e => h (by rw [e]))], trivial, trivial⟩
  · refine c_skip (c_seq (c_seq (c_region ?_)))
    refine oV vM ?_
    refine oV ((by first | exact v_len_form Tryz.underlying23 rfl | exact v_len_sl Tryz.underlying23 rfl (hX (by repeat constructor)))) ?_
    refine oV vM ?_
    refine o_nil (c_block ?_)
    refine c_loop (γ := Nat) (fun k => xs.length - k) (fun k => k ≤ xs.length ∧ xs.take k = ys.take k) (fun k => [(13, .int .i64 k), (12, .int .i64 xs.length), (0, v), (1, u)]) (fun _ => [Sl eStr v xs, Sl eStr u ys]) 0 ⟨Nat.zero_le _, rfl⟩ ⟨rfl, rfl, rfl, rfl, trivial⟩ (Ent.refl _) ?_
    intro k ⟨hk, he⟩ IH
    try dsimp only [List.cons_append, List.nil_append]
    refine c_seq (c_region ?_)
    refine oV (v_lt rfl rfl) ?_
    refine o_nil (c_seq ?_)
    refine c_cond_p rfl (fun hlt => ?_) (fun hlt => ?_)
    · refine c_skip (c_seq (c_block (c_seq (c_region ?_))))
      refine oV vM ?_
      refine oV vA ?_
      refine o_nil (c_seq ?_)
      refine c_quiet rfl (by kernel_rfl) ?_
      refine qV vM ?_
      refine qV vM ?_
      refine qV ((by first | exact v_indexAddrN Tryz.underlying23 ti9 rfl rfl (hX (by repeat constructor)) (by omega) | exact v_indexAddr Tryz.underlying23 ti9 rfl rfl (hX (by repeat constructor)) (by omega))) ?_
      refine qV (v_load_str lone9 rfl (by repeat (first | exact Elem.sl (List.getElem?_eq_getElem (by omega)) | exact Elem.own (List.getElem?_eq_getElem (by omega)) | exact Elem.ownO (List.getElem?_eq_getElem (by omega)) | apply Elem.there))) ?_
      refine qV vM ?_
      refine qV vM ?_
      refine qV ((by first | exact v_indexAddrN Tryz.underlying23 ti9 rfl rfl (hX (by repeat constructor)) (by omega) | exact v_indexAddr Tryz.underlying23 ti9 rfl rfl (hX (by repeat constructor)) (by omega))) ?_
      refine qV (v_load_str lone9 rfl (by repeat (first | exact Elem.sl (List.getElem?_eq_getElem (by omega)) | exact Elem.own (List.getElem?_eq_getElem (by omega)) | exact Elem.ownO (List.getElem?_eq_getElem (by omega)) | apply Elem.there))) ?_
      refine qV (v_sne rfl rfl) ?_
      refine q_nil ?_
      refine c_cond_p rfl (fun hne => ?_) (fun hne => ?_)
      · refine c_seq (c_region ?_)
        refine oV vA ?_
        refine o_nil ?_
        refine c_ret1 Tryz.func105 rfl rfl fun w O hS => ?_
        exact ⟨(), by rw [decide_eq_false]; intro e; subst e; exact hne rfl, trivial, trivial⟩
      · refine c_skip (c_inBlock (c_region ?_))
        refine oV ((by first | exact v_add64 rfl rfl (by omega) | exact v_add rfl rfl)) ?_
        refine oV vM ?_
        refine o_nil ?_
        refine c_use (IH (k + 1) (by omega) ⟨by omega, ?_⟩) ⟨rfl, rfl, rfl, rfl, trivial⟩ (Ent.refl _)
        rw [List.take_succ_eq_append_getElem (by omega), List.take_succ_eq_append_getElem (by omega), he, Decidable.not_not.1 hne]
    · refine c_exit rfl ?_
      refine c_seq (c_region ?_)
      refine oV vA ?_
      refine o_nil ?_
      refine c_ret1 Tryz.func105 rfl rfl fun w O hS => ?_
      refine ⟨(), ?_, trivial, trivial⟩
      rw [List.take_of_length_le (by omega), List.take_of_length_le (by omega)] at he
      rw [decide_eq_true he]
set_option maxRecDepth 100000 in
theorem same_ref_con (v u : Value) (xs ys : Ls) (hx : xs.length ≤ 1000000) (hy : ys.length ≤ 1000000) :
    Con Tryz.prog 49 [v, u] [Sl eStr v xs, Sl eStr u ys] (γ := Unit) (fun _ => .bool (decide (xs = ys))) (fun _ => True) (fun _ => []) := by
  refine con_of Tryz.func49 rfl (dd rfl) fun w0 O0 => ?_
  refine c_seq (c_region ?_)
  refine oV vA ?_
  refine o_nil (c_seq (c_seq (c_region ?_)))
  refine oV vM ?_
  refine oV ((by first | exact v_len_form Tryz.underlying23 rfl | exact v_len_sl Tryz.underlying23 rfl (hX (by repeat constructor)))) ?_
  refine oV vM ?_
  refine oV ((by first | exact v_len_form Tryz.underlying23 rfl | exact v_len_sl Tryz.underlying23 rfl (hX (by repeat constructor)))) ?_
  refine oV (v_ne rfl rfl) ?_
  refine o_nil ?_
  refine c_cond_p rfl (fun h => ?_) (fun h => ?_)
  · refine c_seq (c_region ?_)
    refine oV vA ?_
    refine o_nil ?_
    refine c_ret1 Tryz.func49 rfl rfl fun w O hS => ?_
    exact ⟨(), by rw [decide_eq_false (fun e => h (by rw [e]))], trivial, trivial⟩
  · refine c_skip (c_seq (c_seq (c_region ?_)))
    refine oV vA ?_
    refine o_nil (c_block ?_)
    refine c_loop (γ := Nat) (fun k => xs.length - k) (fun k => k ≤ xs.length ∧ xs.take k = ys.take k) (fun k => [(5, .int .i64 k), (0, v), (1, u)]) (fun _ => [Sl eStr v xs, Sl eStr u ys]) 0 ⟨Nat.zero_le _, rfl⟩ ⟨rfl, rfl, rfl, trivial⟩ (Ent.refl _) ?_
    intro k ⟨hk, he⟩ IH
    try dsimp only [List.cons_append, List.nil_append]
    refine c_seq (c_seq (c_region ?_))
    iterate 2 refine oV vM ?_
    refine oV ((by first | exact v_len_form Tryz.underlying23 rfl | exact v_len_sl Tryz.underlying23 rfl (hX (by repeat constructor)))) ?_
    refine oV (v_lt rfl rfl) ?_
    refine o_nil ?_
    refine c_cond_p rfl (fun hlt => ?_) (fun hlt => ?_)
    · refine c_skip (c_seq (c_block (c_seq ?_)))
      refine c_quiet rfl (by kernel_rfl) ?_
      refine qV vM ?_
      refine qV vM ?_
      refine qV ((by first | exact v_indexAddrN Tryz.underlying23 ti9 rfl rfl (hX (by repeat constructor)) (by omega) | exact v_indexAddr Tryz.underlying23 ti9 rfl rfl (hX (by repeat constructor)) (by omega))) ?_
      refine qV (v_load_str lone9 rfl (by repeat (first | exact Elem.sl (List.getElem?_eq_getElem (by omega)) | exact Elem.own (List.getElem?_eq_getElem (by omega)) | exact Elem.ownO (List.getElem?_eq_getElem (by omega)) | apply Elem.there))) ?_
      refine qV vM ?_
      refine qV vM ?_
      refine qV ((by first | exact v_indexAddrN Tryz.underlying23 ti9 rfl rfl (hX (by repeat constructor)) (by omega) | exact v_indexAddr Tryz.underlying23 ti9 rfl rfl (hX (by repeat constructor)) (by omega))) ?_
      refine qV (v_load_str lone9 rfl (by repeat (first | exact Elem.sl (List.getElem?_eq_getElem (by omega)) | exact Elem.own (List.getElem?_eq_getElem (by omega)) | exact Elem.ownO (List.getElem?_eq_getElem (by omega)) | apply Elem.there))) ?_
      refine qV (v_sne rfl rfl) ?_
      refine q_nil ?_
      refine c_cond_p rfl (fun hne => ?_) (fun hne => ?_)
      · refine c_seq (c_region ?_)
        refine oV vA ?_
        refine o_nil ?_
        refine c_ret1 Tryz.func49 rfl rfl fun w O hS => ?_
        exact ⟨(), by rw [decide_eq_false]; intro e; subst e; exact hne rfl, trivial, trivial⟩
      · refine c_skip (c_inBlock (c_region ?_))
        refine oV vM ?_
        refine oV ((by first | exact v_add64 rfl rfl (by omega) | exact v_add rfl rfl)) ?_
        refine oV vA ?_
        refine o_nil ?_
        refine c_use (IH (k + 1) (by omega) ⟨by omega, ?_⟩) ⟨rfl, rfl, rfl, trivial⟩ (Ent.refl _)
        rw [List.take_succ_eq_append_getElem (by omega), List.take_succ_eq_append_getElem (by omega), he, Decidable.not_not.1 hne]
    · refine c_exit rfl ?_
      refine c_seq (c_region ?_)
      refine oV vA ?_
      refine o_nil ?_
      refine c_ret1 Tryz.func49 rfl rfl fun w O hS => ?_
      refine ⟨(), ?_, trivial, trivial⟩
      rw [List.take_of_length_le (by omega), List.take_of_length_le (by omega)] at he
      rw [decide_eq_true he]
set_option maxRecDepth 100000 in
theorem same_con (v u : Value) (xs ys : Ls) (hx : xs.length ≤ 1000000) (hy : ys.length ≤ 1000000) :
    Con Tryz.prog 46 [v, u] [Sl eStr v xs, Sl eStr u ys] (γ := Unit) (fun _ => .bool (decide (xs = ys))) (fun _ => True) (fun _ => []) := by
  refine con_of Tryz.func46 rfl (dd rfl) fun w0 O0 => ?_
  refine c_seq (c_region ?_)
  refine oV vA ?_
  refine o_nil (c_seq (c_region ?_))
  iterate 2 refine oV vM ?_
  refine oC cl105 (equal_con v u xs ys hx hy) fun _ _ => ?_
  refine oV vA ?_
  refine o_nil ?_
  refine c_ret1 Tryz.func46 rfl rfl fun w O hS => ?_
  exact ⟨(), rfl, trivial, trivial⟩
set_option maxRecDepth 100000 in
theorem right_ref_con (s : ByteArray) (hs : s.size ≤ 1000000) :
    Con Tryz.prog 42 [.string s] [] (γ := Unit) (fun _ => .bool (decide (RightS s))) (fun _ => True) (fun _ => []) := by
  refine con_of Tryz.func42 rfl (dd rfl) fun w0 O0 => ?_
  refine c_seq (c_region ?_)
  refine oV vA ?_
  refine o_nil (c_seq (c_seq (c_region ?_)))
  refine oV vA ?_
  refine o_nil (c_block ?_)
  refine c_loop (γ := Nat) (fun k => s.size - k) (fun k => k ≤ s.size ∧ 10 ∉ s.data.toList.take k) (fun k => [(3, .int .i64 k), (0, .string s)]) (fun _ => []) 0 ⟨Nat.zero_le _, by simp⟩ ⟨rfl, rfl, trivial⟩ (Ent.refl _) ?_
  intro k ⟨hk, hn⟩ IH
  try dsimp only [List.cons_append, List.nil_append]
  refine c_seq (c_seq (c_region ?_))
  iterate 2 refine oV vM ?_
  refine oV (v_len_str Tryz.underlying9 rfl) ?_
  refine oV (v_lt rfl rfl) ?_
  refine o_nil ?_
  refine c_cond_p rfl (fun hlt => ?_) (fun hlt => ?_)
  · refine c_skip (c_seq (c_block (c_seq (c_region ?_))))
    iterate 2 refine oV vM ?_
    refine oV (v_index_str Tryz.underlying9 rfl rfl (by omega)) ?_
    refine oV (v_eq rfl rfl) ?_
    refine o_nil ?_
    refine c_cond_p rfl (fun h10 => ?_) (fun h10 => ?_)
    · refine c_seq (c_region ?_)
      refine oV vA ?_
      refine o_nil ?_
      refine c_ret1 Tryz.func42 rfl rfl fun w O hS => ?_
      refine ⟨(), ?_, trivial, trivial⟩
      rw [decide_eq_false]
      rintro ⟨g, _⟩
      rw [sAt_nat _ _ (by omega)] at h10
      have e10 : s.data.toList[k]'(by rw [← Lib.size_eq]; omega) = 10 := byte_of (n := 10) h10 (by omega)
      exact g (by rw [← e10]; exact List.getElem_mem _)
    · refine c_skip (c_inBlock (c_region ?_))
      refine oV vM ?_
      refine oV ((by first | exact v_add64 rfl rfl (by omega) | exact v_add rfl rfl)) ?_
      refine oV vA ?_
      refine o_nil ?_
      refine c_use (IH (k + 1) (by omega) ⟨by omega, ?_⟩) ⟨rfl, rfl, trivial⟩ (Ent.refl _)
      have hk2 : k < s.data.toList.length := by rw [← Lib.size_eq]; omega
      rw [List.take_succ_eq_append_getElem hk2]
      intro hm
      rcases List.mem_append.1 hm with h | h
      · exact hn h
      · simp only [List.mem_singleton] at h
        rw [sAt_nat _ _ (by omega), ← h] at h10
        exact h10 rfl
  · refine c_exit rfl ?_
    refine c_seq (c_region ?_)
    refine oV vM ?_
    refine oV (v_len_str Tryz.underlying9 rfl) ?_
    refine oV (v_le rfl rfl) ?_
    refine oV vA ?_
    refine o_nil ?_
    refine c_ret1 Tryz.func42 rfl rfl fun w O hS => ?_
    refine ⟨(), ?_, trivial, trivial⟩
    rw [List.take_of_length_le (by rw [← Lib.size_eq]; omega)] at hn
    congr 1
    rw [decide_eq_decide]
    exact ⟨fun h => ⟨hn, by omega⟩, fun h => by have := h.2; omega⟩
set_option maxRecDepth 100000 in
theorem all_ref_con (v : Value) (xs : Ls) (hx : xs.length ≤ 1000000) (hs : ∀ x ∈ xs, x.size ≤ 1000000) :
    Con Tryz.prog 135 [v] [Sl eStr v xs] (γ := Unit) (fun _ => .bool (decide (∀ x ∈ xs, RightS x))) (fun _ => True) (fun _ => []) := by
  refine con_of Tryz.func135 rfl (dd rfl) fun w0 O0 => ?_
  refine c_seq (c_region ?_)
  refine oV vA ?_
  refine o_nil (c_seq (c_seq (c_region ?_)))
  refine oV vA ?_
  refine o_nil (c_block ?_)
  refine c_loop (γ := Nat) (fun k => xs.length - k) (fun k => k ≤ xs.length ∧ ∀ x ∈ xs.take k, RightS x) (fun k => [(3, .int .i64 k), (0, v)]) (fun _ => [Sl eStr v xs]) 0 ⟨Nat.zero_le _, by simp⟩ ⟨rfl, rfl, trivial⟩ (Ent.refl _) ?_
  intro k ⟨hk, hn⟩ IH
  try dsimp only [List.cons_append, List.nil_append]
  refine c_seq (c_seq (c_region ?_))
  iterate 2 refine oV vM ?_
  refine oV ((by first | exact v_len_form Tryz.underlying23 rfl | exact v_len_sl Tryz.underlying23 rfl (hX (by repeat constructor)))) ?_
  refine oV (v_lt rfl rfl) ?_
  refine o_nil ?_
  refine c_cond_p rfl (fun hlt => ?_) (fun hlt => ?_)
  · refine c_skip (c_seq (c_block (c_seq (c_region ?_))))
    iterate 2 refine oV vM ?_
    refine oV ((by first | exact v_indexAddrN Tryz.underlying23 ti9 rfl rfl (hX (by repeat constructor)) (by omega) | exact v_indexAddr Tryz.underlying23 ti9 rfl rfl (hX (by repeat constructor)) (by omega))) ?_
    refine oV (v_load_str lone9 rfl (by repeat (first | exact Elem.sl (List.getElem?_eq_getElem (by omega)) | exact Elem.own (List.getElem?_eq_getElem (by omega)) | exact Elem.ownO (List.getElem?_eq_getElem (by omega)) | apply Elem.there))) ?_
    refine oC cl42 (right_ref_con _ (hs _ (List.getElem_mem _))) fun _ _ => ?_
    refine oV (v_not rfl) ?_
    refine o_nil ?_
    refine c_cond rfl (fun hr => ?_) (fun hr => ?_)
    · refine c_seq (c_region ?_)
      refine oV vA ?_
      refine o_nil ?_
      refine c_ret1 Tryz.func135 rfl rfl fun w O hS => ?_
      refine ⟨(), ?_, trivial, trivial⟩
      rw [decide_eq_false]
      intro hall
      have := hall _ (List.getElem_mem (l := xs) (n := k) (by omega))
      simp [this] at hr
    · refine c_skip (c_inBlock (c_region ?_))
      refine oV vM ?_
      refine oV ((by first | exact v_add64 rfl rfl (by omega) | exact v_add rfl rfl)) ?_
      refine oV vA ?_
      refine o_nil ?_
      refine c_use (IH (k + 1) (by omega) ⟨by omega, ?_⟩) ⟨rfl, rfl, trivial⟩ (Ent.refl _)
      rw [List.take_succ_eq_append_getElem (by omega)]
      intro x hx'
      rcases List.mem_append.1 hx' with h | h
      · exact hn x h
      · simp at h; subst h; simpa using hr
  · refine c_exit rfl ?_
    refine c_seq (c_region ?_)
    refine oV vA ?_
    refine o_nil ?_
    refine c_ret1 Tryz.func135 rfl rfl fun w O hS => ?_
    refine ⟨(), ?_, trivial, trivial⟩
    rw [List.take_of_length_le (by omega)] at hn
    rw [decide_eq_true hn]
end Go.Proofs.YtlfehnnmpkohkaaGreatDoor
/- Chapter 09: lines: which may be, and which rows are the same (turned from chapter 01's walks). -/
namespace Go.Proofs.YtlfehnnmpkohkaaGreatDoor
open Go Go.SL L01
attribute [local irreducible] Cfg Kont StepK Val Con Qops Any Sl Own Blk BlkR Rd Pu ExA AllA Has Pick Ent Elem Beside Callable TI Lone OwnO AndA
theorem indexByte_mem (l : List UInt8) (c : UInt8) : 0 ≤ Lib.indexByte l c ↔ c ∈ l := by
  have := Lib.contains_iff_indexByte l c
  rw [← List.contains_iff_mem, this, decide_eq_true_iff]
theorem contains_con (s : ByteArray) : Con Tryz.prog 130 [.string s, .string nl] [] (γ := Unit) (fun _ => .bool (decide (10 ∈ s.data.toList))) (fun _ => True) (fun _ => []) :=
  con_pure fun w _ _ => (Tryz.strings_Contains_one s 10 w).mono fun e w' ⟨he, hw⟩ => ⟨by rw [he]; congr 2; exact decide_eq_decide.2 (indexByte_mem _ _), hw⟩
set_option maxRecDepth 100000 in
theorem right_con (s : ByteArray) :
    Con Tryz.prog 92 [.string s] [] (γ := Unit) (fun _ => .bool (decide (RightS s))) (fun _ => True) (fun _ => []) := by
  refine con_of Tryz.func92 rfl (dd rfl) fun w0 O0 => ?_
  refine c_seq (c_region ?_)
  refine oV vA ?_
  refine o_nil (c_seq (c_region ?_))
  refine oV vM ?_
  refine oV (v_len_str Tryz.underlying9 rfl) ?_
  refine oV (v_le rfl rfl) ?_
  refine oV vM ?_
  refine o_guard_t rfl rfl (fun h => ?_) (fun h => ?_)
  · refine oV vM ?_
    refine oN ?_
    refine oC cl130 (contains_con s) fun _ _ => ?_
    refine oN ?_
    refine oV (v_not rfl) ?_
    refine oV vT ?_
    refine oV vA ?_
    refine o_nil ?_
    refine c_ret1 Tryz.func92 rfl rfl fun w O hS => ?_
    refine ⟨(), ?_, trivial, trivial⟩
    have : decide (RightS s) = !decide (10 ∈ s.data.toList) := by
      rw [← decide_not]
      exact decide_eq_decide.2 ⟨fun h => h.1, fun g => ⟨g, by omega⟩⟩
    rw [this]
  · refine oX ?_
    iterate 2 refine oX ?_
    refine oV vQ ?_
    refine oV vA ?_
    refine o_nil ?_
    refine c_ret1 Tryz.func92 rfl rfl fun w O hS => ?_
    refine ⟨(), ?_, trivial, trivial⟩
    rw [decide_eq_false (fun g : RightS s => h (by have := g.2; omega))]
set_option maxRecDepth 100000 in
theorem notright_con (s : ByteArray) :
    Con Tryz.prog 169 [.string s] [] (γ := Unit) (fun _ => .bool (!decide (RightS s))) (fun _ => True) (fun _ => []) := by
  refine con_of Tryz.func169 rfl (dd rfl) fun w0 O0 => ?_
  refine c_seq (c_region ?_)
  refine oV vA ?_
  refine o_nil (c_seq (c_region ?_))
  refine oV vM ?_
  refine oC cl92 (right_con s) fun _ _ => ?_
  refine oV (v_not rfl) ?_
  refine oV vA ?_
  refine o_nil ?_
  refine c_ret1 Tryz.func169 rfl rfl fun w O hS => ?_
  exact ⟨(), rfl, trivial, trivial⟩
set_option maxRecDepth 100000 in
theorem indexf_con (v : Value) (xs : Ls) (hx : xs.length ≤ 1000000) :
    Con Tryz.prog 159 [v, .func (.func 169) #[] #[]] [Sl eStr v xs] (γ := Int) (fun r => .int .i64 r) (fun r => 0 ≤ r ↔ ∃ x ∈ xs, ¬ RightS x) (fun _ => []) := by
  refine con_of Tryz.func159 rfl (dd rfl) fun w0 O0 => ?_
  refine c_seq (c_region ?_)
  refine oV vA ?_
  refine o_nil (c_seq (c_seq (c_region ?_)))
  refine oV vM ?_
  refine oV ((by first | exact v_len_form Tryz.underlying23 rfl | exact v_len_sl Tryz.underlying23 rfl (hX (by repeat constructor)))) ?_
  refine oV vM ?_
  refine o_nil (c_block ?_)
  refine c_loop (γ := Nat) (fun i => xs.length - i) (fun i => i ≤ xs.length ∧ ∀ x ∈ xs.take i, RightS x) (fun i => [(8, .int .i64 i), (7, .int .i64 xs.length), (0, v), (1, .func (.func 169) #[] #[])]) (fun _ => [Sl eStr v xs]) 0 ⟨Nat.zero_le _, by simp⟩ ⟨rfl, rfl, rfl, rfl, trivial⟩ (Ent.refl _) ?_
  intro i ⟨hi, hr⟩ IH
  try dsimp only [List.cons_append, List.nil_append]
  refine c_seq (c_region ?_)
  refine oV (v_lt rfl rfl) ?_
  refine o_nil (c_seq ?_)
  refine c_cond_p rfl (fun hlt => ?_) (fun hlt => ?_)
  · refine c_skip (c_seq (c_block (c_seq (c_region ?_))))
    refine oV vM ?_
    refine oV vA ?_
    refine o_nil (c_seq (c_region ?_))
    iterate 3 refine oV vM ?_
    refine oV ((by first | exact v_indexAddrN Tryz.underlying23 ti9 rfl rfl (hX (by repeat constructor)) (by omega) | exact v_indexAddr Tryz.underlying23 ti9 rfl rfl (hX (by repeat constructor)) (by omega))) ?_
    refine oV (v_load_str lone9 rfl (by repeat (first | exact Elem.sl (List.getElem?_eq_getElem (by omega)) | exact Elem.own (List.getElem?_eq_getElem (by omega)) | exact Elem.ownO (List.getElem?_eq_getElem (by omega)) | apply Elem.there))) ?_
    refine o_step (s_call cl169 (notright_con (xs[i]'(by omega))) (first := []) (cap := []) rfl rfl (by rfl) (dd rfl) (pXs (by repeat constructor)) fun _ _ => ?_)
    refine o_nil ?_
    refine c_cond rfl (fun hb => ?_) (fun hb => ?_)
    · refine c_seq (c_region ?_)
      refine oV vM ?_
      refine oV vA ?_
      refine o_nil ?_
      refine c_ret1 Tryz.func159 rfl rfl fun w O hS => ?_
      have hn : ¬ RightS (xs[i]'(by omega)) := by simpa using hb
      exact ⟨i, rfl, ⟨fun _ => ⟨_, List.getElem_mem (by omega), hn⟩, fun _ => by omega⟩, trivial⟩
    · refine c_skip (c_inBlock (c_region ?_))
      refine oV ((by first | exact v_add64 rfl rfl (by omega) | exact v_add rfl rfl)) ?_
      refine oV vM ?_
      refine o_nil ?_
      have hn : RightS (xs[i]'(by omega)) := by simpa using hb
      refine c_use (IH (i + 1) (by omega) ⟨by omega, fun x hx => ?_⟩) ⟨rfl, rfl, rfl, rfl, trivial⟩ (eX (by repeat constructor))
      rw [List.take_succ_eq_append_getElem (by omega)] at hx
      rcases List.mem_append.1 hx with hx | hx
      · exact hr x hx
      · rw [List.mem_singleton.1 hx]; exact hn
  · refine c_exit rfl ?_
    refine c_seq (c_region ?_)
    refine oV vA ?_
    refine o_nil ?_
    refine c_ret1 Tryz.func159 rfl rfl fun w O hS => ?_
    rw [List.take_of_length_le (by omega)] at hr
    exact ⟨-1, rfl, ⟨fun h => by omega, fun ⟨x, hx, hn⟩ => absurd (hr x hx) hn⟩, trivial⟩
set_option maxRecDepth 100000 in
theorem containsf_con (v : Value) (xs : Ls) (hx : xs.length ≤ 1000000) :
    Con Tryz.prog 133 [v, .func (.func 169) #[] #[]] [Sl eStr v xs] (γ := Unit) (fun _ => .bool (!decide (∀ x ∈ xs, RightS x))) (fun _ => True) (fun _ => []) := by
  refine con_of Tryz.func133 rfl (dd rfl) fun w0 O0 => ?_
  refine c_seq (c_region ?_)
  refine oV vA ?_
  refine o_nil (c_seq (c_region ?_))
  iterate 2 refine oV vM ?_
  refine oC cl159 (indexf_con v xs hx) fun r hr => ?_
  refine oV (v_ge rfl rfl) ?_
  refine oV vA ?_
  refine o_nil ?_
  refine c_ret1 Tryz.func133 rfl rfl fun w O hS => ?_
  refine ⟨(), ?_, trivial, trivial⟩
  congr 1
  rw [← decide_not]
  refine decide_eq_decide.2 (Iff.trans ?_ (hr.trans ?_))
  · exact Iff.rfl
  · exact ⟨fun ⟨x, h1, h2⟩ h => h2 (h x h1), fun h => Classical.byContradiction fun g => h fun x hx => Classical.byContradiction fun k => g ⟨x, hx, k⟩⟩
set_option maxRecDepth 100000 in
theorem all_con (v : Value) (xs : Ls) (hx : xs.length ≤ 1000000) :
    Con Tryz.prog 156 [v] [Sl eStr v xs] (γ := Unit) (fun _ => .bool (decide (∀ x ∈ xs, RightS x))) (fun _ => True) (fun _ => []) := by
  refine con_of Tryz.func156 rfl (dd rfl) fun w0 O0 => ?_
  refine c_seq (c_region ?_)
  refine oV vA ?_
  refine o_nil (c_seq (c_region ?_))
  refine oV vM ?_
  refine oC cl133 (containsf_con v xs hx) fun _ _ => ?_
  refine oV (v_not rfl) ?_
  refine oV vA ?_
  refine o_nil ?_
  refine c_ret1 Tryz.func156 rfl rfl fun w O hS => ?_
  exact ⟨(), by rw [Bool.not_not], trivial, trivial⟩
end Go.Proofs.YtlfehnnmpkohkaaGreatDoor
/- Chapter 09: which names, lines and changes may be, as the document says it. -/
namespace Go.Proofs.YtlfehnnmpkohkaaGreatDoor
open Go Go.SL Go.Lib L01
theorem right_line (s : ByteArray) : decide (RightS s) = lineP s := by
  rw [Bool.eq_iff_iff, decide_eq_true_eq]
  unfold lineP RightS
  rw [Bool.and_eq_true, decide_eq_true_eq, List.all_eq_true]
  exact ⟨fun h => ⟨h.2, fun x hx => decide_eq_true fun k => h.1 (k ▸ hx)⟩, fun h => ⟨fun k => by have := of_decide_eq_true (h.2 10 k); exact this rfl, h.1⟩⟩
theorem all_line (l : List ByteArray) : decide (∀ x ∈ l, RightS x) = l.all lineP := by
  by_cases h : ∀ x ∈ l, RightS x
  · rw [decide_eq_true h]
    symm
    rw [List.all_eq_true]
    exact fun x hx => (right_line x).symm.trans (decide_eq_true (h x hx))
  · rw [decide_eq_false h]
    symm
    rw [List.all_eq_false]
    obtain ⟨x, h1⟩ := Classical.not_forall.1 h
    obtain ⟨hx, hr⟩ := Classical.not_imp.1 h1
    exact ⟨x, hx, by rw [← right_line, decide_eq_false hr]; decide⟩
theorem charP_eq (b : UInt8) (c : Int) (h : c = (b.toNat : Int)) : charP b = decide ((97 ≤ c ∧ c ≤ 122) ∨ (48 ≤ c ∧ c ≤ 57) ∨ c = 46 ∨ c = 45 ∨ c = 95 ∨ c = 47) := by
  unfold charP
  rw [Bool.eq_iff_iff]
  simp only [Bool.or_eq_true, Bool.and_eq_true, decide_eq_true_eq]
  omega
attribute [local irreducible] Cfg Kont StepK Val Con Qops Any Sl Own Blk BlkR Rd Pu ExA AllA Has Pick Ent Elem Beside Callable TI Lone OwnO AndA
set_option maxRecDepth 100000 in
theorem namedRef_con (s : ByteArray) (hs : s.size ≤ 4611686018427387904) : Con Tryz.prog 43 [.string s] [] (γ := Unit) (fun _ => .bool (namedP s)) (fun _ => True) (fun _ => []) := by
  have hbl := ba_len s
  refine con_of Tryz.func43 rfl (dd rfl) fun w0 O0 => ?_
  refine c_seq (c_region ?_)
  refine oV vA ?_
  refine o_nil (c_seq (c_seq (c_region ?_)))
  refine oV vA ?_
  refine o_nil (c_block ?_)
  refine c_loopR (γ := Nat) [(0, _), (2, _)] (fun k => s.size - k) (fun k => k ≤ s.size ∧ ∀ j (h : j < s.data.toList.length), j < k → charP s.data.toList[j] = true) (fun k => [(3, .int .i64 k)]) (fun _ => []) (0) (⟨Nat.zero_le _, fun _ _ h => absurd h (Nat.not_lt_zero _)⟩) (by repeat (first | exact trivial | refine ⟨rfl, ?_⟩)) (eX (by repeat constructor)) ?_
  rintro k ⟨hk, hc⟩ IH
  try dsimp only [List.cons_append, List.nil_append]
  refine c_seq (c_seq (c_region ?_))
  iterate 2 refine oV vM ?_
  refine oV (v_len_str Tryz.underlying9 rfl) ?_
  refine oV (v_lt rfl rfl) ?_
  refine o_nil ?_
  refine c_cond_p rfl (fun hlt => ?_) (fun hlt => ?_)
  · have hk' : k < s.data.toList.length := by omega
    have hsa := sAt_get (B := s) (k := k) hk'
    have hch := charP_eq (s.data.toList[k]'hk') (sAt s k) hsa
    have h256 := UInt8.toNat_lt (s.data.toList[k]'hk')
    refine c_skip (c_seq (c_block (c_seq (c_region ?_))))
    iterate 2 refine oV vM ?_
    refine oV (v_index_str Tryz.underlying9 rfl rfl (by omega)) ?_
    refine oV vA ?_
    refine o_nil (c_seq ?_)
    refine c_env (env' := [(0, _), (2, _), (3, _), (4, _), (5, _), (6, _), (7, _), (8, _), (11, _), (12, _), (13, _)]) (by repeat (first | exact trivial | refine ⟨rfl, ?_⟩)) ?_
    refine c_joinb (d := 45) (decide (¬ charP (s.data.toList[k]'hk') = true)) ?_ ?_
    rotate_left
    · intro J
      refine c_region ?_
      refine oV vM ?_
      refine oV (v_ge rfl rfl) ?_
      refine oV vM ?_
      first | refine o_guard_t rfl rfl (fun g16 => ?_) (fun g16 => ?_) | refine o_guard rfl rfl (fun g16 => ?_) (fun g16 => ?_)
      · refine oV vM ?_
        refine oN ?_
        refine oV (v_le rfl rfl) ?_
        refine oV vT ?_
        refine oV (v_not rfl) ?_
        refine oV vM ?_
        first | refine o_guard_t rfl rfl (fun g21 => ?_) (fun g21 => ?_) | refine o_guard rfl rfl (fun g21 => ?_) (fun g21 => ?_)
        · refine oV vM ?_
          refine oN ?_
          refine oV (v_ge rfl rfl) ?_
          refine oN ?_
          refine oV vM ?_
          first | refine o_guard_t rfl rfl (fun g24 => ?_) (fun g24 => ?_) | refine o_guard rfl rfl (fun g24 => ?_) (fun g24 => ?_)
          · refine oV vM ?_
            refine oN ?_
            refine oV (v_le rfl rfl) ?_
            refine oN ?_
            refine oV vT ?_
            refine oN ?_
            refine oV (v_not rfl) ?_
            refine oV vT ?_
            refine oV vM ?_
            first | refine o_guard_t rfl rfl (fun g30 => ?_) (fun g30 => ?_) | refine o_guard rfl rfl (fun g30 => ?_) (fun g30 => ?_)
            · refine oV vM ?_
              refine oN ?_
              refine oV (v_ne rfl rfl) ?_
              refine oV vT ?_
              refine oV vM ?_
              first | refine o_guard_t rfl rfl (fun g34 => ?_) (fun g34 => ?_) | refine o_guard rfl rfl (fun g34 => ?_) (fun g34 => ?_)
              · refine oV vM ?_
                refine oN ?_
                refine oV (v_ne rfl rfl) ?_
                refine oV vT ?_
                refine oV vM ?_
                first | refine o_guard_t rfl rfl (fun g38 => ?_) (fun g38 => ?_) | refine o_guard rfl rfl (fun g38 => ?_) (fun g38 => ?_)
                · refine oV vM ?_
                  refine oN ?_
                  refine oV (v_ne rfl rfl) ?_
                  refine oV vT ?_
                  refine oV vM ?_
                  first | refine o_guard_t rfl rfl (fun g42 => ?_) (fun g42 => ?_) | refine o_guard rfl rfl (fun g42 => ?_) (fun g42 => ?_)
                  · refine oV vM ?_
                    refine oN ?_
                    refine oV (v_ne rfl rfl) ?_
                    refine oV vT ?_
                    refine o_nil ?_
                    exact cJ J rfl (by clear IH hc hsa h256; rw [hch]; first | (simp_all; done) | (simp_all; omega) | (simp_all; rw [Bool.eq_iff_iff]; simp only [Bool.or_eq_true, Bool.and_eq_true, Bool.not_eq_true', decide_eq_true_eq, decide_eq_false_iff_not]; omega))
                  · refine oX ?_
                    refine oX ?_
                    refine oV vQ ?_
                    refine o_nil ?_
                    exact cJ J rfl (by clear IH hc hsa h256; rw [hch]; first | (simp_all; done) | (simp_all; omega) | (simp_all; rw [Bool.eq_iff_iff]; simp only [Bool.or_eq_true, Bool.and_eq_true, Bool.not_eq_true', decide_eq_true_eq, decide_eq_false_iff_not]; omega))
                · refine oX ?_
                  refine oX ?_
                  refine oV vQ ?_
                  refine oV vM ?_
                  iterate 2 refine oX ?_
                  refine oV vQ ?_
                  refine o_nil ?_
                  exact cJ J rfl (by clear IH hc hsa h256; rw [hch]; first | (simp_all; done) | (simp_all; omega) | (simp_all; rw [Bool.eq_iff_iff]; simp only [Bool.or_eq_true, Bool.and_eq_true, Bool.not_eq_true', decide_eq_true_eq, decide_eq_false_iff_not]; omega))
              · refine oX ?_
                refine oX ?_
                refine oV vQ ?_
                refine oV vM ?_
                iterate 2 refine oX ?_
                refine oV vQ ?_
                refine oV vM ?_
                iterate 2 refine oX ?_
                refine oV vQ ?_
                refine o_nil ?_
                exact cJ J rfl (by clear IH hc hsa h256; rw [hch]; first | (simp_all; done) | (simp_all; omega) | (simp_all; rw [Bool.eq_iff_iff]; simp only [Bool.or_eq_true, Bool.and_eq_true, Bool.not_eq_true', decide_eq_true_eq, decide_eq_false_iff_not]; omega))
            · refine oX ?_
              refine oX ?_
              refine oV vQ ?_
              refine oV vM ?_
              iterate 2 refine oX ?_
              refine oV vQ ?_
              refine oV vM ?_
              iterate 2 refine oX ?_
              refine oV vQ ?_
              refine oV vM ?_
              iterate 2 refine oX ?_
              refine oV vQ ?_
              refine o_nil ?_
              exact cJ J rfl (by clear IH hc hsa h256; rw [hch]; first | (simp_all; done) | (simp_all; omega) | (simp_all; rw [Bool.eq_iff_iff]; simp only [Bool.or_eq_true, Bool.and_eq_true, Bool.not_eq_true', decide_eq_true_eq, decide_eq_false_iff_not]; omega))
          · refine oX ?_
            refine oX ?_
            refine oN ?_
            refine oV vQ ?_
            refine oN ?_
            refine oV (v_not rfl) ?_
            refine oV vT ?_
            refine oV vM ?_
            refine oN ?_
            refine oV vM ?_
            refine oN ?_
            refine oV (v_ne rfl rfl) ?_
            refine oV vT ?_
            refine oV vM ?_
            first | refine o_guard_t rfl rfl (fun g34 => ?_) (fun g34 => ?_) | refine o_guard rfl rfl (fun g34 => ?_) (fun g34 => ?_)
            · refine oV vM ?_
              refine oN ?_
              refine oV (v_ne rfl rfl) ?_
              refine oV vT ?_
              refine oV vM ?_
              first | refine o_guard_t rfl rfl (fun g38 => ?_) (fun g38 => ?_) | refine o_guard rfl rfl (fun g38 => ?_) (fun g38 => ?_)
              · refine oV vM ?_
                refine oN ?_
                refine oV (v_ne rfl rfl) ?_
                refine oV vT ?_
                refine oV vM ?_
                first | refine o_guard_t rfl rfl (fun g42 => ?_) (fun g42 => ?_) | refine o_guard rfl rfl (fun g42 => ?_) (fun g42 => ?_)
                · refine oV vM ?_
                  refine oN ?_
                  refine oV (v_ne rfl rfl) ?_
                  refine oV vT ?_
                  refine o_nil ?_
                  exact cJ J rfl (by clear IH hc hsa h256; rw [hch]; first | (simp_all; done) | (simp_all; omega) | (simp_all; rw [Bool.eq_iff_iff]; simp only [Bool.or_eq_true, Bool.and_eq_true, Bool.not_eq_true', decide_eq_true_eq, decide_eq_false_iff_not]; omega))
                · refine oX ?_
                  refine oX ?_
                  refine oV vQ ?_
                  refine o_nil ?_
                  exact cJ J rfl (by clear IH hc hsa h256; rw [hch]; first | (simp_all; done) | (simp_all; omega) | (simp_all; rw [Bool.eq_iff_iff]; simp only [Bool.or_eq_true, Bool.and_eq_true, Bool.not_eq_true', decide_eq_true_eq, decide_eq_false_iff_not]; omega))
              · refine oX ?_
                refine oX ?_
                refine oV vQ ?_
                refine oV vM ?_
                iterate 2 refine oX ?_
                refine oV vQ ?_
                refine o_nil ?_
                exact cJ J rfl (by clear IH hc hsa h256; rw [hch]; first | (simp_all; done) | (simp_all; omega) | (simp_all; rw [Bool.eq_iff_iff]; simp only [Bool.or_eq_true, Bool.and_eq_true, Bool.not_eq_true', decide_eq_true_eq, decide_eq_false_iff_not]; omega))
            · refine oX ?_
              refine oX ?_
              refine oV vQ ?_
              refine oV vM ?_
              iterate 2 refine oX ?_
              refine oV vQ ?_
              refine oV vM ?_
              iterate 2 refine oX ?_
              refine oV vQ ?_
              refine o_nil ?_
              exact cJ J rfl (by clear IH hc hsa h256; rw [hch]; first | (simp_all; done) | (simp_all; omega) | (simp_all; rw [Bool.eq_iff_iff]; simp only [Bool.or_eq_true, Bool.and_eq_true, Bool.not_eq_true', decide_eq_true_eq, decide_eq_false_iff_not]; omega))
        · refine oX ?_
          iterate 2 refine oX ?_
          iterate 2 refine oU ?_
          iterate 2 refine oX ?_
          refine oV vQ ?_
          refine oV vM ?_
          iterate 2 refine oX ?_
          refine oV vQ ?_
          refine oV vM ?_
          iterate 2 refine oX ?_
          refine oV vQ ?_
          refine oV vM ?_
          iterate 2 refine oX ?_
          refine oV vQ ?_
          refine oV vM ?_
          iterate 2 refine oX ?_
          refine oV vQ ?_
          refine o_nil ?_
          exact cJ J rfl (by clear IH hc hsa h256; rw [hch]; first | (simp_all; done) | (simp_all; omega) | (simp_all; rw [Bool.eq_iff_iff]; simp only [Bool.or_eq_true, Bool.and_eq_true, Bool.not_eq_true', decide_eq_true_eq, decide_eq_false_iff_not]; omega))
      · refine oX ?_
        refine oX ?_
        refine oV vQ ?_
        refine oV (v_not rfl) ?_
        refine oV vM ?_
        refine oN ?_
        refine oV vM ?_
        refine oN ?_
        refine oV (v_ge rfl rfl) ?_
        refine oN ?_
        refine oV vM ?_
        first | refine o_guard_t rfl rfl (fun g24 => ?_) (fun g24 => ?_) | refine o_guard rfl rfl (fun g24 => ?_) (fun g24 => ?_)
        · refine oV vM ?_
          refine oN ?_
          refine oV (v_le rfl rfl) ?_
          refine oN ?_
          refine oV vT ?_
          refine oN ?_
          refine oV (v_not rfl) ?_
          refine oV vT ?_
          refine oV vM ?_
          first | refine o_guard_t rfl rfl (fun g30 => ?_) (fun g30 => ?_) | refine o_guard rfl rfl (fun g30 => ?_) (fun g30 => ?_)
          · refine oV vM ?_
            refine oN ?_
            refine oV (v_ne rfl rfl) ?_
            refine oV vT ?_
            refine oV vM ?_
            first | refine o_guard_t rfl rfl (fun g34 => ?_) (fun g34 => ?_) | refine o_guard rfl rfl (fun g34 => ?_) (fun g34 => ?_)
            · refine oV vM ?_
              refine oN ?_
              refine oV (v_ne rfl rfl) ?_
              refine oV vT ?_
              refine oV vM ?_
              first | refine o_guard_t rfl rfl (fun g38 => ?_) (fun g38 => ?_) | refine o_guard rfl rfl (fun g38 => ?_) (fun g38 => ?_)
              · refine oV vM ?_
                refine oN ?_
                refine oV (v_ne rfl rfl) ?_
                refine oV vT ?_
                refine oV vM ?_
                first | refine o_guard_t rfl rfl (fun g42 => ?_) (fun g42 => ?_) | refine o_guard rfl rfl (fun g42 => ?_) (fun g42 => ?_)
                · refine oV vM ?_
                  refine oN ?_
                  refine oV (v_ne rfl rfl) ?_
                  refine oV vT ?_
                  refine o_nil ?_
                  exact cJ J rfl (by clear IH hc hsa h256; rw [hch]; first | (simp_all; done) | (simp_all; omega) | (simp_all; rw [Bool.eq_iff_iff]; simp only [Bool.or_eq_true, Bool.and_eq_true, Bool.not_eq_true', decide_eq_true_eq, decide_eq_false_iff_not]; omega))
                · refine oX ?_
                  refine oX ?_
                  refine oV vQ ?_
                  refine o_nil ?_
                  exact cJ J rfl (by clear IH hc hsa h256; rw [hch]; first | (simp_all; done) | (simp_all; omega) | (simp_all; rw [Bool.eq_iff_iff]; simp only [Bool.or_eq_true, Bool.and_eq_true, Bool.not_eq_true', decide_eq_true_eq, decide_eq_false_iff_not]; omega))
              · refine oX ?_
                refine oX ?_
                refine oV vQ ?_
                refine oV vM ?_
                iterate 2 refine oX ?_
                refine oV vQ ?_
                refine o_nil ?_
                exact cJ J rfl (by clear IH hc hsa h256; rw [hch]; first | (simp_all; done) | (simp_all; omega) | (simp_all; rw [Bool.eq_iff_iff]; simp only [Bool.or_eq_true, Bool.and_eq_true, Bool.not_eq_true', decide_eq_true_eq, decide_eq_false_iff_not]; omega))
            · refine oX ?_
              refine oX ?_
              refine oV vQ ?_
              refine oV vM ?_
              iterate 2 refine oX ?_
              refine oV vQ ?_
              refine oV vM ?_
              iterate 2 refine oX ?_
              refine oV vQ ?_
              refine o_nil ?_
              exact cJ J rfl (by clear IH hc hsa h256; rw [hch]; first | (simp_all; done) | (simp_all; omega) | (simp_all; rw [Bool.eq_iff_iff]; simp only [Bool.or_eq_true, Bool.and_eq_true, Bool.not_eq_true', decide_eq_true_eq, decide_eq_false_iff_not]; omega))
          · refine oX ?_
            refine oX ?_
            refine oV vQ ?_
            refine oV vM ?_
            iterate 2 refine oX ?_
            refine oV vQ ?_
            refine oV vM ?_
            iterate 2 refine oX ?_
            refine oV vQ ?_
            refine oV vM ?_
            iterate 2 refine oX ?_
            refine oV vQ ?_
            refine o_nil ?_
            exact cJ J rfl (by clear IH hc hsa h256; rw [hch]; first | (simp_all; done) | (simp_all; omega) | (simp_all; rw [Bool.eq_iff_iff]; simp only [Bool.or_eq_true, Bool.and_eq_true, Bool.not_eq_true', decide_eq_true_eq, decide_eq_false_iff_not]; omega))
        · refine oX ?_
          refine oX ?_
          refine oN ?_
          refine oV vQ ?_
          refine oN ?_
          refine oV (v_not rfl) ?_
          refine oV vT ?_
          refine oV vM ?_
          refine oN ?_
          refine oV vM ?_
          refine oN ?_
          refine oV (v_ne rfl rfl) ?_
          refine oV vT ?_
          refine oV vM ?_
          first | refine o_guard_t rfl rfl (fun g34 => ?_) (fun g34 => ?_) | refine o_guard rfl rfl (fun g34 => ?_) (fun g34 => ?_)
          · refine oV vM ?_
            refine oN ?_
            refine oV (v_ne rfl rfl) ?_
            refine oV vT ?_
            refine oV vM ?_
            first | refine o_guard_t rfl rfl (fun g38 => ?_) (fun g38 => ?_) | refine o_guard rfl rfl (fun g38 => ?_) (fun g38 => ?_)
            · refine oV vM ?_
              refine oN ?_
              refine oV (v_ne rfl rfl) ?_
              refine oV vT ?_
              refine oV vM ?_
              first | refine o_guard_t rfl rfl (fun g42 => ?_) (fun g42 => ?_) | refine o_guard rfl rfl (fun g42 => ?_) (fun g42 => ?_)
              · refine oV vM ?_
                refine oN ?_
                refine oV (v_ne rfl rfl) ?_
                refine oV vT ?_
                refine o_nil ?_
                exact cJ J rfl (by clear IH hc hsa h256; rw [hch]; first | (simp_all; done) | (simp_all; omega) | (simp_all; rw [Bool.eq_iff_iff]; simp only [Bool.or_eq_true, Bool.and_eq_true, Bool.not_eq_true', decide_eq_true_eq, decide_eq_false_iff_not]; omega))
              · refine oX ?_
                refine oX ?_
                refine oV vQ ?_
                refine o_nil ?_
                exact cJ J rfl (by clear IH hc hsa h256; rw [hch]; first | (simp_all; done) | (simp_all; omega) | (simp_all; rw [Bool.eq_iff_iff]; simp only [Bool.or_eq_true, Bool.and_eq_true, Bool.not_eq_true', decide_eq_true_eq, decide_eq_false_iff_not]; omega))
            · refine oX ?_
              refine oX ?_
              refine oV vQ ?_
              refine oV vM ?_
              iterate 2 refine oX ?_
              refine oV vQ ?_
              refine o_nil ?_
              exact cJ J rfl (by clear IH hc hsa h256; rw [hch]; first | (simp_all; done) | (simp_all; omega) | (simp_all; rw [Bool.eq_iff_iff]; simp only [Bool.or_eq_true, Bool.and_eq_true, Bool.not_eq_true', decide_eq_true_eq, decide_eq_false_iff_not]; omega))
          · refine oX ?_
            refine oX ?_
            refine oV vQ ?_
            refine oV vM ?_
            iterate 2 refine oX ?_
            refine oV vQ ?_
            refine oV vM ?_
            iterate 2 refine oX ?_
            refine oV vQ ?_
            refine o_nil ?_
            exact cJ J rfl (by clear IH hc hsa h256; rw [hch]; first | (simp_all; done) | (simp_all; omega) | (simp_all; rw [Bool.eq_iff_iff]; simp only [Bool.or_eq_true, Bool.and_eq_true, Bool.not_eq_true', decide_eq_true_eq, decide_eq_false_iff_not]; omega))
    refine c_cond_p rfl (fun hn => ?_) (fun hn => ?_)
    · refine c_seq (c_region ?_)
      refine oV vA ?_
      refine o_nil ?_
      refine c_ret1 Tryz.func43 rfl rfl fun w O hS => ?_
      refine ⟨(), ?_, trivial, trivial⟩
      unfold namedP
      rw [show s.data.toList.all charP = false from List.all_eq_false.2 ⟨_, List.getElem_mem hk', hn⟩, Bool.and_false]
    · refine c_skip (c_inBlock (c_region ?_))
      refine oV vM ?_
      refine oV ((by first | exact v_add64 rfl rfl (by omega) | exact v_add rfl rfl)) ?_
      refine oV vA ?_
      refine o_nil ?_
      refine cU (IH (k + 1) (by first | omega | (dsimp only; omega)) (⟨by omega, fun j h h1 => (Nat.lt_succ_iff_lt_or_eq.1 h1).elim (hc j h) fun q => by subst q; exact Classical.not_not.1 hn⟩))
  · have hall : s.data.toList.all charP = true := List.all_eq_true.2 fun x hx => by
      obtain ⟨j, hj, rfl⟩ := List.mem_iff_getElem.1 hx
      exact hc j hj (by omega)
    refine c_exit rfl ?_
    refine c_seq (c_region ?_)
    refine oV vM ?_
    refine oV (v_len_str Tryz.underlying9 rfl) ?_
    refine oV (v_ge rfl rfl) ?_
    refine oV vM ?_
    refine o_guard_t rfl rfl (fun h1 => ?_) (fun h1 => ?_)
    · refine oV vM ?_
      refine oN ?_
      refine oV (v_len_str Tryz.underlying9 rfl) ?_
      refine oN ?_
      refine oV (v_le rfl rfl) ?_
      refine oV vT ?_
      refine oV vA ?_
      refine o_nil ?_
      refine c_ret1 Tryz.func43 rfl rfl fun w O hS => ?_
      refine ⟨(), ?_, trivial, trivial⟩
      unfold namedP
      rw [hall, Bool.and_true, decide_eq_true (p := 1 ≤ s.size) (by omega), Bool.true_and]
      exact congrArg Value.bool (decide_eq_decide.2 ⟨fun h => by omega, fun h => by omega⟩)
    · refine oX ?_
      iterate 2 refine oX ?_
      refine oV vQ ?_
      refine oV vA ?_
      refine o_nil ?_
      refine c_ret1 Tryz.func43 rfl rfl fun w O hS => ?_
      refine ⟨(), ?_, trivial, trivial⟩
      unfold namedP
      rw [decide_eq_false (p := 1 ≤ s.size) (by omega)]; rfl
end Go.Proofs.YtlfehnnmpkohkaaGreatDoor
/- Chapter 09: sizes of what is read. -/
namespace Go.Proofs.YtlfehnnmpkohkaaGreatDoor
open Go Go.Lib
abbrev big9 : Nat := 1000000
theorem text_ok {most : Int} {s : St9} (h : s.1.length ≤ big9) : (takeText most s).2.size ≤ big9 := by
  unfold takeText
  split
  · split
    · show (sB _).size ≤ _
      rw [sB_size, List.length_take, List.length_drop]; omega
    · exact Nat.zero_le _
  · exact Nat.zero_le _
theorem goes_len {α : Type} {take : St9 → St9 × α} (hg : GoesP take) (s : St9) : (take s).1.1.length ≤ s.1.length := by
  obtain ⟨j, _, e⟩ := hg s
  rw [e, List.length_drop]; omega
theorem many_ok {α : Type} {take : St9 → St9 × α} {ok : α → Prop} (hg : GoesP take) (ho : ∀ s, s.1.length ≤ big9 → ok (take s).2) : ∀ (k : Nat) (s : St9) (out : List α), s.1.length ≤ big9 → (∀ x ∈ out, ok x) → ∀ x ∈ (takeMany take k s out).2, ok x
  | 0, s, out, _, h => h
  | k + 1, s, out, hs, h => by
    rw [takeMany]
    split
    · exact h
    · refine many_ok hg ho k _ _ (Nat.le_trans (goes_len hg s) hs) fun x hx => ?_
      rcases List.mem_append.1 hx with h1 | h1
      · exact h x h1
      · rw [List.mem_singleton.1 h1]; exact ho s hs
theorem many_len {α : Type} {take : St9 → St9 × α} : ∀ (k : Nat) (s : St9) (out : List α), (takeMany take k s out).2.length ≤ out.length + k
  | 0, s, out => Nat.le_refl _
  | k + 1, s, out => by
    rw [takeMany]
    split
    · dsimp only; omega
    · have := many_len (take := take) k (take s).1 (out ++ [(take s).2])
      rw [List.length_append] at this
      simp only [List.length_cons, List.length_nil] at this
      omega
theorem some_ok {α : Type} {take : St9 → St9 × α} {ok : α → Prop} (hg : GoesP take) (ho : ∀ s, s.1.length ≤ big9 → ok (take s).2) {most : Int} {s : St9} (hs : s.1.length ≤ big9) : ∀ x ∈ (takeSome take most s).2, ok x := by
  unfold takeSome
  split
  · exact fun x hx => by cases hx
  · split
    · exact fun x hx => by cases hx
    · exact many_ok hg ho _ _ _ (Nat.le_trans (goes_len goes_num s) hs) fun x hx => by cases hx
theorem some_len {α : Type} {take : St9 → St9 × α} {most : Int} {s : St9} {n : Nat} (hn : most ≤ n) : (takeSome take most s).2.length ≤ n := by
  unfold takeSome
  split
  · exact Nat.zero_le _
  · split
    · exact Nat.zero_le _
    · have := many_len (take := take) (takeNum s).2.toNat (takeNum s).1 []
      simp only [List.length_nil] at this
      omega
/-- Sizes at which a change is looked at. -/
def SizeP (p : Pr9) : Prop := p.2.1.size ≤ 1000000 ∧ p.2.2.1.size ≤ 1000000 ∧ (p.2.2.2.2.1.length ≤ 1000000 ∧ ∀ x ∈ p.2.2.2.2.1, x.size ≤ 1000000) ∧ p.2.2.2.2.2.length ≤ 1000000 ∧ ∀ x ∈ p.2.2.2.2.2, x.size ≤ 1000000
theorem raw_ok {s : St9} (h : s.1.length ≤ big9) : SizeP (rawPrim s).2 := by
  have h1 := Nat.le_trans (goes_len goes_num s) h
  have h2 := Nat.le_trans (goes_len (goes_text 24) (takeNum s).1) h1
  have h3 := Nat.le_trans (goes_len (goes_text 24) (takeText 24 (takeNum s).1).1) h2
  have h4 := Nat.le_trans (goes_len goes_num (takeText 24 (takeText 24 (takeNum s).1).1).1) h3
  have h5 := Nat.le_trans (goes_len (goes_some (goes_text 60) (takeNum (takeText 24 (takeText 24 (takeNum s).1).1).1).1.1.length) (takeNum (takeText 24 (takeText 24 (takeNum s).1).1).1).1) h4
  have ho : ∀ s : St9, s.1.length ≤ big9 → (takeText 60 s).2.size ≤ big9 := fun s hs => text_ok hs
  unfold SizeP rawPrim
  exact ⟨text_ok h1, text_ok h2, ⟨some_len (by exact_mod_cast h4), some_ok (goes_text 60) ho h4⟩, some_len (by exact_mod_cast h5), some_ok (goes_text 60) ho h5⟩
theorem pr0_ok : SizeP pr0 := ⟨Nat.zero_le _, Nat.zero_le _, ⟨Nat.zero_le _, fun _ h => by cases h⟩, Nat.zero_le _, fun _ h => by cases h⟩
theorem prim_ok {s : St9} (h : s.1.length ≤ big9) : SizeP (takePrim s).2 := by
  unfold takePrim
  split
  · exact pr0_ok
  · exact raw_ok h
end Go.Proofs.YtlfehnnmpkohkaaGreatDoor
/- Chapter 09: which changes and patches may be, as the document says it. -/
namespace Go.Proofs.YtlfehnnmpkohkaaGreatDoor
open Go Go.SL Go.Lib L01
theorem ba_none {t : ByteArray} : t = ⟨#[]⟩ ↔ t.size = 0 := ⟨fun h => by subst h; rfl, fun h => by
  apply ByteArray.ext
  apply Array.ext'
  have := ba_len t
  exact List.length_eq_zero_iff.1 (by omega)⟩
attribute [local irreducible] Cfg Kont StepK Val Con Qops Any Sl Own Blk BlkR Rd Pu ExA AllA Has Pick Ent Elem Beside Callable TI Lone OwnO AndA
set_option maxRecDepth 100000 in
theorem rightRef_con (p : Pr9) (ov wv : Value) (hp : SizeP p) : Con Tryz.prog 104 [.agg #[.int .i64 p.1, .string p.2.1, .string p.2.2.1, .int .i64 p.2.2.2.1, ov, wv]] [Sl eStr ov p.2.2.2.2.1, Sl eStr wv p.2.2.2.2.2] (γ := Unit) (fun _ => .bool (rightP p)) (fun _ => True) (fun _ => []) := by
  obtain ⟨k, n, t, a, o, w⟩ := p
  obtain ⟨hn, ht, ⟨ho, hoe⟩, hw, hwe⟩ := hp
  dsimp only at hn ht ho hoe hw hwe ⊢
  have hN := namedRef_con n (by omega)
  have hT := namedRef_con t (by omega)
  have hO := all_ref_con ov o ho hoe
  have hW := all_ref_con wv w hw hwe
  have hOW := same_ref_con ov wv o w ho hw
  rw [all_line] at hO hW
  have htn := ba_none (t := t)
  refine con_of Tryz.func104 rfl (dd rfl) fun w0 O0 => ?_
  refine c_seq (c_region ?_)
  refine o_step (s_box rfl (dd rfl) (fun b1 => ?_))
  refine oV vA ?_
  refine o_nil (c_seq (c_seq ?_))
  refine c_env (env' := [(1, _), (2, _)]) (by repeat (first | exact trivial | refine ⟨rfl, ?_⟩)) ?_
  refine c_joinb (d := 16) (decide (¬ namedP n = true ∨ k < 0 ∨ 3 < k)) ?_ ?_
  rotate_left
  · intro J
    refine c_region ?_
    refine oV (vF 1 Tryz.underlying129 ti9) ?_
    refine oV (vL lone9) ?_
    refine o_step (s_callf_keep cl43 (hN) rfl (dd rfl) (rX (by repeat constructor)) (fun _ => sX) (fun _ _ => ?_))
    refine oV (v_not rfl) ?_
    refine oV vM ?_
    first | refine o_guard_f rfl rfl (fun g7 => ?_) (fun g7 => ?_) | refine o_guard rfl rfl (fun g7 => ?_) (fun g7 => ?_)
    · refine oV (vF 0 Tryz.underlying129 ti3) ?_
      refine oN ?_
      refine oV (vL lone3) ?_
      refine oN ?_
      refine oV (v_lt rfl rfl) ?_
      refine oV vQ ?_
      refine oV vM ?_
      first | refine o_guard_f rfl rfl (fun g12 => ?_) (fun g12 => ?_) | refine o_guard rfl rfl (fun g12 => ?_) (fun g12 => ?_)
      · refine oV (vF 0 Tryz.underlying129 ti3) ?_
        refine oN ?_
        refine oV (vL lone3) ?_
        refine oN ?_
        refine oV (v_gt rfl rfl) ?_
        refine oV vQ ?_
        refine o_nil ?_
        exact cJ J rfl (by first | rfl | (simp_all; done) | (simp_all; omega) | (simp; omega))
      · refine oX ?_
        iterate 2 refine oX ?_
        refine oV vT ?_
        refine o_nil ?_
        exact cJ J rfl (by first | rfl | (simp_all; done) | (simp_all; omega) | (simp; omega))
    · refine oX ?_
      iterate 2 refine oX ?_
      refine oV vT ?_
      refine oV vM ?_
      iterate 3 refine oX ?_
      refine oV vT ?_
      refine o_nil ?_
      exact cJ J rfl (by first | rfl | (simp_all; done) | (simp_all; omega) | (simp; omega))
  refine c_cond_p rfl (fun h1 => ?_) (fun h1 => ?_)
  · have hR : rightP (k, n, t, a, o, w) = false := by
      unfold rightP bareP
      dsimp only
      rcases h1 with h | h
      · rw [show namedP n = false by simpa using h, Bool.false_and]
      · rw [if_neg (by omega), if_neg (by omega), decide_eq_false (p := k = 1) (by omega), decide_eq_false (p := k = 2) (by omega)]
        simp
    refine c_seq (c_region ?_)
    refine oV vA ?_
    refine o_nil ?_
    refine c_ret1 Tryz.func104 rfl rfl fun w O hS => ?_
    exact ⟨(), by rw [hR], trivial, trivial⟩
  · have hnn : namedP n = true := Classical.not_not.1 fun h => h1 (.inl h)
    refine c_skip (c_seq (c_seq (c_region ?_)))
    refine oV (vF 0 Tryz.underlying129 ti3) ?_
    refine oV (vL lone3) ?_
    refine oV (v_eq rfl rfl) ?_
    refine o_nil ?_
    refine c_cond_p rfl (fun h0 => ?_) (fun h0 => ?_)
    · refine c_seq (c_seq ?_)
      refine c_env (env' := [(1, _), (2, _)]) (by repeat (first | exact trivial | refine ⟨rfl, ?_⟩)) ?_
      refine c_joinb (d := 32) (decide (t.size ≠ 0 ∨ a < 0 ∨ 1048576 < a)) ?_ ?_
      rotate_left
      · intro J
        refine c_region ?_
        refine oV (vF 2 Tryz.underlying129 ti9) ?_
        refine oV (vL lone9) ?_
        refine oV (v_sne rfl rfl) ?_
        refine oV vM ?_
        first | refine o_guard_f rfl rfl (fun g23 => ?_) (fun g23 => ?_) | refine o_guard rfl rfl (fun g23 => ?_) (fun g23 => ?_)
        · refine oV (vF 3 Tryz.underlying129 ti3) ?_
          refine oN ?_
          refine oV (vL lone3) ?_
          refine oN ?_
          refine oV (v_lt rfl rfl) ?_
          refine oV vQ ?_
          refine oV vM ?_
          first | refine o_guard_f rfl rfl (fun g28 => ?_) (fun g28 => ?_) | refine o_guard rfl rfl (fun g28 => ?_) (fun g28 => ?_)
          · refine oV (vF 3 Tryz.underlying129 ti3) ?_
            refine oN ?_
            refine oV (vL lone3) ?_
            refine oN ?_
            refine oV (v_gt rfl rfl) ?_
            refine oV vQ ?_
            refine o_nil ?_
            exact cJ J rfl (by first | rfl | (simp_all; done) | (simp_all; omega) | (simp; omega))
          · refine oX ?_
            iterate 2 refine oX ?_
            refine oV vT ?_
            refine o_nil ?_
            exact cJ J rfl (by first | rfl | (simp_all; done) | (simp_all; omega) | (simp; omega))
        · refine oX ?_
          iterate 2 refine oX ?_
          refine oV vT ?_
          refine oV vM ?_
          iterate 3 refine oX ?_
          refine oV vT ?_
          refine o_nil ?_
          exact cJ J rfl (by first | rfl | (simp_all; done) | (simp_all; omega) | (simp; omega))
      refine c_cond_p rfl (fun h2 => ?_) (fun h2 => ?_)
      · have hR : rightP (k, n, t, a, o, w) = false := by
          unfold rightP
          dsimp only
          rw [if_pos h0, hnn, Bool.true_and]
          rcases h2 with h | h | h
          · rw [decide_eq_false h]; simp
          · rw [decide_eq_false (p := 0 ≤ a) (by omega)]; simp
          · rw [decide_eq_false (p := a ≤ 1048576) (by omega)]; simp
        refine c_seq (c_region ?_)
        refine oV vA ?_
        refine o_nil ?_
        refine c_ret1 Tryz.func104 rfl rfl fun w O hS => ?_
        exact ⟨(), by rw [hR], trivial, trivial⟩
      · have hR : rightP (k, n, t, a, o, w) = (o.all lineP && w.all lineP && decide (o ≠ w)) := by
          unfold rightP
          dsimp only
          rw [if_pos h0, hnn, Bool.true_and, decide_eq_true (p := t.size = 0) (by omega), decide_eq_true (p := 0 ≤ a) (by omega), decide_eq_true (p := a ≤ 1048576) (by omega)]
          simp only [Bool.true_and]
        refine c_skip (c_seq (c_region ?_))
        refine oV (vF 4 Tryz.underlying129 ti23) ?_
        refine oV (vL lone23) ?_
        refine o_step (s_callf_keep cl135 (hO) rfl (dd rfl) (rX (by repeat constructor)) (fun _ => sX) (fun _ _ => ?_))
        refine oV vM ?_
        refine o_guard rfl rfl (fun g1 => ?_) (fun g1 => ?_)
        · refine oV (vF 5 Tryz.underlying129 ti23) ?_
          refine oN ?_
          refine oV (vL lone23) ?_
          refine oN ?_
          refine o_step (s_callf_keep cl135 (hW) rfl (dd rfl) (rX (by repeat constructor)) (fun _ => sX) (fun _ _ => ?_))
          refine oV vT ?_
          refine oV vM ?_
          refine o_guard rfl rfl (fun g2 => ?_) (fun g2 => ?_)
          · refine oV (vF 4 Tryz.underlying129 ti23) ?_
            refine oN ?_
            refine oV (vL lone23) ?_
            refine oN ?_
            refine oV (vF 5 Tryz.underlying129 ti23) ?_
            refine oN ?_
            refine oV (vL lone23) ?_
            refine oN ?_
            refine o_step (s_callf_keep cl49 (hOW) rfl (dd rfl) (rX (by repeat constructor)) (fun _ => sX) (fun _ _ => ?_))
            refine oN ?_
            refine oV (v_not rfl) ?_
            refine oV vT ?_
            refine oV vA ?_
            refine o_nil ?_
            refine c_ret1 Tryz.func104 rfl rfl fun w O hS => ?_
            exact ⟨(), by rw [hR, g1, g2]; simp, trivial, trivial⟩
          · refine oX ?_
            iterate 5 refine oX ?_
            refine oV vQ ?_
            refine oV vA ?_
            refine o_nil ?_
            refine c_ret1 Tryz.func104 rfl rfl fun w O hS => ?_
            exact ⟨(), by rw [hR, g1, g2]; rfl, trivial, trivial⟩
        · refine oX ?_
          iterate 2 refine oX ?_
          refine oV vQ ?_
          refine oV vM ?_
          iterate 6 refine oX ?_
          refine oV vQ ?_
          refine oV vA ?_
          refine o_nil ?_
          refine c_ret1 Tryz.func104 rfl rfl fun w O hS => ?_
          exact ⟨(), by rw [hR, g1]; rfl, trivial, trivial⟩
    · refine c_skip (c_seq (c_seq ?_))
      refine c_env (env' := [(1, _), (2, _)]) (by repeat (first | exact trivial | refine ⟨rfl, ?_⟩)) ?_
      refine c_joinb (d := 63) (decide (a ≠ 0 ∨ 0 < o.length ∨ 0 < w.length)) ?_ ?_
      rotate_left
      · intro J
        refine c_region ?_
        refine oV (vF 3 Tryz.underlying129 ti3) ?_
        refine oV (vL lone3) ?_
        refine oV (v_ne rfl rfl) ?_
        refine oV vM ?_
        first | refine o_guard_f rfl rfl (fun g52 => ?_) (fun g52 => ?_) | refine o_guard rfl rfl (fun g52 => ?_) (fun g52 => ?_)
        · refine oV (vF 4 Tryz.underlying129 ti23) ?_
          refine oN ?_
          refine oV (vL lone23) ?_
          refine oN ?_
          refine oV ((by first | exact v_len_form Tryz.underlying23 rfl | exact v_len_sl Tryz.underlying23 rfl (hX (by repeat constructor)))) ?_
          refine oN ?_
          refine oV (v_gt rfl rfl) ?_
          refine oV vQ ?_
          refine oV vM ?_
          first | refine o_guard_f rfl rfl (fun g58 => ?_) (fun g58 => ?_) | refine o_guard rfl rfl (fun g58 => ?_) (fun g58 => ?_)
          · refine oV (vF 5 Tryz.underlying129 ti23) ?_
            refine oN ?_
            refine oV (vL lone23) ?_
            refine oN ?_
            refine oV ((by first | exact v_len_form Tryz.underlying23 rfl | exact v_len_sl Tryz.underlying23 rfl (hX (by repeat constructor)))) ?_
            refine oN ?_
            refine oV (v_gt rfl rfl) ?_
            refine oV vQ ?_
            refine o_nil ?_
            exact cJ J rfl (by first | rfl | (simp_all; done) | (simp_all; omega) | (simp; omega))
          · refine oX ?_
            iterate 3 refine oX ?_
            refine oV vT ?_
            refine o_nil ?_
            exact cJ J rfl (by first | rfl | (simp_all; done) | (simp_all; omega) | (simp; omega))
        · refine oX ?_
          iterate 3 refine oX ?_
          refine oV vT ?_
          refine oV vM ?_
          iterate 4 refine oX ?_
          refine oV vT ?_
          refine o_nil ?_
          exact cJ J rfl (by first | rfl | (simp_all; done) | (simp_all; omega) | (simp; omega))
      refine c_cond_p rfl (fun h3 => ?_) (fun h3 => ?_)
      · have hR : rightP (k, n, t, a, o, w) = false := by
          unfold rightP bareP
          dsimp only
          rw [if_neg h0, hnn, Bool.true_and]
          rcases h3 with h | h | h
          · rw [decide_eq_false (p := a = 0) h]; simp
          · rw [decide_eq_false (p := o.length = 0) (by omega)]; simp
          · rw [decide_eq_false (p := w.length = 0) (by omega)]; simp
        refine c_seq (c_region ?_)
        refine oV vA ?_
        refine o_nil ?_
        refine c_ret1 Tryz.func104 rfl rfl fun w O hS => ?_
        exact ⟨(), by rw [hR], trivial, trivial⟩
      · have hB : bareP (k, n, t, a, o, w) = true := by
          unfold bareP
          dsimp only
          rw [decide_eq_true (p := a = 0) (by omega), decide_eq_true (p := o.length = 0) (by omega), decide_eq_true (p := w.length = 0) (by omega)]; rfl
        refine c_skip (c_seq (c_seq (c_region ?_)))
        refine oV (vF 0 Tryz.underlying129 ti3) ?_
        refine oV (vL lone3) ?_
        refine oV (v_eq rfl rfl) ?_
        refine o_nil ?_
        refine c_cond_p rfl (fun h4 => ?_) (fun h4 => ?_)
        · have hR : rightP (k, n, t, a, o, w) = (namedP t && decide (t ≠ n)) := by
            unfold rightP
            dsimp only
            rw [if_neg h0, if_pos h4, hnn, hB]
            simp only [Bool.true_and]
          refine c_seq (c_region ?_)
          refine oV (vF 2 Tryz.underlying129 ti9) ?_
          refine oV (vL lone9) ?_
          refine o_step (s_callf_keep cl43 (hT) rfl (dd rfl) (rX (by repeat constructor)) (fun _ => sX) (fun _ _ => ?_))
          refine oV vM ?_
          refine o_guard rfl rfl (fun g1 => ?_) (fun g1 => ?_)
          · refine oV (vF 2 Tryz.underlying129 ti9) ?_
            refine oN ?_
            refine oV (vL lone9) ?_
            refine oN ?_
            refine oV (vF 1 Tryz.underlying129 ti9) ?_
            refine oN ?_
            refine oV (vL lone9) ?_
            refine oN ?_
            refine oV (v_sne rfl rfl) ?_
            refine oV vT ?_
            refine oV vA ?_
            refine o_nil ?_
            refine c_ret1 Tryz.func104 rfl rfl fun w O hS => ?_
            exact ⟨(), by rw [hR, g1]; rfl, trivial, trivial⟩
          · refine oX ?_
            iterate 4 refine oX ?_
            refine oV vQ ?_
            refine oV vA ?_
            refine o_nil ?_
            refine c_ret1 Tryz.func104 rfl rfl fun w O hS => ?_
            exact ⟨(), by rw [hR, g1]; rfl, trivial, trivial⟩
        · have hR : rightP (k, n, t, a, o, w) = decide (t.size = 0) := by
            unfold rightP
            dsimp only
            rw [if_neg h0, if_neg h4, hnn, hB]
            have : (decide (k = 1) || decide (k = 2)) = true := by
              rw [Bool.or_eq_true, decide_eq_true_eq, decide_eq_true_eq]; omega
            rw [this]
            simp only [Bool.true_and, Bool.and_true]
          refine c_skip (c_seq (c_region ?_))
          refine oV (vF 2 Tryz.underlying129 ti9) ?_
          refine oV (vL lone9) ?_
          refine oV (v_seq rfl rfl) ?_
          refine oV vA ?_
          refine o_nil ?_
          refine c_ret1 Tryz.func104 rfl rfl fun w O hS => ?_
          exact ⟨(), by rw [hR]; exact congrArg Value.bool (decide_eq_decide.2 htn), trivial, trivial⟩
set_option maxRecDepth 100000 in
theorem rightsRef_con (v : Value) (l : List Pr9) (hl : l.length ≤ 1000000 ∧ ∀ p ∈ l, SizeP p) : Con Tryz.prog 41 [v] [Sl ePr v l] (γ := Unit) (fun _ => .bool (l.all rightP)) (fun _ => True) (fun _ => []) := by
  obtain ⟨hl1, hl2⟩ := hl
  refine con_of Tryz.func41 rfl (dd rfl) fun w0 O0 => ?_
  refine c_seq (c_region ?_)
  refine oV vA ?_
  refine o_nil (c_seq (c_seq (c_region ?_)))
  refine oV vA ?_
  refine o_nil (c_block ?_)
  refine c_loopR (γ := Nat) [(0, _), (2, _)] (fun k => l.length - k) (fun k => k ≤ l.length ∧ (l.take k).all rightP = true) (fun k => [(3, .int .i64 k)]) (fun _ => [Sl ePr v l]) (0) (⟨Nat.zero_le _, rfl⟩) (by repeat (first | exact trivial | refine ⟨rfl, ?_⟩)) (eX (by repeat constructor)) ?_
  rintro k ⟨hk, hc⟩ IH
  try dsimp only [List.cons_append, List.nil_append]
  refine c_seq (c_seq (c_region ?_))
  iterate 2 refine oV vM ?_
  refine oV ((by first | exact v_len_form Tryz.underlying24 rfl | exact v_len_sl Tryz.underlying24 rfl (hX (by repeat constructor)))) ?_
  refine oV (v_lt rfl rfl) ?_
  refine o_nil ?_
  refine c_cond_p rfl (fun hlt => ?_) (fun hlt => ?_)
  · have hk' : k < l.length := by omega
    have hR := fun ov wv => rightRef_con l[k] ov wv (hl2 _ (List.getElem_mem hk'))
    refine c_skip (c_seq (c_block (c_seq (c_region ?_))))
    iterate 2 refine oV vM ?_
    refine oV ((by first | exact v_indexAddrN Tryz.underlying24 ti129 rfl rfl (hX (by repeat constructor)) (by omega) | exact v_indexAddr Tryz.underlying24 ti129 rfl rfl (hX (by repeat constructor)) (by omega))) ?_
    refine o_step (s_load_shape ⟨_, Tryz.underlying129⟩ ti129 rfl (dd rfl) (by repeat (first|exact el1 (by omega)|exact el2 (by omega)|exact el3 (by omega)|apply Elem.there)) (pr_open) (fun g => ?_))
    refine oC cl104 (hR g.1 g.2) fun _ _ => ?_
    refine oV (v_not rfl) ?_
    refine o_nil ?_
    refine c_cond rfl (fun hb => ?_) (fun hb => ?_)
    · have hr : rightP l[k] = false := by cases e : rightP l[k] with | false => rfl | true => rw [e] at hb; cases hb
      refine c_seq (c_region ?_)
      refine oV vA ?_
      refine o_nil ?_
      refine c_ret1 Tryz.func41 rfl rfl fun w O hS => ?_
      refine ⟨(), ?_, trivial, trivial⟩
      rw [show l.all rightP = false from List.all_eq_false.2 ⟨_, List.getElem_mem hk', by rw [hr]; decide⟩]
    · have hr : rightP l[k] = true := by cases e : rightP l[k] with | true => rfl | false => rw [e] at hb; cases hb
      refine c_skip (c_inBlock (c_region ?_))
      refine oV vM ?_
      refine oV ((by first | exact v_add64 rfl rfl (by omega) | exact v_add rfl rfl)) ?_
      refine oV vA ?_
      refine o_nil ?_
      refine cU (IH (k + 1) (by first | omega | (dsimp only; omega)) (⟨by omega, by rw [List.take_succ_eq_append_getElem hk', List.all_append, hc]; simp [hr]⟩))
  · rw [List.take_of_length_le (by omega)] at hc
    refine c_exit rfl ?_
    refine c_seq (c_region ?_)
    refine oV vA ?_
    refine o_nil ?_
    refine c_ret1 Tryz.func41 rfl rfl fun w O hS => ?_
    exact ⟨(), by rw [hc], trivial, trivial⟩
theorem depsP_iff (id : Int) : ∀ (l : List Int) (last : Int), depsP id last l = true ↔ ∀ k (h : k < l.length), (if k = 0 then last else l[k - 1]) < l[k] ∧ l[k] ≤ 1000000000 ∧ l[k] ≠ id
  | [], last => by simp [depsP]
  | n :: l, last => by
    rw [depsP]
    simp only [Bool.and_eq_true, decide_eq_true_eq]
    rw [depsP_iff id l n]
    constructor
    · rintro ⟨⟨⟨h1, h2⟩, h3⟩, h4⟩ k hk
      cases k with
      | zero => exact ⟨h1, h2, h3⟩
      | succ k =>
        have := h4 k (by simpa using hk)
        rw [if_neg (by omega)]
        simp only [Nat.add_sub_cancel, List.getElem_cons_succ]
        cases k with
        | zero => simpa using this
        | succ k => simpa using this
    · intro h
      refine ⟨⟨⟨?_, ?_⟩, ?_⟩, fun k hk => ?_⟩
      · exact (h 0 (by simp)).1
      · exact (h 0 (by simp)).2.1
      · exact (h 0 (by simp)).2.2
      · have := h (k + 1) (by simpa using hk)
        rw [if_neg (by omega)] at this
        simp only [Nat.add_sub_cancel, List.getElem_cons_succ] at this
        cases k with
        | zero => simpa using this
        | succ k => simpa using this
theorem depsP0_iff (id : Int) (l : List Int) : depsP id 0 l = true ↔ ∀ k (h : k < l.length), 1 ≤ l[k] ∧ l[k] ≤ 1000000000 ∧ l[k] ≠ id ∧ (k = 0 ∨ l[k - 1] < l[k]) := by
  rw [depsP_iff]
  constructor
  · intro h
    have hp : ∀ k (hk : k < l.length), 1 ≤ l[k] := fun k => by
      induction k with
      | zero => intro hk; have := (h 0 hk).1; rw [if_pos rfl] at this; omega
      | succ k ih => intro hk; have := (h (k + 1) hk).1; rw [if_neg (by omega)] at this; have h2 := ih (by omega); simp only [Nat.add_sub_cancel] at this; omega
    intro k hk
    obtain ⟨h1, h2, h3⟩ := h k hk
    refine ⟨hp k hk, h2, h3, ?_⟩
    by_cases h0 : k = 0
    · exact .inl h0
    · rw [if_neg h0] at h1; exact .inr h1
  · intro h k hk
    obtain ⟨h1, h2, h3, h4⟩ := h k hk
    refine ⟨?_, h2, h3⟩
    by_cases h0 : k = 0
    · rw [if_pos h0]; omega
    · rw [if_neg h0]; exact h4.resolve_left h0
/-- Sizes at which a patch is looked at. -/
def SizeT (p : Pt9) : Prop := p.2.1.size ≤ 1000000 ∧ p.2.2.1.length ≤ 1000000 ∧ p.2.2.2.length ≤ 1000000 ∧ ∀ q ∈ p.2.2.2, SizeP q
end Go.Proofs.YtlfehnnmpkohkaaGreatDoor
/- Chapter 09: which names and changes may be, as the program says it. -/
namespace Go.Proofs.YtlfehnnmpkohkaaGreatDoor
open Go Go.SL Go.Lib L01
def letters : ByteArray := ⟨#[97, 98, 99, 100, 101, 102, 103, 104, 105, 106, 107, 108, 109, 110, 111, 112, 113, 114, 115, 116, 117, 118, 119, 120, 121, 122, 48, 49, 50, 51, 52, 53, 54, 55, 56, 57, 46, 45, 95, 47]⟩
theorem letter_char : ∀ b : UInt8, letters.data.toList.contains b = charP b := fun b => by
  have h : ∀ n, n < 256 → letters.data.toList.contains (UInt8.ofNat n) = charP (UInt8.ofNat n) := by decide +kernel
  have := h b.toNat (UInt8.toNat_lt b)
  rwa [show UInt8.ofNat b.toNat = b by simp] at this
theorem dropWhile_nil {p : UInt8 → Bool} : ∀ {l : List UInt8}, l.dropWhile p = [] ↔ l.all p = true
  | [] => by simp
  | b :: l => by
    rw [List.dropWhile_cons, List.all_cons]
    by_cases h : p b = true
    · rw [if_pos h, h, Bool.true_and]; exact dropWhile_nil
    · rw [if_neg h]; simp [h]
theorem trim_nil (l : List UInt8) : trimS l letters.data.toList = [] ↔ l.all charP = true := by
  have hp : (fun b => letters.data.toList.contains b) = charP := funext letter_char
  unfold trimS trimLeftS trimRightS
  show (List.dropWhile (fun b => letters.data.toList.contains b) _) = [] ↔ _
  rw [hp, dropWhile_nil]
  constructor
  · intro h
    refine Classical.byContradiction fun k => ?_
    obtain ⟨x, hx, hc⟩ := List.all_eq_false.1 (Bool.eq_false_iff.2 k)
    have h1 : (l.reverse.dropWhile charP) ≠ [] := fun e => by
      have := List.all_eq_true.1 (dropWhile_nil.1 e) x (List.mem_reverse.2 hx)
      exact hc this
    obtain ⟨y, r, e⟩ := List.exists_cons_of_ne_nil h1
    have hy : ¬ charP y = true := by
      have := List.head?_dropWhile_not charP l.reverse
      rw [e] at this
      simpa using this
    rw [e, List.all_reverse, List.all_cons] at h
    simp [hy] at h
  · intro h
    rw [List.all_reverse, List.all_eq_true]
    exact fun x hx => List.all_eq_true.1 h x (List.mem_reverse.1 ((List.dropWhile_sublist _).mem hx))
theorem trim_con (s : ByteArray) (hs : s.size ≤ 1000000) : Con Tryz.prog 126 [.string s, .string letters] [] (γ := Unit) (fun _ => .string (sB (trimS s.data.toList letters.data.toList))) (fun _ => True) (fun _ => []) :=
  con_below fun w _ _ => (Tryz.strings_Trim_set s letters w (by omega) (by decide) (Go.Proofs.ascii_of_all (by decide))).mono fun e w' ⟨he, hw⟩ => ⟨⟨(), he, trivial⟩, hw⟩
attribute [local irreducible] Cfg Kont StepK Val Con Qops Any Sl Own Blk BlkR Rd Pu ExA AllA Has Pick Ent Elem Beside Callable TI Lone OwnO AndA
set_option maxRecDepth 100000 in
theorem named_con (s : ByteArray) (hs : s.size ≤ 1000000) : Con Tryz.prog 86 [.string s] [] (γ := Unit) (fun _ => .bool (namedP s)) (fun _ => True) (fun _ => []) := by
  have hT := trim_con s hs
  unfold letters at hT
  have hn : sB (trimS s.data.toList letters.data.toList) = ⟨#[]⟩ ↔ s.data.toList.all charP = true := by
    rw [← trim_nil]
    exact ⟨fun h => by rw [← sB_list (trimS _ _), h], fun h => by rw [h]; rfl⟩
  unfold namedP
  refine con_of Tryz.func86 rfl (dd rfl) fun w0 O0 => ?_
  refine c_seq (c_region ?_)
  refine oV vA ?_
  refine o_nil (c_seq (c_region ?_))
  refine oV vM ?_
  refine oV (v_len_str Tryz.underlying9 rfl) ?_
  refine oV (v_ge rfl rfl) ?_
  refine oV vM ?_
  refine o_guard_t rfl rfl (fun h1 => ?_) (fun h1 => ?_)
  · refine oV vM ?_
    refine oN ?_
    refine oV (v_len_str Tryz.underlying9 rfl) ?_
    refine oN ?_
    refine oV (v_le rfl rfl) ?_
    refine oV vT ?_
    refine oV vM ?_
    refine o_guard_t rfl rfl (fun h2 => ?_) (fun h2 => ?_)
    · refine oV vM ?_
      refine oN ?_
      refine o_step (s_callf_keep cl126 (hT) rfl (dd rfl) (rX (by repeat constructor)) (fun _ => sX) (fun _ _ => ?_))
      refine oN ?_
      refine oV (v_seq rfl rfl) ?_
      refine oV vT ?_
      refine oV vA ?_
      refine o_nil ?_
      refine c_ret1 Tryz.func86 rfl rfl fun w O hS => ?_
      refine ⟨(), ?_, trivial, trivial⟩
      rw [decide_eq_true (p := 1 ≤ s.size) (by omega), decide_eq_true (p := s.size ≤ 24) (by omega)]
      refine congrArg Value.bool ?_
      rw [Bool.true_and, Bool.true_and, Bool.eq_iff_iff, decide_eq_true_eq]
      exact hn
    · refine oX ?_
      iterate 2 refine oX ?_
      refine oV vQ ?_
      refine oV vA ?_
      refine o_nil ?_
      refine c_ret1 Tryz.func86 rfl rfl fun w O hS => ?_
      exact ⟨(), by rw [decide_eq_false (p := s.size ≤ 24) (by omega), Bool.and_false, Bool.false_and], trivial, trivial⟩
  · refine oX ?_
    iterate 2 refine oX ?_
    refine oV vQ ?_
    refine oV vM ?_
    iterate 3 refine oX ?_
    refine oV vQ ?_
    refine oV vA ?_
    refine o_nil ?_
    refine c_ret1 Tryz.func86 rfl rfl fun w O hS => ?_
    exact ⟨(), by rw [decide_eq_false (p := 1 ≤ s.size) (by omega), Bool.false_and, Bool.false_and], trivial, trivial⟩
end Go.Proofs.YtlfehnnmpkohkaaGreatDoor
/- Chapter 09: which changes may be, as the program says it. -/
namespace Go.Proofs.YtlfehnnmpkohkaaGreatDoor
open Go Go.SL Go.Lib L01
attribute [local irreducible] Cfg Kont StepK Val Con Qops Any Sl Own Blk BlkR Rd Pu ExA AllA Has Pick Ent Elem Beside Callable TI Lone OwnO AndA
set_option maxRecDepth 100000 in
theorem right_prim_con (p : Pr9) (ov wv : Value) (hp : SizeP p) : Con Tryz.prog 129 [.agg #[.int .i64 p.1, .string p.2.1, .string p.2.2.1, .int .i64 p.2.2.2.1, ov, wv]] [Sl eStr ov p.2.2.2.2.1, Sl eStr wv p.2.2.2.2.2] (γ := Unit) (fun _ => .bool (rightP p)) (fun _ => True) (fun _ => []) := by
  obtain ⟨k, n, t, a, o, w⟩ := p
  obtain ⟨hn, ht, ⟨ho, hoe⟩, hw, hwe⟩ := hp
  dsimp only at hn ht ho hoe hw hwe ⊢
  have hN := named_con n hn
  have hT := named_con t ht
  have hO := all_con ov o ho
  have hW := all_con wv w hw
  have hOW := same_con ov wv o w ho hw
  rw [all_line] at hO hW
  have htn := ba_none (t := t)
  refine con_of Tryz.func129 rfl (dd rfl) fun w0 O0 => ?_
  refine c_seq (c_region ?_)
  refine o_step (s_box rfl (dd rfl) (fun b1 => ?_))
  refine oV vA ?_
  refine o_nil (c_seq ?_)
  refine c_env (env' := [(1, _), (2, _)]) (by repeat (first | exact trivial | refine ⟨rfl, ?_⟩)) ?_
  refine c_joinb (d := 3) (decide (a = 0 ∧ o.length = 0 ∧ w.length = 0)) ?_ ?_
  rotate_left
  · intro J
    refine c_region ?_
    refine oV (vF 3 Tryz.underlying74 ti3) ?_
    refine oV (vL lone3) ?_
    refine oV (v_eq rfl rfl) ?_
    refine oV vM ?_
    first | refine o_guard_t rfl rfl (fun g7 => ?_) (fun g7 => ?_) | refine o_guard rfl rfl (fun g7 => ?_) (fun g7 => ?_)
    · refine oV (vF 4 Tryz.underlying74 ti23) ?_
      refine oN ?_
      refine oV (vL lone23) ?_
      refine oN ?_
      refine oV ((by first | exact v_len_form Tryz.underlying23 rfl | exact v_len_sl Tryz.underlying23 rfl (hX (by repeat constructor)))) ?_
      refine oN ?_
      refine oV (v_eq rfl rfl) ?_
      refine oV vT ?_
      refine oV vM ?_
      first | refine o_guard_t rfl rfl (fun g13 => ?_) (fun g13 => ?_) | refine o_guard rfl rfl (fun g13 => ?_) (fun g13 => ?_)
      · refine oV (vF 5 Tryz.underlying74 ti23) ?_
        refine oN ?_
        refine oV (vL lone23) ?_
        refine oN ?_
        refine oV ((by first | exact v_len_form Tryz.underlying23 rfl | exact v_len_sl Tryz.underlying23 rfl (hX (by repeat constructor)))) ?_
        refine oN ?_
        refine oV (v_eq rfl rfl) ?_
        refine oV vT ?_
        refine oV vA ?_
        refine o_nil ?_
        exact cJ J rfl (by first | rfl | (simp_all; done) | (simp_all; omega) | exact decide_eq_decide.2 (by omega) | exact (decide_eq_false (by omega)).symm)
      · refine oX ?_
        iterate 3 refine oX ?_
        refine oV vQ ?_
        refine oV vA ?_
        refine o_nil ?_
        exact cJ J rfl (by first | rfl | (simp_all; done) | (simp_all; omega) | exact decide_eq_decide.2 (by omega) | exact (decide_eq_false (by omega)).symm)
    · refine oX ?_
      iterate 3 refine oX ?_
      refine oV vQ ?_
      refine oV vM ?_
      iterate 4 refine oX ?_
      refine oV vQ ?_
      refine oV vA ?_
      refine o_nil ?_
      exact cJ J rfl (by first | rfl | (simp_all; done) | (simp_all; omega) | exact decide_eq_decide.2 (by omega) | exact (decide_eq_false (by omega)).symm)
  refine c_seq (c_block (c_seq (c_region ?_)))
  refine oV (vF 1 Tryz.underlying74 ti9) ?_
  refine oV (vL lone9) ?_
  have hB : bareP (k, n, t, a, o, w) = decide (a = 0 ∧ o.length = 0 ∧ w.length = 0) := by
    unfold bareP
    dsimp only
    rw [Bool.eq_iff_iff]
    simp only [Bool.and_eq_true, decide_eq_true_eq]
    exact ⟨fun h => ⟨h.1.1, h.1.2, h.2⟩, fun h => ⟨⟨h.1, h.2.1⟩, h.2.2⟩⟩
  refine o_step (s_callf_keep cl86 (hN) rfl (dd rfl) (rX (by repeat constructor)) (fun _ => sX) (fun _ _ => ?_))
  refine oV (v_not rfl) ?_
  refine oV vA ?_
  refine o_nil ?_
  refine c_cond rfl (fun hnn => ?_) (fun hnn => ?_)
  · have hn0 : namedP n = false := by simpa using hnn
    refine c_seq (c_region ?_)
    refine oV vA ?_
    refine o_nil ?_
    refine c_ret1 Tryz.func129 rfl rfl fun w O hS => ?_
    exact ⟨(), by unfold rightP; rw [hn0]; rfl, trivial, trivial⟩
  · have hn1 : namedP n = true := by simpa using hnn
    refine c_seq (c_region ?_)
    refine oV (vF 0 Tryz.underlying74 ti3) ?_
    refine oV (vL lone3) ?_
    refine oV (v_eq rfl rfl) ?_
    refine oV vA ?_
    refine o_nil ?_
    refine c_cond_p rfl (fun h0 => ?_) (fun h0 => ?_)
    · have hR : rightP (k, n, t, a, o, w) = (decide (t.size = 0) && decide (0 ≤ a) && decide (a ≤ 1048576) && o.all lineP && w.all lineP && decide (o ≠ w)) := by
        unfold rightP
        dsimp only
        rw [if_pos h0, hn1, Bool.true_and]
      refine c_seq (c_region ?_)
      refine oV (vF 2 Tryz.underlying74 ti9) ?_
      refine oV (vL lone9) ?_
      refine oV (v_seq rfl rfl) ?_
      refine oV vM ?_
      refine o_guard_t rfl rfl (fun g1 => ?_) (fun g1 => ?_)
      · rw [decide_eq_true (p := t.size = 0) (htn.1 g1)] at hR
        refine oV (vF 3 Tryz.underlying74 ti3) ?_
        refine oN ?_
        refine oV (vL lone3) ?_
        refine oN ?_
        refine oV (v_ge rfl rfl) ?_
        refine oV vT ?_
        refine oV vM ?_
        refine o_guard_t rfl rfl (fun g2 => ?_) (fun g2 => ?_)
        · rw [decide_eq_true (p := 0 ≤ a) (by omega)] at hR
          refine oV (vF 3 Tryz.underlying74 ti3) ?_
          refine oN ?_
          refine oV (vL lone3) ?_
          refine oN ?_
          refine oV (v_le rfl rfl) ?_
          refine oV vT ?_
          refine oV vM ?_
          refine o_guard_t rfl rfl (fun g3 => ?_) (fun g3 => ?_)
          · rw [decide_eq_true (p := a ≤ 1048576) (by omega)] at hR
            simp only [Bool.true_and] at hR
            refine oV (vF 4 Tryz.underlying74 ti23) ?_
            refine oN ?_
            refine oV (vL lone23) ?_
            refine oN ?_
            refine o_step (s_callf_keep cl156 (hO) rfl (dd rfl) (rX (by repeat constructor)) (fun _ => sX) (fun _ _ => ?_))
            refine oV vT ?_
            refine oV vM ?_
            refine o_guard rfl rfl (fun g4 => ?_) (fun g4 => ?_)
            · refine oV (vF 5 Tryz.underlying74 ti23) ?_
              refine oN ?_
              refine oV (vL lone23) ?_
              refine oN ?_
              refine o_step (s_callf_keep cl156 (hW) rfl (dd rfl) (rX (by repeat constructor)) (fun _ => sX) (fun _ _ => ?_))
              refine oV vT ?_
              refine oV vM ?_
              refine o_guard rfl rfl (fun g5 => ?_) (fun g5 => ?_)
              · refine oV (vF 4 Tryz.underlying74 ti23) ?_
                refine oN ?_
                refine oV (vL lone23) ?_
                refine oN ?_
                refine oV (vF 5 Tryz.underlying74 ti23) ?_
                refine oN ?_
                refine oV (vL lone23) ?_
                refine oN ?_
                refine o_step (s_callf_keep cl46 (hOW) rfl (dd rfl) (rX (by repeat constructor)) (fun _ => sX) (fun _ _ => ?_))
                refine oN ?_
                refine oV (v_not rfl) ?_
                refine oV vT ?_
                refine oV vA ?_
                refine o_nil ?_
                refine c_ret1 Tryz.func129 rfl rfl fun w O hS => ?_
                exact ⟨(), by rw [hR, g4, g5]; simp, trivial, trivial⟩
              · refine oX ?_
                iterate 5 refine oX ?_
                refine oV vQ ?_
                refine oV vA ?_
                refine o_nil ?_
                refine c_ret1 Tryz.func129 rfl rfl fun w O hS => ?_
                exact ⟨(), by rw [hR, g4, g5]; rfl, trivial, trivial⟩
            · refine oX ?_
              iterate 2 refine oX ?_
              refine oV vQ ?_
              refine oV vM ?_
              iterate 6 refine oX ?_
              refine oV vQ ?_
              refine oV vA ?_
              refine o_nil ?_
              refine c_ret1 Tryz.func129 rfl rfl fun w O hS => ?_
              exact ⟨(), by rw [hR, g4]; rfl, trivial, trivial⟩
          · refine oX ?_
            iterate 2 refine oX ?_
            refine oV vQ ?_
            refine oV vM ?_
            iterate 3 refine oX ?_
            refine oV vQ ?_
            refine oV vM ?_
            iterate 6 refine oX ?_
            refine oV vQ ?_
            refine oV vA ?_
            refine o_nil ?_
            refine c_ret1 Tryz.func129 rfl rfl fun w O hS => ?_
            exact ⟨(), by rw [hR, decide_eq_false (p := a ≤ 1048576) (by omega)]; simp, trivial, trivial⟩
        · refine oX ?_
          iterate 2 refine oX ?_
          refine oV vQ ?_
          refine oV vM ?_
          iterate 3 refine oX ?_
          refine oV vQ ?_
          refine oV vM ?_
          iterate 3 refine oX ?_
          refine oV vQ ?_
          refine oV vM ?_
          iterate 6 refine oX ?_
          refine oV vQ ?_
          refine oV vA ?_
          refine o_nil ?_
          refine c_ret1 Tryz.func129 rfl rfl fun w O hS => ?_
          exact ⟨(), by rw [hR, decide_eq_false (p := 0 ≤ a) (by omega)]; simp, trivial, trivial⟩
      · refine oX ?_
        iterate 2 refine oX ?_
        refine oV vQ ?_
        refine oV vM ?_
        iterate 3 refine oX ?_
        refine oV vQ ?_
        refine oV vM ?_
        iterate 3 refine oX ?_
        refine oV vQ ?_
        refine oV vM ?_
        iterate 3 refine oX ?_
        refine oV vQ ?_
        refine oV vM ?_
        iterate 6 refine oX ?_
        refine oV vQ ?_
        refine oV vA ?_
        refine o_nil ?_
        refine c_ret1 Tryz.func129 rfl rfl fun w O hS => ?_
        exact ⟨(), by rw [hR, decide_eq_false (p := t.size = 0) (fun h => g1 (htn.2 h))]; simp, trivial, trivial⟩
    · refine c_seq (c_region ?_)
      refine oV (vF 0 Tryz.underlying74 ti3) ?_
      refine oV (vL lone3) ?_
      refine oV (v_eq rfl rfl) ?_
      refine oV vA ?_
      refine o_nil ?_
      refine c_cond_p rfl (fun h3 => ?_) (fun h3 => ?_)
      · have hR : rightP (k, n, t, a, o, w) = (decide (a = 0 ∧ o.length = 0 ∧ w.length = 0) && namedP t && decide (t ≠ n)) := by
          unfold rightP
          dsimp only
          rw [if_neg h0, if_pos h3, hn1, hB]
          simp only [Bool.true_and]
        refine c_seq (c_region ?_)
        iterate 2 refine oV vM ?_
        refine o_guard rfl rfl (fun g1 => ?_) (fun g1 => ?_)
        · refine oV (vF 2 Tryz.underlying74 ti9) ?_
          refine oN ?_
          refine oV (vL lone9) ?_
          refine oN ?_
          refine o_step (s_callf_keep cl86 (hT) rfl (dd rfl) (rX (by repeat constructor)) (fun _ => sX) (fun _ _ => ?_))
          refine oV vT ?_
          refine oV vM ?_
          refine o_guard rfl rfl (fun g2 => ?_) (fun g2 => ?_)
          · refine oV (vF 2 Tryz.underlying74 ti9) ?_
            refine oN ?_
            refine oV (vL lone9) ?_
            refine oN ?_
            refine oV (vF 1 Tryz.underlying74 ti9) ?_
            refine oN ?_
            refine oV (vL lone9) ?_
            refine oN ?_
            refine oV (v_sne rfl rfl) ?_
            refine oV vT ?_
            refine oV vA ?_
            refine o_nil ?_
            refine c_ret1 Tryz.func129 rfl rfl fun w O hS => ?_
            exact ⟨(), by rw [hR, g1, g2]; rfl, trivial, trivial⟩
          · refine oX ?_
            iterate 4 refine oX ?_
            refine oV vQ ?_
            refine oV vA ?_
            refine o_nil ?_
            refine c_ret1 Tryz.func129 rfl rfl fun w O hS => ?_
            exact ⟨(), by rw [hR, g1, g2]; rfl, trivial, trivial⟩
        · refine oX ?_
          iterate 2 refine oX ?_
          refine oV vQ ?_
          refine oV vM ?_
          iterate 5 refine oX ?_
          refine oV vQ ?_
          refine oV vA ?_
          refine o_nil ?_
          refine c_ret1 Tryz.func129 rfl rfl fun w O hS => ?_
          exact ⟨(), by rw [hR, g1]; rfl, trivial, trivial⟩
      · have hR : rightP (k, n, t, a, o, w) = (decide (a = 0 ∧ o.length = 0 ∧ w.length = 0) && decide (t.size = 0) && (decide (k = 1) || decide (k = 2))) := by
          unfold rightP
          dsimp only
          rw [if_neg h0, if_neg h3, hn1, hB]
          simp only [Bool.true_and]
        refine c_skip (c_inBlock (c_seq (c_region ?_)))
        iterate 2 refine oV vM ?_
        refine o_guard rfl rfl (fun g1 => ?_) (fun g1 => ?_)
        · refine oV (vF 2 Tryz.underlying74 ti9) ?_
          refine oN ?_
          refine oV (vL lone9) ?_
          refine oN ?_
          refine oV (v_seq rfl rfl) ?_
          refine oV vT ?_
          refine oV vM ?_
          refine o_guard_t rfl rfl (fun g2 => ?_) (fun g2 => ?_)
          · rw [decide_eq_true (p := t.size = 0) (htn.1 g2)] at hR
            refine oV (vF 0 Tryz.underlying74 ti3) ?_
            refine oN ?_
            refine oV (vL lone3) ?_
            refine oN ?_
            refine oV (v_eq rfl rfl) ?_
            refine oN ?_
            refine oV vM ?_
            refine o_guard_f rfl rfl (fun g3 => ?_) (fun g3 => ?_)
            · refine oV (vF 0 Tryz.underlying74 ti3) ?_
              refine oN ?_
              refine oV (vL lone3) ?_
              refine oN ?_
              refine oV (v_eq rfl rfl) ?_
              refine oN ?_
              refine oV vQ ?_
              refine oV vT ?_
              refine oV vA ?_
              refine o_nil ?_
              refine c_ret1 Tryz.func129 rfl rfl fun w O hS => ?_
              exact ⟨(), by rw [hR, g1, decide_eq_false (p := k = 1) (by omega)]; rfl, trivial, trivial⟩
            · refine oX ?_
              iterate 2 refine oX ?_
              refine oN ?_
              iterate 2 refine oV vT ?_
              refine oV vA ?_
              refine o_nil ?_
              refine c_ret1 Tryz.func129 rfl rfl fun w O hS => ?_
              exact ⟨(), by rw [hR, g1, decide_eq_true (p := k = 1) (by omega)]; rfl, trivial, trivial⟩
          · refine oX ?_
            iterate 3 refine oX ?_
            iterate 3 refine oU ?_
            refine oX ?_
            refine oV vQ ?_
            refine oV vA ?_
            refine o_nil ?_
            refine c_ret1 Tryz.func129 rfl rfl fun w O hS => ?_
            exact ⟨(), by rw [hR, decide_eq_false (p := t.size = 0) (fun h => g2 (htn.2 h))]; simp, trivial, trivial⟩
        · refine oX ?_
          iterate 2 refine oX ?_
          refine oV vQ ?_
          refine oV vM ?_
          iterate 4 refine oX ?_
          iterate 3 refine oU ?_
          refine oX ?_
          refine oV vQ ?_
          refine oV vA ?_
          refine o_nil ?_
          refine c_ret1 Tryz.func129 rfl rfl fun w O hS => ?_
          exact ⟨(), by rw [hR, g1]; rfl, trivial, trivial⟩
end Go.Proofs.YtlfehnnmpkohkaaGreatDoor
/- Chapter 09: which rows of changes, and which patches, may be, as the program says it. -/
namespace Go.Proofs.YtlfehnnmpkohkaaGreatDoor
open Go Go.SL Go.Lib L01
attribute [local irreducible] Cfg Kont StepK Val Con Qops Any Sl Own Blk BlkR Rd Pu ExA AllA Has Pick Ent Elem Beside Callable TI Lone OwnO AndA
set_option maxRecDepth 100000 in
theorem not_right_con (p : Pr9) (ov wv : Value) (hp : SizeP p) : Con Tryz.prog 128 [.agg #[.int .i64 p.1, .string p.2.1, .string p.2.2.1, .int .i64 p.2.2.2.1, ov, wv]] [Sl eStr ov p.2.2.2.2.1, Sl eStr wv p.2.2.2.2.2] (γ := Unit) (fun _ => .bool (!rightP p)) (fun _ => True) (fun _ => []) := by
  have hR := right_prim_con p ov wv hp
  refine con_of Tryz.func128 rfl (dd rfl) fun w0 O0 => ?_
  refine c_seq (c_region ?_)
  refine o_step (s_box rfl (dd rfl) (fun b1 => ?_))
  refine oV vA ?_
  refine o_nil (c_seq (c_region ?_))
  refine oV (vW Tryz.underlying74 ti74) ?_
  refine oC cl129 (hR) fun _ _ => ?_
  refine oV (v_not rfl) ?_
  refine oV vA ?_
  refine o_nil ?_
  refine c_ret1 Tryz.func128 rfl rfl fun w O hS => ?_
  exact ⟨(), rfl, trivial, trivial⟩
set_option maxRecDepth 100000 in
theorem index_prim_con (v : Value) (l : List Pr9) (hl : l.length ≤ 1000000 ∧ ∀ p ∈ l, SizeP p) : Con Tryz.prog 155 [v, .func (.func 128) #[] #[]] [Sl ePr v l] (γ := Int) (fun r => .int .i64 r) (fun r => 0 ≤ r ↔ l.all rightP = false) (fun _ => []) := by
  obtain ⟨hl1, hl2⟩ := hl
  refine con_of Tryz.func155 rfl (dd rfl) fun w0 O0 => ?_
  refine c_seq (c_region ?_)
  refine oV vA ?_
  refine o_nil (c_seq (c_seq (c_region ?_)))
  refine oV vM ?_
  refine oV ((by first | exact v_len_form Tryz.underlying30 rfl | exact v_len_sl Tryz.underlying30 rfl (hX (by repeat constructor)))) ?_
  refine oV vM ?_
  refine o_nil (c_block ?_)
  refine c_loopR (γ := Nat) [(0, _), (1, _), (4, _), (7, _)] (fun k => l.length - k) (fun k => k ≤ l.length ∧ (l.take k).all rightP = true) (fun k => [(8, .int .i64 k)]) (fun _ => [Sl ePr v l]) (0) (⟨Nat.zero_le _, rfl⟩) (by repeat (first | exact trivial | refine ⟨rfl, ?_⟩)) (eX (by repeat constructor)) ?_
  rintro k ⟨hk, hc⟩ IH
  try dsimp only [List.cons_append, List.nil_append]
  refine c_seq (c_region ?_)
  refine oV (v_lt rfl rfl) ?_
  refine o_nil (c_seq ?_)
  refine c_cond_p rfl (fun hlt => ?_) (fun hlt => ?_)
  · have hk' : k < l.length := by omega
    have hR := fun ov wv => not_right_con l[k] ov wv (hl2 _ (List.getElem_mem hk'))
    refine c_skip (c_seq (c_block (c_seq (c_region ?_))))
    refine oV vM ?_
    refine oV vA ?_
    refine o_nil (c_seq (c_region ?_))
    iterate 3 refine oV vM ?_
    refine oV ((by first | exact v_indexAddrN Tryz.underlying30 ti74 rfl rfl (hX (by repeat constructor)) (by omega) | exact v_indexAddr Tryz.underlying30 ti74 rfl rfl (hX (by repeat constructor)) (by omega))) ?_
    refine o_step (s_load_shape ⟨_, Tryz.underlying74⟩ ti74 rfl (dd rfl) (by repeat (first|exact el1 (by omega)|exact el2 (by omega)|exact el3 (by omega)|apply Elem.there)) (pr_open) (fun g => ?_))
    refine o_step (s_call cl128 (hR g.1 g.2) (first := []) (cap := []) rfl rfl (by rfl) (dd rfl) (pXs (by repeat constructor)) fun _ _ => ?_)
    refine o_nil ?_
    refine c_cond rfl (fun hb => ?_) (fun hb => ?_)
    · have hr : rightP l[k] = false := by simpa using hb
      refine c_seq (c_region ?_)
      refine oV vM ?_
      refine oV vA ?_
      refine o_nil ?_
      refine c_ret1 Tryz.func155 rfl rfl fun w O hS => ?_
      exact ⟨k, rfl, ⟨fun _ => List.all_eq_false.2 ⟨_, List.getElem_mem hk', by rw [hr]; decide⟩, fun _ => by omega⟩, trivial⟩
    · have hr : rightP l[k] = true := by simpa using hb
      refine c_skip (c_inBlock (c_region ?_))
      refine oV ((by first | exact v_add64 rfl rfl (by omega) | exact v_add rfl rfl)) ?_
      refine oV vM ?_
      refine o_nil ?_
      refine cU (IH (k + 1) (by first | omega | (dsimp only; omega)) (⟨by omega, by rw [List.take_succ_eq_append_getElem hk', List.all_append, hc]; simp [hr]⟩))
  · rw [List.take_of_length_le (by omega)] at hc
    refine c_exit rfl ?_
    refine c_seq (c_region ?_)
    refine oV vA ?_
    refine o_nil ?_
    refine c_ret1 Tryz.func155 rfl rfl fun w O hS => ?_
    exact ⟨-1, rfl, ⟨fun h => absurd h (by decide), fun h => by rw [hc] at h; cases h⟩, trivial⟩
set_option maxRecDepth 100000 in
theorem contains_prim_con (v : Value) (l : List Pr9) (hl : l.length ≤ 1000000 ∧ ∀ p ∈ l, SizeP p) : Con Tryz.prog 127 [v, .func (.func 128) #[] #[]] [Sl ePr v l] (γ := Unit) (fun _ => .bool (!l.all rightP)) (fun _ => True) (fun _ => []) := by
  have hI := index_prim_con v l hl
  refine con_of Tryz.func127 rfl (dd rfl) fun w0 O0 => ?_
  refine c_seq (c_region ?_)
  refine oV vA ?_
  refine o_nil (c_seq (c_region ?_))
  iterate 2 refine oV vM ?_
  refine oC cl155 (hI) fun r hr => ?_
  refine oV (v_ge rfl rfl) ?_
  refine oV vA ?_
  refine o_nil ?_
  refine c_ret1 Tryz.func127 rfl rfl fun w O hS => ?_
  refine ⟨(), congrArg Value.bool ?_, trivial, trivial⟩
  rw [Bool.eq_iff_iff, decide_eq_true_eq, Bool.not_eq_true', ← hr]
set_option maxRecDepth 100000 in
theorem rights_con (v : Value) (l : List Pr9) (hl : l.length ≤ 1000000 ∧ ∀ p ∈ l, SizeP p) : Con Tryz.prog 88 [v] [Sl ePr v l] (γ := Unit) (fun _ => .bool (l.all rightP)) (fun _ => True) (fun _ => []) := by
  have hI := contains_prim_con v l hl
  refine con_of Tryz.func88 rfl (dd rfl) fun w0 O0 => ?_
  refine c_seq (c_region ?_)
  refine oV vA ?_
  refine o_nil (c_seq (c_region ?_))
  refine oV vM ?_
  refine oC cl127 (hI) fun _ _ => ?_
  refine oV (v_not rfl) ?_
  refine oV vA ?_
  refine o_nil ?_
  refine c_ret1 Tryz.func88 rfl rfl fun w O hS => ?_
  exact ⟨(), by rw [Bool.not_not], trivial, trivial⟩
end Go.Proofs.YtlfehnnmpkohkaaGreatDoor
/- Chapter 09: the program's reader: a change. -/
namespace Go.Proofs.YtlfehnnmpkohkaaGreatDoor
open Go Go.SL Go.Lib
attribute [local irreducible] Cfg Kont StepK Val Con Qops Any Sl Own Blk BlkR Rd Pu ExA AllA Has Pick Ent Elem Beside Callable TI Lone OwnO AndA
set_option maxRecDepth 100000 in
theorem inRaw_con (i : Nat) (bv : Value) (s : St9) (te : TypeId) (pe : Value) : Con Tryz.prog 147 [ptr i] [Blk i 141 [bv, .bool s.2], Sl eByte bv s.1, G1 te pe, G3] (γ := Value × Value × Value)
    (fun g => .agg #[.int .i64 (rawPrim s).2.1, .string (rawPrim s).2.2.1, .string (rawPrim s).2.2.2.1, .int .i64 (rawPrim s).2.2.2.2.1, g.2.1, g.2.2]) (fun _ => True)
    (fun g => [Blk i 141 [g.1, .bool (rawPrim s).1.2], Sl eByte g.1 (rawPrim s).1.1, Sl eStr g.2.1 (rawPrim s).2.2.2.2.2.1, Sl eStr g.2.2 (rawPrim s).2.2.2.2.2.2]) := by
  have c1 := inNum_con i bv s te pe
  obtain ⟨s1, k, h1⟩ : ∃ s1 k, takeNum s = (s1, k) := ⟨_, _, rfl⟩
  rw [h1] at c1
  have c2 := fun v => inText_con i v s1 24 te pe
  obtain ⟨s2, n, h2⟩ : ∃ s2 n, takeText 24 s1 = (s2, n) := ⟨_, _, rfl⟩
  rw [h2] at c2
  have c3 := fun v => inText_con i v s2 24 te pe
  obtain ⟨s3, t, h3⟩ : ∃ s3 t, takeText 24 s2 = (s3, t) := ⟨_, _, rfl⟩
  rw [h3] at c3
  have c4 := fun v => inNum_con i v s3 te pe
  obtain ⟨s4, a, h4⟩ : ∃ s4 a, takeNum s3 = (s4, a) := ⟨_, _, rfl⟩
  rw [h4] at c4
  have c5 := fun v => inTexts_con i v s4 s4.1.length 60 te pe
  obtain ⟨s5, o, h5⟩ : ∃ s5 o, takeTexts s4.1.length 60 s4 = (s5, o) := ⟨_, _, rfl⟩
  rw [h5] at c5
  have c6 := fun v => inTexts_con i v s5 s5.1.length 60 te pe
  obtain ⟨s6, w, h6⟩ : ∃ s6 w, takeTexts s5.1.length 60 s5 = (s6, w) := ⟨_, _, rfl⟩
  rw [h6] at c6
  have hraw : rawPrim s = (s6, (k, n, t, a, o, w)) := by unfold rawPrim; simp only [h1, h2, h3, h4, h5, h6]
  rw [hraw]
  dsimp only at c1 c2 c3 c4 c5 c6 ⊢
  refine con_of Tryz.func147 rfl (dd rfl) fun w0 O0 => ?_
  refine c_seq (c_region ?_)
  refine o_step (s_alloc ti74 (dd rfl) (fun b2 => ?_))
  refine o_nil (c_seq (c_region ?_))
  refine oV vM ?_
  refine oC cl63 (c1) fun v1 _ => ?_
  refine oV vM ?_
  refine oC cl64 (c2 v1) fun v2 _ => ?_
  refine oV vM ?_
  refine oC cl64 (c3 v2) fun v3 _ => ?_
  refine oV vM ?_
  refine oC cl63 (c4 v3) fun v4 _ => ?_
  refine oV (v_buildS (places := [(0, 1), (1, 1), (2, 1), (3, 1), (4, 1), (5, 1)]) (cells := [_, _, _, _, .slice none 0 0, .slice none 0 0]) Tryz.underlying74 ti74 (by kernel_rfl) rfl (by repeat (first | exact PartsC.nil | (apply PartsC.one (by first | exact OneC.lit rfl | exact OneC.sl (hX (by repeat constructor)) )) | (apply PartsC.lit rfl))) rfl) ?_
  refine o_step (s_alloc ti74 (dd rfl) (fun b3 => ?_))
  refine o_step (s_store_all ti74 rfl rfl (by first | exact CellsV.lit rfl | exact CellsV.one (by first | exact OneC.lit rfl | exact OneC.sl (hX (by repeat constructor)) )) (by repeat (first | exact OneAll.nil | (refine OneAll.cons ?_ ?_; · first | exact OneC.lit rfl | exact OneC.sl (hX (by repeat constructor)) ) | exact OneAll.rd (hX (by repeat constructor)))) rfl (pB (by repeat constructor)) rfl (?_))
  refine o_nil (c_seq (c_region ?_))
  iterate 2 refine oV vM ?_
  refine oV (v_nilCheck rfl) ?_
  refine oV (vF 0 Tryz.underlying141 ti38) ?_
  refine oV (vL lone38) ?_
  refine oV ((by first | exact v_len_form Tryz.underlying38 rfl | exact v_len_sl Tryz.underlying38 rfl (hX (by repeat constructor)))) ?_
  refine oC cl66 (c5 v4) fun g5 _ => ?_
  refine oV (vF 4 Tryz.underlying74 ti23) ?_
  refine o_step (s_store1 ti23 rfl rfl (by first | exact OneC.lit rfl | exact OneC.sl (hX (by repeat constructor)) ) (pB (by repeat constructor)) (by first | decide | exact Nat.le_of_ble_eq_true rfl | simp) (by first | (dsimp only [List.set_cons_succ, List.set_cons_zero]; first | done | exact rfl) | rfl) (?_))
  refine o_nil (c_seq (c_region ?_))
  iterate 2 refine oV vM ?_
  refine oV (v_nilCheck rfl) ?_
  refine oV (vF 0 Tryz.underlying141 ti38) ?_
  refine oV (vL lone38) ?_
  refine oV ((by first | exact v_len_form Tryz.underlying38 rfl | exact v_len_sl Tryz.underlying38 rfl (hX (by repeat constructor)))) ?_
  refine oC cl66 (c6 g5.1) fun g6 _ => ?_
  refine oV (vF 5 Tryz.underlying74 ti23) ?_
  refine o_step (s_store1 ti23 rfl rfl (by first | exact OneC.lit rfl | exact OneC.sl (hX (by repeat constructor)) ) (pB (by repeat constructor)) (by first | decide | exact Nat.le_of_ble_eq_true rfl | simp) (by first | (dsimp only [List.set_cons_succ, List.set_cons_zero]; first | done | exact rfl) | rfl) (?_))
  refine o_nil (c_seq (c_region ?_))
  refine oV (vW Tryz.underlying74 ti74) ?_
  refine o_step (s_store_all ti74 rfl rfl (by first | exact CellsV.lit rfl | exact CellsV.one (by first | exact OneC.lit rfl | exact OneC.sl (hX (by repeat constructor)) )) (by repeat (first | exact OneAll.nil | (refine OneAll.cons ?_ ?_; · first | exact OneC.lit rfl | exact OneC.sl (hX (by repeat constructor)) ) | exact OneAll.rd (hX (by repeat constructor)))) rfl (pB (by repeat constructor)) rfl (?_))
  refine o_nil ?_
  refine c_ret_cell Tryz.func147 rfl ⟨_, Tryz.underlying74⟩ ti74 rfl (hX (by repeat constructor)) fun w O hS => ?_
  exact ⟨(g6.1, g5.2, g6.2), rfl, trivial, Ent.get hS (eX (by repeat constructor))⟩
set_option maxRecDepth 100000 in
theorem wholePrim_con (i : Nat) (bv : Value) (s : St9) (hs : s.1.length ≤ big9) (te : TypeId) (pe : Value) : Con Tryz.prog 146 [ptr i, .func (.func 147) #[ptr i] #[], .func (.func 129) #[] #[]] [Blk i 141 [bv, .bool s.2], Sl eByte bv s.1, G1 te pe, G3] (γ := Value × Value × Value)
    (fun g => .agg #[.int .i64 (takePrim s).2.1, .string (takePrim s).2.2.1, .string (takePrim s).2.2.2.1, .int .i64 (takePrim s).2.2.2.2.1, g.2.1, g.2.2]) (fun _ => True)
    (fun g => [Blk i 141 [g.1, .bool (takePrim s).1.2], Sl eByte g.1 (takePrim s).1.1, Sl eStr g.2.1 (takePrim s).2.2.2.2.2.1, Sl eStr g.2.2 (takePrim s).2.2.2.2.2.2]) := by
  have h1 := inRaw_con i bv s te pe
  have hok := raw_ok hs
  unfold takePrim
  obtain ⟨s1, p, hp⟩ : ∃ s1 p, rawPrim s = (s1, p) := ⟨_, _, rfl⟩
  rw [hp] at h1 hok ⊢
  obtain ⟨k, n, t, a, o, w⟩ := p
  have h2 := fun ov wv => right_prim_con (k, n, t, a, o, w) ov wv hok
  dsimp only at h1 h2 ⊢
  refine con_of Tryz.func146 rfl (dd rfl) fun w0 O0 => ?_
  refine c_seq (c_region ?_)
  refine o_step (s_alloc ti74 (dd rfl) (fun b6 => ?_))
  refine o_nil (c_seq (c_region ?_))
  refine oV vM ?_
  refine oV (v_nilCheck rfl) ?_
  refine oV (vF 0 Tryz.underlying141 ti38) ?_
  refine oV (vL lone38) ?_
  refine oV vA ?_
  refine o_nil (c_seq (c_region ?_))
  refine oV vM ?_
  refine o_step (s_call cl147 (h1) (first := [ptr i]) (cap := []) rfl rfl (by rfl) (dd rfl) (pXs (by repeat constructor)) fun g _ => ?_)
  refine o_step (s_alloc ti74 (dd rfl) (fun b8 => ?_))
  refine o_step (s_store_all ti74 rfl rfl (by first | exact CellsV.lit rfl | exact CellsV.one (by first | exact OneC.lit rfl | exact OneC.sl (hX (by repeat constructor)) )) (by repeat (first | exact OneAll.nil | (refine OneAll.cons ?_ ?_; · first | exact OneC.lit rfl | exact OneC.sl (hX (by repeat constructor)) ) | exact OneAll.rd (hX (by repeat constructor)))) rfl (pB (by repeat constructor)) rfl (?_))
  refine o_nil (c_seq (c_seq (c_region ?_)))
  refine oV vM ?_
  refine oV (v_nilCheck rfl) ?_
  refine oV (vF 1 Tryz.underlying141 ti4) ?_
  refine oV (vL lone4) ?_
  refine oV (v_not rfl) ?_
  refine oV vM ?_
  refine o_guard rfl rfl (fun hb => ?_) (fun hb => ?_)
  · have hb2 : s1.2 = false := by simpa using hb
    refine oV vM ?_
    refine oN ?_
    refine oV (vW Tryz.underlying74 ti74) ?_
    refine oN ?_
    refine o_step (s_call_keep cl129 (h2 g.2.1 g.2.2) (first := []) (cap := []) rfl rfl rfl (dd rfl) (rX (by repeat constructor)) (fun _ => sX) (fun _ _ => ?_))
    refine oV vT ?_
    refine o_nil ?_
    refine c_cond rfl (fun hr => ?_) (fun hr => ?_)
    · rw [if_neg (by rintro (q | q); rw [hb2] at q; cases q; rw [hr] at q; cases q)]
      refine c_seq (c_region ?_)
      refine oV (vW Tryz.underlying74 ti74) ?_
      refine o_step (s_store_all ti74 rfl rfl (by first | exact CellsV.lit rfl | exact CellsV.one (by first | exact OneC.lit rfl | exact OneC.sl (hX (by repeat constructor)) )) (by repeat (first | exact OneAll.nil | (refine OneAll.cons ?_ ?_; · first | exact OneC.lit rfl | exact OneC.sl (hX (by repeat constructor)) ) | exact OneAll.rd (hX (by repeat constructor)))) rfl (pB (by repeat constructor)) rfl (?_))
      refine o_nil ?_
      refine c_ret_cell Tryz.func146 rfl ⟨_, Tryz.underlying74⟩ ti74 rfl (hX (by repeat constructor)) fun w O hS => ?_
      exact ⟨g, rfl, trivial, Ent.get hS (eX (by repeat constructor))⟩
    · rw [if_pos (.inr hr)]
      refine c_skip (c_seq (c_region ?_))
      refine o_step (s_alloc ti74 (dd rfl) (fun b9 => ?_))
      refine o_nil (c_seq (c_region ?_))
      iterate 3 refine oV vM ?_
      refine oV (v_nilCheck rfl) ?_
      refine oV (vF 0 Tryz.underlying141 ti38) ?_
      refine o_step (s_store1 ti38 rfl rfl (by first | exact OneC.lit rfl | exact OneC.sl (hX (by repeat constructor)) ) (pB (by repeat constructor)) (by first | decide | exact Nat.le_of_ble_eq_true rfl | simp) (by first | (dsimp only [List.set_cons_succ, List.set_cons_zero]; first | done | exact rfl) | rfl) (?_))
      refine oV (v_nilCheck rfl) ?_
      refine oV (vF 1 Tryz.underlying141 ti4) ?_
      refine o_step (s_store1 ti4 rfl rfl (by first | exact OneC.lit rfl | exact OneC.sl (hX (by repeat constructor)) ) (pB (by repeat constructor)) (by first | decide | exact Nat.le_of_ble_eq_true rfl | simp) (by first | (dsimp only [List.set_cons_succ, List.set_cons_zero]; first | done | exact rfl) | rfl) (?_))
      refine o_nil (c_seq (c_region ?_))
      refine oV (vW Tryz.underlying74 ti74) ?_
      refine o_step (s_store_all ti74 rfl rfl (by first | exact CellsV.lit rfl | exact CellsV.one (by first | exact OneC.lit rfl | exact OneC.sl (hX (by repeat constructor)) )) (by repeat (first | exact OneAll.nil | (refine OneAll.cons ?_ ?_; · first | exact OneC.lit rfl | exact OneC.sl (hX (by repeat constructor)) ) | exact OneAll.rd (hX (by repeat constructor)))) rfl (pB (by repeat constructor)) rfl (?_))
      refine o_nil ?_
      refine c_ret_cell Tryz.func146 rfl ⟨_, Tryz.underlying74⟩ ti74 rfl (hX (by repeat constructor)) fun w O hS => ?_
      exact ⟨(bv, .slice none 0 0, .slice none 0 0), rfl, trivial, Ent.get hS (eX (by repeat constructor))⟩
  · have hb2 : s1.2 = true := by simpa using hb
    rw [if_pos (.inl hb2)]
    iterate 3 refine oX ?_
    refine oV vQ ?_
    refine o_nil ?_
    refine c_cond_f rfl ?_
    refine c_skip (c_seq (c_region ?_))
    refine o_step (s_alloc ti74 (dd rfl) (fun b9 => ?_))
    refine o_nil (c_seq (c_region ?_))
    iterate 3 refine oV vM ?_
    refine oV (v_nilCheck rfl) ?_
    refine oV (vF 0 Tryz.underlying141 ti38) ?_
    refine o_step (s_store1 ti38 rfl rfl (by first | exact OneC.lit rfl | exact OneC.sl (hX (by repeat constructor)) ) (pB (by repeat constructor)) (by first | decide | exact Nat.le_of_ble_eq_true rfl | simp) (by first | (dsimp only [List.set_cons_succ, List.set_cons_zero]; first | done | exact rfl) | rfl) (?_))
    refine oV (v_nilCheck rfl) ?_
    refine oV (vF 1 Tryz.underlying141 ti4) ?_
    refine o_step (s_store1 ti4 rfl rfl (by first | exact OneC.lit rfl | exact OneC.sl (hX (by repeat constructor)) ) (pB (by repeat constructor)) (by first | decide | exact Nat.le_of_ble_eq_true rfl | simp) (by first | (dsimp only [List.set_cons_succ, List.set_cons_zero]; first | done | exact rfl) | rfl) (?_))
    refine o_nil (c_seq (c_region ?_))
    refine oV (vW Tryz.underlying74 ti74) ?_
    refine o_step (s_store_all ti74 rfl rfl (by first | exact CellsV.lit rfl | exact CellsV.one (by first | exact OneC.lit rfl | exact OneC.sl (hX (by repeat constructor)) )) (by repeat (first | exact OneAll.nil | (refine OneAll.cons ?_ ?_; · first | exact OneC.lit rfl | exact OneC.sl (hX (by repeat constructor)) ) | exact OneAll.rd (hX (by repeat constructor)))) rfl (pB (by repeat constructor)) rfl (?_))
    refine o_nil ?_
    refine c_ret_cell Tryz.func146 rfl ⟨_, Tryz.underlying74⟩ ti74 rfl (hX (by repeat constructor)) fun w O hS => ?_
    exact ⟨(bv, .slice none 0 0, .slice none 0 0), rfl, trivial, Ent.get hS (eX (by repeat constructor))⟩
set_option maxRecDepth 100000 in
theorem inPrim_con (i : Nat) (bv : Value) (s : St9) (hs : s.1.length ≤ big9) (te : TypeId) (pe : Value) : Con Tryz.prog 121 [ptr i] [Blk i 141 [bv, .bool s.2], Sl eByte bv s.1, G1 te pe, G3] (γ := Value × Value × Value)
    (fun g => .agg #[.int .i64 (takePrim s).2.1, .string (takePrim s).2.2.1, .string (takePrim s).2.2.2.1, .int .i64 (takePrim s).2.2.2.2.1, g.2.1, g.2.2]) (fun _ => True)
    (fun g => [Blk i 141 [g.1, .bool (takePrim s).1.2], Sl eByte g.1 (takePrim s).1.1, Sl eStr g.2.1 (takePrim s).2.2.2.2.2.1, Sl eStr g.2.2 (takePrim s).2.2.2.2.2.2]) := by
  have h := wholePrim_con i bv s hs te pe
  refine con_of Tryz.func121 rfl (dd rfl) fun w0 O0 => ?_
  refine c_seq (c_region ?_)
  refine o_step (s_alloc ti74 (dd rfl) (fun b2 => ?_))
  refine o_nil (c_seq (c_region ?_))
  iterate 2 refine oV vM ?_
  refine oV (v_makeFunc rfl rfl) ?_
  refine oC cl146 (h) fun g _ => ?_
  refine o_step (s_store_all ti74 rfl rfl (by first | exact CellsV.lit rfl | exact CellsV.one (by first | exact OneC.lit rfl | exact OneC.sl (hX (by repeat constructor)) )) (by repeat (first | exact OneAll.nil | (refine OneAll.cons ?_ ?_; · first | exact OneC.lit rfl | exact OneC.sl (hX (by repeat constructor)) ) | exact OneAll.rd (hX (by repeat constructor)))) rfl (pB (by repeat constructor)) rfl (?_))
  refine o_nil ?_
  refine c_ret_cell Tryz.func121 rfl ⟨_, Tryz.underlying74⟩ ti74 rfl (hX (by repeat constructor)) fun w O hS => ?_
  exact ⟨g, rfl, trivial, Ent.get hS (eX (by repeat constructor))⟩
end Go.Proofs.YtlfehnnmpkohkaaGreatDoor
/- Chapter 09: the document's readers: changes. -/
namespace Go.Proofs.YtlfehnnmpkohkaaGreatDoor
open Go Go.SL Go.Lib
attribute [local irreducible] Cfg Kont StepK Val Con Qops Any Sl Own Blk BlkR Rd Pu ExA AllA Has Pick Ent Elem Beside Callable TI Lone OwnO AndA
end Go.Proofs.YtlfehnnmpkohkaaGreatDoor
/- Chapter 09: the document's readers: rows of changes, and patches. -/
namespace Go.Proofs.YtlfehnnmpkohkaaGreatDoor
open Go Go.SL Go.Lib
theorem pr_close {z : Pr9} {ov wv : Value} (w : World) (O : Perm) (h : Stars [Sl eStr ov z.2.2.2.2.1, Sl eStr wv z.2.2.2.2.2] w O) : ePr.rd w O [.int .i64 z.1, .string z.2.1, .string z.2.2.1, .int .i64 z.2.2.2.1, ov, wv] z := by
  obtain ⟨O1, O2, s1, h1, O3, O4, s2, h2, _⟩ := h
  refine ⟨[.int .i64 z.1], _, rfl, rfl, [.string z.2.1], _, rfl, rfl, [.string z.2.2.1], _, rfl, rfl, [.int .i64 z.2.2.2.1], _, rfl, rfl, [ov], [wv], rfl, ⟨ov, rfl, h1.mono fun b => s1.l b⟩, wv, rfl, h2.mono fun b => Nat.le_trans (s2.l b) (s1.r b)⟩
attribute [local irreducible] Cfg Kont StepK Val Con Qops Any Sl Own Blk BlkR Rd Pu ExA AllA Has Pick Ent Elem Beside Callable TI Lone OwnO AndA
end Go.Proofs.YtlfehnnmpkohkaaGreatDoor
/- Chapter 09: the program's reader: changes. -/
namespace Go.Proofs.YtlfehnnmpkohkaaGreatDoor
open Go Go.SL Go.Lib
attribute [local irreducible] Cfg Kont StepK Val Con Qops Any Sl Own Blk BlkR Rd Pu ExA AllA Has Pick Ent Elem Beside Callable TI Lone OwnO AndA
set_option maxRecDepth 100000 in
theorem someP1_con (i b3 b4 b5 b7 : Nat) (bv : Value) (s : St9) (most : Int) (hs : s.1.length ≤ big9) (te : TypeId) (pe : Value) : Con Tryz.prog 143 [ptr b3, ptr b4, ptr b7, ptr b5] [BlkR b3 103 [ptr i], BlkR b4 3 [.int .i64 most], Blk b7 30 [.slice none 0 0], BlkR b5 149 [.func (.func 121) #[ptr i] #[]], Blk i 141 [bv, .bool s.2], Sl eByte bv s.1, G1 te pe, G3] (γ := Value × Value) (fun g => g.2) (fun _ => True) (fun g => [Blk i 141 [g.1, .bool (somR takePrim most s).1.2], Sl eByte g.1 (somR takePrim most s).1.1, Own ePr 74 g.2 (somR takePrim most s).2]) := by
  have hfar := num_far (s := s)
  have hN := inNum_con i bv s te pe
  unfold somR
  obtain ⟨s1, n, hn⟩ : ∃ s1 n, takeNum s = (s1, n) := ⟨_, _, rfl⟩
  rw [hn] at hN hfar ⊢
  dsimp only at hN hfar ⊢
  unfold far9 at hfar
  refine con_of Tryz.func143 rfl (dd rfl) fun w0 O0 => ?_
  refine c_seq (c_region ?_)
  refine oV vA ?_
  refine o_nil (c_seq (c_region ?_))
  refine oV (vL lone103) ?_
  refine oC cl63 (hN) fun v1 _ => ?_
  refine oV vA ?_
  refine o_nil (c_seq (c_seq ?_))
  refine c_env (env' := [(0, _), (1, _), (2, _), (3, _), (4, _), (5, _)]) (by repeat (first | exact trivial | refine ⟨rfl, ?_⟩)) ?_
  refine c_joinb (d := 15) (decide (n < 0 ∨ most < n)) ?_ ?_
  rotate_left
  · intro J
    refine c_region ?_
    refine oV vM ?_
    refine oV (v_lt rfl rfl) ?_
    refine oV vM ?_
    first | refine o_guard_f rfl rfl (fun g11 => ?_) (fun g11 => ?_) | refine o_guard rfl rfl (fun g11 => ?_) (fun g11 => ?_)
    · refine oV vM ?_
      refine oN ?_
      refine oV (vL lone3) ?_
      refine oN ?_
      refine oV (v_gt rfl rfl) ?_
      refine oV vQ ?_
      refine o_nil ?_
      exact cJ J rfl (by first | rfl | (simp_all; done) | (simp_all; omega) | (simp; omega))
    · refine oX ?_
      iterate 2 refine oX ?_
      refine oV vT ?_
      refine o_nil ?_
      exact cJ J rfl (by first | rfl | (simp_all; done) | (simp_all; omega) | (simp; omega))
  obtain ⟨s2, hs2⟩ : ∃ s2, s2 = (if n < 0 ∨ most < n then spoil9 s1 else s1) := ⟨_, rfl⟩
  rw [← hs2]
  refine c_joinR (γ := Unit) [(0, _), (2, _), (3, _), (4, _), (5, _)] (fun _ => True) (fun _ => []) (fun _ => [BlkR b3 103 [ptr i], BlkR b4 3 [.int .i64 most], Blk b7 30 [.slice none 0 0], BlkR b5 149 [.func (.func 121) #[ptr i] #[]], Blk i 141 [v1, .bool s2.2], Sl eByte v1 s2.1, G1 te pe, G3]) (by repeat (first | exact trivial | refine ⟨rfl, ?_⟩)) ?_ ?_
  rotate_left
  · intro MEET
    skip
    refine c_cond_p rfl (fun hq => ?_) (fun hq => ?_)
    · have e2 : s2 = (s1.1, true) := by rw [hs2, if_pos hq]; rfl
      subst e2
      refine c_region ?_
      refine oV (vL lone103) ?_
      refine oV (v_nilCheck rfl) ?_
      refine oV (vF 1 Tryz.underlying141 ti4) ?_
      refine o_step (s_store1 ti4 rfl rfl (by first | exact OneC.lit rfl | exact OneC.sl (hX (by repeat constructor)) ) (pB (by repeat constructor)) (by first | decide | exact Nat.le_of_ble_eq_true rfl | simp) (by first | (dsimp only [List.set_cons_succ, List.set_cons_zero]; first | done | exact rfl) | rfl) (?_))
      refine o_nil ?_
      refine cU (MEET (()) (trivial))
    · have e2 : s2 = s1 := by rw [hs2, if_neg hq]
      subst e2
      refine c_skip ?_
      refine cU (MEET (()) (trivial))
  have hs2l : s2.1.length ≤ big9 := by
    have h1 := goes_len goes_num s
    rw [hn] at h1
    have h2 : s2.1 = s1.1 := by rw [hs2]; split <;> rfl
    rw [h2]; exact Nat.le_trans h1 hs
  rintro ⟨⟩ -
  dsimp only [List.cons_append, List.nil_append]
  refine c_seq (c_seq (c_region ?_))
  refine oV vA ?_
  refine o_nil (c_block ?_)
  refine c_loopR (γ := Nat × St9 × List Pr9 × Value × Value) [(0, _), (2, _), (3, _), (4, _), (5, _)] (fun g => n.toNat - g.1) (fun g => g.1 ≤ n.toNat ∧ g.2.2.1.length ≤ g.1 ∧ takeMany takePrim (n.toNat - g.1) g.2.1 g.2.2.1 = takeMany takePrim n.toNat s2 [] ∧ (fun q : St9 => q.1.length ≤ big9) g.2.1) (fun g => [(6, .int .i64 g.1)]) (fun g => [BlkR b3 103 [ptr i], BlkR b5 149 [.func (.func 121) #[ptr i] #[]], Blk b7 30 [g.2.2.2.2], Own ePr 74 g.2.2.2.2 g.2.2.1, Blk i 141 [g.2.2.2.1, .bool g.2.1.2], Sl eByte g.2.2.2.1 g.2.1.1, G1 te pe, G3]) ((0, s2, [], v1, .slice none 0 0)) (⟨Nat.zero_le _, Nat.le_refl _, rfl, hs2l⟩) (by repeat (first | exact trivial | refine ⟨rfl, ?_⟩)) (eX (by repeat constructor)) ?_
  rintro ⟨k, sk, out, r, v⟩ ⟨hk, hlk, hTk, hgo⟩ IH
  dsimp only at hk hlk hTk ⊢
  dsimp only at hgo
  try dsimp only [List.cons_append, List.nil_append]
  refine c_seq (c_seq ?_)
  refine c_env (env' := [(0, _), (2, _), (3, _), (4, _), (5, _), (6, _)]) (by repeat (first | exact trivial | refine ⟨rfl, ?_⟩)) ?_
  refine c_joinb (d := 28) (decide ((k : Int) < n ∧ sk.2 = false)) ?_ ?_
  rotate_left
  · intro J
    refine c_region ?_
    iterate 2 refine oV vM ?_
    refine oV (v_lt rfl rfl) ?_
    refine oV vM ?_
    first | refine o_guard_t rfl rfl (fun g22 => ?_) (fun g22 => ?_) | refine o_guard rfl rfl (fun g22 => ?_) (fun g22 => ?_)
    · refine oV (vL lone103) ?_
      refine oN ?_
      refine oV (v_nilCheck rfl) ?_
      refine oN ?_
      refine oV (vF 1 Tryz.underlying141 ti4) ?_
      refine oN ?_
      refine oV (vL lone4) ?_
      refine oN ?_
      refine oV (v_not rfl) ?_
      refine oV vT ?_
      refine o_nil ?_
      exact cJ J rfl (by first | rfl | (simp_all; done) | (simp_all; omega))
    · refine oX ?_
      iterate 4 refine oX ?_
      refine oV vQ ?_
      refine o_nil ?_
      exact cJ J rfl (by first | rfl | (simp_all; done) | (simp_all; omega))
  refine c_cond_p rfl (fun hlt => ?_) (fun hlt => ?_)
  · have hst := takeMany_step takePrim (n := n.toNat) (k := k) (out := out) (by omega) hlt.2
    refine c_skip (c_seq (c_block ?_))
    refine c_heldk 5 [Blk b7 30 [v], BlkR b5 149 [.func (.func 121) #[ptr i] #[]]] rfl ?_
    refine k_take 0 rfl (by kernel_rfl) (by kernel_rfl) (by kernel_rfl) rfl (by kernel_rfl) (vL lone30) (eX (by repeat constructor)) (dd rfl) ?_
    refine k_take 1 rfl (by kernel_rfl) (by kernel_rfl) (by kernel_rfl) rfl (by kernel_rfl) (vL lone149) (eX (by repeat constructor)) (dd rfl) ?_
    refine k_one 2 rfl (by kernel_rfl) fun hc_ => (s_call cl121 (inPrim_con i r sk hgo te pe) (first := [ptr i]) (cap := []) rfl rfl (by rfl) (dd rfl) (pXs (by repeat constructor)) (fun g2 _ => k_on hc_ (eX (by repeat constructor)) ?_))
    refine k_one 3 rfl (by kernel_rfl) fun hc_ => (s_buildSlice Tryz.underlying30 ti74 rfl rfl rfl (by decide) (by decide) (beside_agg1 (beside_of (Lp := [Sl eStr g2.2.1 (takePrim sk).2.2.2.2.2.1, Sl eStr g2.2.2 (takePrim sk).2.2.2.2.2.2]) (pXs (by repeat constructor)) fun w O => pr_close (z := (takePrim sk).2) w O)) rfl rfl (dd rfl) (fun v2 => k_on hc_ (eX (by repeat constructor)) ?_))
    refine k_one 4 rfl (by kernel_rfl) fun hc_ => (s_append Tryz.underlying30 ti74 rfl (by decide) rfl rfl (dd rfl) (pB (by repeat constructor)) (pX (by repeat constructor)) rfl (by (first | omega | (simp only [maxLen, List.length_append, List.length_drop, List.length_take, List.length_nil, List.length_cons]; omega))) (by (first | omega | (simp only [maxLen, List.length_append, List.length_drop, List.length_take, List.length_nil, List.length_cons]; omega))) (fun v3 => k_on hc_ (eX (by repeat constructor)) ?_))
    refine k_one 5 rfl (by kernel_rfl) fun hc_ => (s_store1 ti30 rfl rfl (by first | exact OneC.lit rfl | exact OneC.sl (hX (by repeat constructor)) ) (pB (by repeat constructor)) (by first | decide | exact Nat.le_of_ble_eq_true rfl | simp) (by first | (dsimp only [List.set_cons_succ, List.set_cons_zero]; first | done | exact rfl) | rfl) (k_last hc_ (by kernel_rfl) ?_))
    refine k_done (by kernel_rfl) ?_ _
    refine c_inBlock (c_region ?_)
    refine oV vM ?_
    refine oV ((by first | exact v_add64 rfl rfl (by omega) | exact v_add rfl rfl)) ?_
    refine oV vA ?_
    refine o_nil ?_
    refine cU (IH ((k + 1, (takePrim sk).1, out ++ [(takePrim sk).2], g2.1, v3)) (by first | omega | (dsimp only; omega)) (⟨by dsimp only; omega, by simp; omega, hst.symm.trans hTk, Nat.le_trans (goes_len goes_prim sk) hgo⟩))
  · have hend : takeMany takePrim (n.toNat - k) sk out = (sk, out) := by
      cases hb : sk.2 with
      | true => exact takeMany_bad _ _ _ _ hb
      | false => exact takeMany_end _ (by have : ¬ (k : Int) < n := fun q => hlt ⟨q, hb⟩; omega)
    refine c_exit rfl ?_
    refine c_seq (c_region ?_)
    refine oV (vL lone30) ?_
    refine oV vA ?_
    refine o_nil ?_
    refine c_ret1 Tryz.func143 rfl rfl fun w O hS => ?_
    exact ⟨(r, v), rfl, trivial, by rw [← hTk, hend]; exact Ent.get hS (eX (by repeat constructor))⟩
set_option maxRecDepth 100000 in
theorem alwaysP_con (v : Value) : Con Tryz.prog 145 [v] [] (γ := Unit) (fun _ => .bool true) (fun _ => True) (fun _ => []) := by
  refine con_of Tryz.func145 rfl (dd rfl) fun w0 O0 => ?_
  refine c_seq (c_region ?_)
  refine oV vA ?_
  refine o_nil (c_seq (c_region ?_))
  refine oV vA ?_
  refine o_nil ?_
  refine c_ret1 Tryz.func145 rfl rfl fun w O hS => ?_
  exact ⟨(), rfl, trivial, trivial⟩
set_option maxRecDepth 100000 in
theorem wholeP_con (i b3 b4 b5 b7 : Nat) (bv : Value) (s : St9) (most : Int) (hs : s.1.length ≤ big9) (te : TypeId) (pe : Value) : Con Tryz.prog 144 [ptr i, .func (.func 143) #[] #[ptr b3, ptr b4, ptr b7, ptr b5], .func (.func 145) #[] #[]] [BlkR b3 103 [ptr i], BlkR b4 3 [.int .i64 most], Blk b7 30 [.slice none 0 0], BlkR b5 149 [.func (.func 121) #[ptr i] #[]], Blk i 141 [bv, .bool s.2], Sl eByte bv s.1, G1 te pe, G3] (γ := Value × Value) (fun g => g.2) (fun _ => True) (fun g => [Blk i 141 [g.1, .bool (takeSome takePrim most s).1.2], Sl eByte g.1 (takeSome takePrim most s).1.1, Own ePr 74 g.2 (takeSome takePrim most s).2]) := by
  have h1 := someP1_con i b3 b4 b5 b7 bv s most hs te pe
  have h2 := fun v => alwaysP_con v
  rw [some_as]
  refine con_of Tryz.func144 rfl (dd rfl) fun w0 O0 => ?_
  refine c_seq (c_region ?_)
  refine oV vA ?_
  refine o_nil (c_seq (c_region ?_))
  refine oV vM ?_
  refine oV (v_nilCheck rfl) ?_
  refine oV (vF 0 Tryz.underlying141 ti38) ?_
  refine oV (vL lone38) ?_
  refine oV vA ?_
  refine o_nil (c_seq (c_region ?_))
  refine oV vM ?_
  refine o_step (s_call cl143 (h1) (first := []) (cap := [ptr b3, ptr b4, ptr b7, ptr b5]) rfl rfl (by rfl) (dd rfl) (pXs (by repeat constructor)) fun g _ => ?_)
  refine oV vA ?_
  refine o_nil (c_seq (c_seq (c_region ?_)))
  refine oV vM ?_
  refine oV (v_nilCheck rfl) ?_
  refine oV (vF 1 Tryz.underlying141 ti4) ?_
  refine oV (vL lone4) ?_
  refine oV (v_not rfl) ?_
  refine oV vM ?_
  refine o_guard rfl rfl (fun hb => ?_) (fun hb => ?_)
  · have hb2 : (somR takePrim most s).1.2 = false := by simpa using hb
    rw [if_neg (by rw [hb2]; decide)]
    refine oV vM ?_
    refine oN ?_
    refine oV vM ?_
    refine oN ?_
    refine o_step (s_call cl145 (h2 g.2) (first := []) (cap := []) rfl rfl (by rfl) (dd rfl) (pXs (by repeat constructor)) fun _ _ => ?_)
    refine oV vT ?_
    refine o_nil ?_
    refine c_cond_t rfl ?_
    refine c_seq (c_region ?_)
    refine oV vM ?_
    refine oV vA ?_
    refine o_nil ?_
    refine c_ret1 Tryz.func144 rfl rfl fun w O hS => ?_
    exact ⟨g, rfl, trivial, Ent.get hS (eX (by repeat constructor))⟩
  · have hb2 : (somR takePrim most s).1.2 = true := by simpa using hb
    rw [if_pos hb2]
    iterate 3 refine oX ?_
    refine oV vQ ?_
    refine o_nil ?_
    refine c_cond_f rfl ?_
    refine c_skip (c_seq (c_region ?_))
    refine oV vA ?_
    refine o_nil (c_seq (c_region ?_))
    iterate 3 refine oV vM ?_
    refine oV (v_nilCheck rfl) ?_
    refine oV (vF 0 Tryz.underlying141 ti38) ?_
    refine o_step (s_store1 ti38 rfl rfl (by first | exact OneC.lit rfl | exact OneC.sl (hX (by repeat constructor)) ) (pB (by repeat constructor)) (by first | decide | exact Nat.le_of_ble_eq_true rfl | simp) (by first | (dsimp only [List.set_cons_succ, List.set_cons_zero]; first | done | exact rfl) | rfl) (?_))
    refine oV (v_nilCheck rfl) ?_
    refine oV (vF 1 Tryz.underlying141 ti4) ?_
    refine o_step (s_store1 ti4 rfl rfl (by first | exact OneC.lit rfl | exact OneC.sl (hX (by repeat constructor)) ) (pB (by repeat constructor)) (by first | decide | exact Nat.le_of_ble_eq_true rfl | simp) (by first | (dsimp only [List.set_cons_succ, List.set_cons_zero]; first | done | exact rfl) | rfl) (?_))
    refine o_nil (c_seq (c_region ?_))
    refine oV vM ?_
    refine oV vA ?_
    refine o_nil ?_
    refine c_ret1 Tryz.func144 rfl rfl fun w O hS => ?_
    exact ⟨(bv, .slice none 0 0), rfl, trivial, Ent.get hS (eX (by repeat constructor))⟩
set_option maxRecDepth 100000 in
theorem someP_con (i : Nat) (bv : Value) (s : St9) (most : Int) (hs : s.1.length ≤ big9) (te : TypeId) (pe : Value) : Con Tryz.prog 120 [ptr i, .int .i64 most, .func (.func 121) #[ptr i] #[]] [Blk i 141 [bv, .bool s.2], Sl eByte bv s.1, G1 te pe, G3] (γ := Value × Value) (fun g => g.2) (fun _ => True) (fun g => [Blk i 141 [g.1, .bool (takeSome takePrim most s).1.2], Sl eByte g.1 (takeSome takePrim most s).1.1, Own ePr 74 g.2 (takeSome takePrim most s).2]) := by
  refine con_of Tryz.func120 rfl (dd rfl) fun w0 O0 => ?_
  refine c_seq (c_region ?_)
  refine o_step (s_box rfl (dd rfl) (fun b3 => ?_))
  refine o_step (s_box rfl (dd rfl) (fun b4 => ?_))
  refine o_step (s_box rfl (dd rfl) (fun b5 => ?_))
  refine oV vA ?_
  refine o_nil (c_seq (c_region ?_))
  refine o_step (s_alloc ti30 (dd rfl) (fun b7 => ?_))
  refine o_nil (c_seq (c_region ?_))
  refine oV (v_makeFunc rfl rfl) ?_
  refine oV vA ?_
  refine o_nil (c_seq (c_region ?_))
  refine oV (vL lone103) ?_
  refine oV vM ?_
  have h := wholeP_con i b3 b4 b5 b7 bv s most hs te pe
  refine oC cl144 (h) fun g _ => ?_
  refine oV vA ?_
  refine o_nil ?_
  refine c_ret1 Tryz.func120 rfl rfl fun w O hS => ?_
  exact ⟨g, rfl, trivial, Ent.get hS (eX (by repeat constructor))⟩
set_option maxRecDepth 100000 in
theorem inPrims_con (i : Nat) (bv : Value) (s : St9) (most : Int) (hs : s.1.length ≤ big9) (te : TypeId) (pe : Value) : Con Tryz.prog 67 [ptr i, .int .i64 most] [Blk i 141 [bv, .bool s.2], Sl eByte bv s.1, G1 te pe, G3] (γ := Value × Value) (fun g => g.2) (fun _ => True) (fun g => [Blk i 141 [g.1, .bool (takePrims most s).1.2], Sl eByte g.1 (takePrims most s).1.1, Own ePr 74 g.2 (takePrims most s).2]) := by
  have h := someP_con i bv s most hs te pe
  unfold takePrims
  refine con_of Tryz.func67 rfl (dd rfl) fun w0 O0 => ?_
  refine c_seq (c_region ?_)
  refine oV vA ?_
  refine o_nil (c_seq (c_region ?_))
  iterate 3 refine oV vM ?_
  refine oV (v_makeFunc rfl rfl) ?_
  refine oC cl120 (h) fun g _ => ?_
  refine oV vA ?_
  refine o_nil ?_
  refine c_ret1 Tryz.func67 rfl rfl fun w O hS => ?_
  exact ⟨g, rfl, trivial, Ent.get hS (eX (by repeat constructor))⟩
end Go.Proofs.YtlfehnnmpkohkaaGreatDoor
/- Chapter 09: the program's reader: a patch. -/
namespace Go.Proofs.YtlfehnnmpkohkaaGreatDoor
open Go Go.SL Go.Lib
attribute [local irreducible] Cfg Kont StepK Val Con Qops Any Sl Own Blk BlkR Rd Pu ExA AllA Has Pick Ent Elem Beside Callable TI Lone OwnO AndA
end Go.Proofs.YtlfehnnmpkohkaaGreatDoor
/- Chapter 09: which changes and patches are the same. -/
namespace Go.Proofs.YtlfehnnmpkohkaaGreatDoor
open Go Go.SL Go.Lib
instance decPr9 : DecidableEq Pr9 := fun a b => inferInstanceAs (Decidable (a = b))
attribute [local irreducible] Cfg Kont StepK Val Con Qops Any Sl Own Blk BlkR Rd Pu ExA AllA Has Pick Ent Elem Beside Callable TI Lone OwnO AndA
set_option maxRecDepth 100000 in
theorem samePr_con (p q : Pr9) (ov wv ov' wv' : Value) (hp : p.2.2.2.2.1.length ≤ 1000000 ∧ p.2.2.2.2.2.length ≤ 1000000) (hq : q.2.2.2.2.1.length ≤ 1000000 ∧ q.2.2.2.2.2.length ≤ 1000000) : Con Tryz.prog 107 [.agg #[.int .i64 p.1, .string p.2.1, .string p.2.2.1, .int .i64 p.2.2.2.1, ov, wv], .agg #[.int .i64 q.1, .string q.2.1, .string q.2.2.1, .int .i64 q.2.2.2.1, ov', wv']] [Sl eStr ov p.2.2.2.2.1, Sl eStr wv p.2.2.2.2.2, Sl eStr ov' q.2.2.2.2.1, Sl eStr wv' q.2.2.2.2.2] (γ := Unit) (fun _ => .bool (decide (p = q))) (fun _ => True) (fun _ => []) := by
  obtain ⟨k, n, t, a, o, z⟩ := p
  obtain ⟨k', n', t', a', o', z'⟩ := q
  obtain ⟨hp1, hp2⟩ := hp
  obtain ⟨hq1, hq2⟩ := hq
  dsimp only at hp1 hp2 hq1 hq2 ⊢
  have h1 := same_con ov ov' o o' hp1 hq1
  have h2 := same_con wv wv' z z' hp2 hq2
  refine con_of Tryz.func107 rfl (dd rfl) fun w0 O0 => ?_
  refine c_seq (c_region ?_)
  refine o_step (s_box rfl (dd rfl) (fun b2 => ?_))
  refine o_step (s_box rfl (dd rfl) (fun b3 => ?_))
  refine oV vA ?_
  refine o_nil (c_seq (c_region ?_))
  refine oV (vF 0 Tryz.underlying74 ti3) ?_
  refine oV (vL lone3) ?_
  refine oV (vF 0 Tryz.underlying74 ti3) ?_
  refine oV (vL lone3) ?_
  refine oV (v_eq rfl rfl) ?_
  refine oV vM ?_
  refine o_guard_t rfl rfl (fun g1 => ?_) (fun g1 => ?_)
  · refine oV (vF 1 Tryz.underlying74 ti9) ?_
    refine oN ?_
    refine oV (vL lone9) ?_
    refine oN ?_
    refine oV (vF 1 Tryz.underlying74 ti9) ?_
    refine oN ?_
    refine oV (vL lone9) ?_
    refine oN ?_
    refine oV (v_seq rfl rfl) ?_
    refine oV vT ?_
    refine oV vM ?_
    refine o_guard_t rfl rfl (fun g2 => ?_) (fun g2 => ?_)
    · refine oV (vF 2 Tryz.underlying74 ti9) ?_
      refine oN ?_
      refine oV (vL lone9) ?_
      refine oN ?_
      refine oV (vF 2 Tryz.underlying74 ti9) ?_
      refine oN ?_
      refine oV (vL lone9) ?_
      refine oN ?_
      refine oV (v_seq rfl rfl) ?_
      refine oV vT ?_
      refine oV vM ?_
      refine o_guard_t rfl rfl (fun g3 => ?_) (fun g3 => ?_)
      · refine oV (vF 3 Tryz.underlying74 ti3) ?_
        refine oN ?_
        refine oV (vL lone3) ?_
        refine oN ?_
        refine oV (vF 3 Tryz.underlying74 ti3) ?_
        refine oN ?_
        refine oV (vL lone3) ?_
        refine oN ?_
        refine oV (v_eq rfl rfl) ?_
        refine oV vT ?_
        refine oV vM ?_
        refine o_guard_t rfl rfl (fun g4 => ?_) (fun g4 => ?_)
        · refine oV (vF 4 Tryz.underlying74 ti23) ?_
          refine oN ?_
          refine oV (vL lone23) ?_
          refine oN ?_
          refine oV (vF 4 Tryz.underlying74 ti23) ?_
          refine oN ?_
          refine oV (vL lone23) ?_
          refine oN ?_
          refine o_step (s_callf_keep cl46 (h1) rfl (dd rfl) (rX (by repeat constructor)) (fun _ => sX) (fun _ _ => ?_))
          refine oV vT ?_
          refine oV vM ?_
          refine o_guard rfl rfl (fun g5 => ?_) (fun g5 => ?_)
          · have g5' : o = o' := of_decide_eq_true g5
            refine oV (vF 5 Tryz.underlying74 ti23) ?_
            refine oN ?_
            refine oV (vL lone23) ?_
            refine oN ?_
            refine oV (vF 5 Tryz.underlying74 ti23) ?_
            refine oN ?_
            refine oV (vL lone23) ?_
            refine oN ?_
            refine o_step (s_callf_keep cl46 (h2) rfl (dd rfl) (rX (by repeat constructor)) (fun _ => sX) (fun _ _ => ?_))
            refine oV vT ?_
            refine oV vA ?_
            refine o_nil ?_
            refine c_ret1 Tryz.func107 rfl rfl fun w O hS => ?_
            subst g1; subst g2; subst g3; subst g4; subst g5'
            exact ⟨(), congrArg Value.bool (decide_eq_decide.2 ⟨fun h => by rw [h], fun h => by injection h with _ h; injection h with _ h; injection h with _ h; injection h with _ h; injection h with _ h⟩), trivial, trivial⟩
          · have g5' : ¬ o = o' := of_decide_eq_false g5
            iterate 5 refine oX ?_
            refine oV vQ ?_
            refine oV vA ?_
            refine o_nil ?_
            refine c_ret1 Tryz.func107 rfl rfl fun w O hS => ?_
            refine ⟨(), ?_, trivial, trivial⟩
            rw [decide_eq_false]
            intro q
            injection q
            simp_all
        · skip
          iterate 5 refine oX ?_
          refine oV vQ ?_
          refine oV vM ?_
          iterate 5 refine oX ?_
          refine oV vQ ?_
          refine oV vA ?_
          refine o_nil ?_
          refine c_ret1 Tryz.func107 rfl rfl fun w O hS => ?_
          refine ⟨(), ?_, trivial, trivial⟩
          rw [decide_eq_false]
          intro q
          injection q
          simp_all
      · skip
        iterate 5 refine oX ?_
        refine oV vQ ?_
        refine oV vM ?_
        iterate 5 refine oX ?_
        refine oV vQ ?_
        refine oV vM ?_
        iterate 5 refine oX ?_
        refine oV vQ ?_
        refine oV vA ?_
        refine o_nil ?_
        refine c_ret1 Tryz.func107 rfl rfl fun w O hS => ?_
        refine ⟨(), ?_, trivial, trivial⟩
        rw [decide_eq_false]
        intro q
        injection q
        simp_all
    · skip
      iterate 5 refine oX ?_
      refine oV vQ ?_
      refine oV vM ?_
      iterate 5 refine oX ?_
      refine oV vQ ?_
      refine oV vM ?_
      iterate 5 refine oX ?_
      refine oV vQ ?_
      refine oV vM ?_
      iterate 5 refine oX ?_
      refine oV vQ ?_
      refine oV vA ?_
      refine o_nil ?_
      refine c_ret1 Tryz.func107 rfl rfl fun w O hS => ?_
      refine ⟨(), ?_, trivial, trivial⟩
      rw [decide_eq_false]
      intro q
      injection q
      simp_all
  · skip
    iterate 5 refine oX ?_
    refine oV vQ ?_
    refine oV vM ?_
    iterate 5 refine oX ?_
    refine oV vQ ?_
    refine oV vM ?_
    iterate 5 refine oX ?_
    refine oV vQ ?_
    refine oV vM ?_
    iterate 5 refine oX ?_
    refine oV vQ ?_
    refine oV vM ?_
    iterate 5 refine oX ?_
    refine oV vQ ?_
    refine oV vA ?_
    refine o_nil ?_
    refine c_ret1 Tryz.func107 rfl rfl fun w O hS => ?_
    refine ⟨(), ?_, trivial, trivial⟩
    rw [decide_eq_false]
    intro q
    injection q
    simp_all
set_option maxRecDepth 100000 in
theorem samePrR_con (p q : Pr9) (ov wv ov' wv' : Value) (hp : p.2.2.2.2.1.length ≤ 1000000 ∧ p.2.2.2.2.2.length ≤ 1000000) (hq : q.2.2.2.2.1.length ≤ 1000000 ∧ q.2.2.2.2.2.length ≤ 1000000) : Con Tryz.prog 80 [.agg #[.int .i64 p.1, .string p.2.1, .string p.2.2.1, .int .i64 p.2.2.2.1, ov, wv], .agg #[.int .i64 q.1, .string q.2.1, .string q.2.2.1, .int .i64 q.2.2.2.1, ov', wv']] [Sl eStr ov p.2.2.2.2.1, Sl eStr wv p.2.2.2.2.2, Sl eStr ov' q.2.2.2.2.1, Sl eStr wv' q.2.2.2.2.2] (γ := Unit) (fun _ => .bool (decide (p = q))) (fun _ => True) (fun _ => []) := by
  obtain ⟨k, n, t, a, o, z⟩ := p
  obtain ⟨k', n', t', a', o', z'⟩ := q
  obtain ⟨hp1, hp2⟩ := hp
  obtain ⟨hq1, hq2⟩ := hq
  dsimp only at hp1 hp2 hq1 hq2 ⊢
  have h1 := same_ref_con ov ov' o o' hp1 hq1
  have h2 := same_ref_con wv wv' z z' hp2 hq2
  refine con_of Tryz.func80 rfl (dd rfl) fun w0 O0 => ?_
  refine c_seq (c_region ?_)
  refine o_step (s_box rfl (dd rfl) (fun b2 => ?_))
  refine o_step (s_box rfl (dd rfl) (fun b3 => ?_))
  refine oV vA ?_
  refine o_nil (c_seq (c_region ?_))
  refine oV (vF 0 Tryz.underlying129 ti3) ?_
  refine oV (vL lone3) ?_
  refine oV (vF 0 Tryz.underlying129 ti3) ?_
  refine oV (vL lone3) ?_
  refine oV (v_eq rfl rfl) ?_
  refine oV vM ?_
  refine o_guard_t rfl rfl (fun g1 => ?_) (fun g1 => ?_)
  · refine oV (vF 1 Tryz.underlying129 ti9) ?_
    refine oN ?_
    refine oV (vL lone9) ?_
    refine oN ?_
    refine oV (vF 1 Tryz.underlying129 ti9) ?_
    refine oN ?_
    refine oV (vL lone9) ?_
    refine oN ?_
    refine oV (v_seq rfl rfl) ?_
    refine oV vT ?_
    refine oV vM ?_
    refine o_guard_t rfl rfl (fun g2 => ?_) (fun g2 => ?_)
    · refine oV (vF 2 Tryz.underlying129 ti9) ?_
      refine oN ?_
      refine oV (vL lone9) ?_
      refine oN ?_
      refine oV (vF 2 Tryz.underlying129 ti9) ?_
      refine oN ?_
      refine oV (vL lone9) ?_
      refine oN ?_
      refine oV (v_seq rfl rfl) ?_
      refine oV vT ?_
      refine oV vM ?_
      refine o_guard_t rfl rfl (fun g3 => ?_) (fun g3 => ?_)
      · refine oV (vF 3 Tryz.underlying129 ti3) ?_
        refine oN ?_
        refine oV (vL lone3) ?_
        refine oN ?_
        refine oV (vF 3 Tryz.underlying129 ti3) ?_
        refine oN ?_
        refine oV (vL lone3) ?_
        refine oN ?_
        refine oV (v_eq rfl rfl) ?_
        refine oV vT ?_
        refine oV vM ?_
        refine o_guard_t rfl rfl (fun g4 => ?_) (fun g4 => ?_)
        · refine oV (vF 4 Tryz.underlying129 ti23) ?_
          refine oN ?_
          refine oV (vL lone23) ?_
          refine oN ?_
          refine oV (vF 4 Tryz.underlying129 ti23) ?_
          refine oN ?_
          refine oV (vL lone23) ?_
          refine oN ?_
          refine o_step (s_callf_keep cl49 (h1) rfl (dd rfl) (rX (by repeat constructor)) (fun _ => sX) (fun _ _ => ?_))
          refine oV vT ?_
          refine oV vM ?_
          refine o_guard rfl rfl (fun g5 => ?_) (fun g5 => ?_)
          · have g5' : o = o' := of_decide_eq_true g5
            refine oV (vF 5 Tryz.underlying129 ti23) ?_
            refine oN ?_
            refine oV (vL lone23) ?_
            refine oN ?_
            refine oV (vF 5 Tryz.underlying129 ti23) ?_
            refine oN ?_
            refine oV (vL lone23) ?_
            refine oN ?_
            refine o_step (s_callf_keep cl49 (h2) rfl (dd rfl) (rX (by repeat constructor)) (fun _ => sX) (fun _ _ => ?_))
            refine oV vT ?_
            refine oV vA ?_
            refine o_nil ?_
            refine c_ret1 Tryz.func80 rfl rfl fun w O hS => ?_
            subst g1; subst g2; subst g3; subst g4; subst g5'
            exact ⟨(), congrArg Value.bool (decide_eq_decide.2 ⟨fun h => by rw [h], fun h => by injection h with _ h; injection h with _ h; injection h with _ h; injection h with _ h; injection h with _ h⟩), trivial, trivial⟩
          · have g5' : ¬ o = o' := of_decide_eq_false g5
            iterate 5 refine oX ?_
            refine oV vQ ?_
            refine oV vA ?_
            refine o_nil ?_
            refine c_ret1 Tryz.func80 rfl rfl fun w O hS => ?_
            refine ⟨(), ?_, trivial, trivial⟩
            rw [decide_eq_false]
            intro q
            injection q
            simp_all
        · skip
          iterate 5 refine oX ?_
          refine oV vQ ?_
          refine oV vM ?_
          iterate 5 refine oX ?_
          refine oV vQ ?_
          refine oV vA ?_
          refine o_nil ?_
          refine c_ret1 Tryz.func80 rfl rfl fun w O hS => ?_
          refine ⟨(), ?_, trivial, trivial⟩
          rw [decide_eq_false]
          intro q
          injection q
          simp_all
      · skip
        iterate 5 refine oX ?_
        refine oV vQ ?_
        refine oV vM ?_
        iterate 5 refine oX ?_
        refine oV vQ ?_
        refine oV vM ?_
        iterate 5 refine oX ?_
        refine oV vQ ?_
        refine oV vA ?_
        refine o_nil ?_
        refine c_ret1 Tryz.func80 rfl rfl fun w O hS => ?_
        refine ⟨(), ?_, trivial, trivial⟩
        rw [decide_eq_false]
        intro q
        injection q
        simp_all
    · skip
      iterate 5 refine oX ?_
      refine oV vQ ?_
      refine oV vM ?_
      iterate 5 refine oX ?_
      refine oV vQ ?_
      refine oV vM ?_
      iterate 5 refine oX ?_
      refine oV vQ ?_
      refine oV vM ?_
      iterate 5 refine oX ?_
      refine oV vQ ?_
      refine oV vA ?_
      refine o_nil ?_
      refine c_ret1 Tryz.func80 rfl rfl fun w O hS => ?_
      refine ⟨(), ?_, trivial, trivial⟩
      rw [decide_eq_false]
      intro q
      injection q
      simp_all
  · skip
    iterate 5 refine oX ?_
    refine oV vQ ?_
    refine oV vM ?_
    iterate 5 refine oX ?_
    refine oV vQ ?_
    refine oV vM ?_
    iterate 5 refine oX ?_
    refine oV vQ ?_
    refine oV vM ?_
    iterate 5 refine oX ?_
    refine oV vQ ?_
    refine oV vM ?_
    iterate 5 refine oX ?_
    refine oV vQ ?_
    refine oV vA ?_
    refine o_nil ?_
    refine c_ret1 Tryz.func80 rfl rfl fun w O hS => ?_
    refine ⟨(), ?_, trivial, trivial⟩
    rw [decide_eq_false]
    intro q
    injection q
    simp_all
end Go.Proofs.YtlfehnnmpkohkaaGreatDoor
/- Chapter 09: which rows of changes, and which patches, are the same; changes as the document's, and the program's. -/
namespace Go.Proofs.YtlfehnnmpkohkaaGreatDoor
open Go Go.SL Go.Lib
/-- Rows of changes that are short enough to be compared. -/
def ShortL (l : List Pr9) : Prop := l.length ≤ 1000000 ∧ ∀ p ∈ l, p.2.2.2.2.1.length ≤ 1000000 ∧ p.2.2.2.2.2.length ≤ 1000000
theorem take_next {α : Type} {xs ys : List α} {k : Nat} (h1 : k < xs.length) (h2 : k < ys.length) (he : xs.take k = ys.take k) (hx : xs[k] = ys[k]) : xs.take (k + 1) = ys.take (k + 1) := by
  rw [List.take_succ_eq_append_getElem h1, List.take_succ_eq_append_getElem h2, he, hx]
attribute [local irreducible] Cfg Kont StepK Val Con Qops Any Sl Own Blk BlkR Rd Pu ExA AllA Has Pick Ent Elem Beside Callable TI Lone OwnO AndA
set_option maxRecDepth 100000 in
theorem allR_con (v u : Value) (xs ys : List Pr9) (hx : ShortL xs) (hy : ShortL ys) : Con Tryz.prog 37 [v, u] [Sl ePr v xs, Sl ePr u ys] (γ := Unit) (fun _ => .bool (decide (xs = ys))) (fun _ => True) (fun _ => []) := by
  obtain ⟨hx1, hx2⟩ := hx
  obtain ⟨hy1, hy2⟩ := hy
  refine con_of Tryz.func37 rfl (dd rfl) fun w0 O0 => ?_
  refine c_seq (c_region ?_)
  refine oV vA ?_
  refine o_nil (c_seq (c_seq (c_region ?_)))
  refine oV vM ?_
  refine oV ((by first | exact v_len_form Tryz.underlying24 rfl | exact v_len_sl Tryz.underlying24 rfl (hX (by repeat constructor)))) ?_
  refine oV vM ?_
  refine oV ((by first | exact v_len_form Tryz.underlying24 rfl | exact v_len_sl Tryz.underlying24 rfl (hX (by repeat constructor)))) ?_
  refine oV (v_ne rfl rfl) ?_
  refine o_nil ?_
  refine c_cond_p rfl (fun h => ?_) (fun h => ?_)
  · refine c_seq (c_region ?_)
    refine oV vA ?_
    refine o_nil ?_
    refine c_ret1 Tryz.func37 rfl rfl fun w O hS => ?_
    exact ⟨(), by rw [decide_eq_false (fun e => h (by rw [e]))], trivial, trivial⟩
  · refine c_skip (c_seq (c_seq (c_region ?_)))
    refine oV vA ?_
    refine o_nil (c_block ?_)
    refine c_loopR (γ := Nat) [(0, _), (1, _), (4, _)] (fun k => xs.length - k) (fun k => k ≤ xs.length ∧ xs.take k = ys.take k) (fun k => [(5, .int .i64 k)]) (fun _ => [Sl ePr v xs, Sl ePr u ys]) (0) (⟨Nat.zero_le _, rfl⟩) (by repeat (first | exact trivial | refine ⟨rfl, ?_⟩)) (eX (by repeat constructor)) ?_
    rintro k ⟨hk, he⟩ IH
    try dsimp only [List.cons_append, List.nil_append]
    refine c_seq (c_seq (c_region ?_))
    iterate 2 refine oV vM ?_
    refine oV ((by first | exact v_len_form Tryz.underlying24 rfl | exact v_len_sl Tryz.underlying24 rfl (hX (by repeat constructor)))) ?_
    refine oV (v_lt rfl rfl) ?_
    refine o_nil ?_
    refine c_cond_p rfl (fun hlt => ?_) (fun hlt => ?_)
    · have hkx : k < xs.length := by omega
      have hky : k < ys.length := by omega
      have hS := fun ov wv ov' wv' => samePrR_con xs[k] ys[k] ov wv ov' wv' (hx2 _ (List.getElem_mem hkx)) (hy2 _ (List.getElem_mem hky))
      refine c_skip (c_seq (c_block (c_seq ?_)))
      refine c_held [Sl ePr v xs, Sl ePr u ys] rfl ?_
      refine aT 0 rfl vM ?_
      refine aT 1 rfl vM ?_
      refine aT 2 rfl ((by first | exact v_indexAddrN Tryz.underlying24 ti129 rfl rfl (hX (by repeat constructor)) (by omega) | exact v_indexAddr Tryz.underlying24 ti129 rfl rfl (hX (by repeat constructor)) (by omega))) ?_
      refine aT 4 rfl vM ?_
      refine aT 5 rfl vM ?_
      refine aT 6 rfl ((by first | exact v_indexAddrN Tryz.underlying24 ti129 rfl rfl (hX (by repeat constructor)) (by omega) | exact v_indexAddr Tryz.underlying24 ti129 rfl rfl (hX (by repeat constructor)) (by omega))) ?_
      refine a_two 3 7 rfl rfl (by kernel_rfl) ?_ ?_
      · skip
        refine s_load_shape ⟨_, Tryz.underlying129⟩ ti129 rfl (dd rfl) (by repeat (first|exact el1 (by omega)|exact el2 (by omega)|exact el3 (by omega)|apply Elem.there)) (pr_open) (fun g => aK ?_)
        refine aO 7 rfl (s_load_shape ⟨_, Tryz.underlying129⟩ ti129 rfl (dd rfl) (by repeat (first|exact el1 (by omega)|exact el2 (by omega)|exact el3 (by omega)|apply Elem.there)) (pr_open) (fun g' => aK ?_))
        refine aO 8 rfl (s_callf_keep cl80 (hS g.1 g.2 g'.1 g'.2) rfl (dd rfl) (rX (by repeat constructor)) (fun _ => sX) (fun _ _ => aK ?_))
        refine aT 9 rfl (v_not rfl) ?_
        refine a_done (by kernel_rfl) ?_ _
        refine c_cond rfl (fun hb => ?_) (fun hb => ?_)
        · have hne : ¬ xs[k] = ys[k] := by intro q; rw [decide_eq_true q] at hb; cases hb
          refine c_seq (c_region ?_)
          refine oV vA ?_
          refine o_nil ?_
          refine c_ret1 Tryz.func37 rfl rfl fun w O hS => ?_
          exact ⟨(), by rw [decide_eq_false]; intro q; subst q; exact hne rfl, trivial, trivial⟩
        · have heq : xs[k] = ys[k] := Classical.byContradiction fun q => by rw [decide_eq_false q] at hb; cases hb
          refine c_skip (c_inBlock (c_region ?_))
          refine oV vM ?_
          refine oV ((by first | exact v_add64 rfl rfl (by omega) | exact v_add rfl rfl)) ?_
          refine oV vA ?_
          refine o_nil ?_
          refine cU (IH (k + 1) (by first | omega | (dsimp only; omega)) (⟨by omega, take_next hkx hky he heq⟩))
      · skip
        refine s_load_shape ⟨_, Tryz.underlying129⟩ ti129 rfl (dd rfl) (by repeat (first|exact el1 (by omega)|exact el2 (by omega)|exact el3 (by omega)|apply Elem.there)) (pr_open) (fun g' => aK ?_)
        refine aO 3 rfl (s_load_shape ⟨_, Tryz.underlying129⟩ ti129 rfl (dd rfl) (by repeat (first|exact el1 (by omega)|exact el2 (by omega)|exact el3 (by omega)|apply Elem.there)) (pr_open) (fun g => aK ?_))
        refine aO 8 rfl (s_callf_keep cl80 (hS g.1 g.2 g'.1 g'.2) rfl (dd rfl) (rX (by repeat constructor)) (fun _ => sX) (fun _ _ => aK ?_))
        refine aT 9 rfl (v_not rfl) ?_
        refine a_done (by kernel_rfl) ?_ _
        refine c_cond rfl (fun hb => ?_) (fun hb => ?_)
        · have hne : ¬ xs[k] = ys[k] := by intro q; rw [decide_eq_true q] at hb; cases hb
          refine c_seq (c_region ?_)
          refine oV vA ?_
          refine o_nil ?_
          refine c_ret1 Tryz.func37 rfl rfl fun w O hS => ?_
          exact ⟨(), by rw [decide_eq_false]; intro q; subst q; exact hne rfl, trivial, trivial⟩
        · have heq : xs[k] = ys[k] := Classical.byContradiction fun q => by rw [decide_eq_false q] at hb; cases hb
          refine c_skip (c_inBlock (c_region ?_))
          refine oV vM ?_
          refine oV ((by first | exact v_add64 rfl rfl (by omega) | exact v_add rfl rfl)) ?_
          refine oV vA ?_
          refine o_nil ?_
          refine cU (IH (k + 1) (by first | omega | (dsimp only; omega)) (⟨by omega, take_next hkx hky he heq⟩))
    · refine c_exit rfl ?_
      refine c_seq (c_region ?_)
      refine oV vA ?_
      refine o_nil ?_
      refine c_ret1 Tryz.func37 rfl rfl fun w O hS => ?_
      refine ⟨(), ?_, trivial, trivial⟩
      rw [List.take_of_length_le (by omega), List.take_of_length_le (by omega)] at he
      rw [decide_eq_true he]
end Go.Proofs.YtlfehnnmpkohkaaGreatDoor
/- Chapter 09: which patches are the same. -/
namespace Go.Proofs.YtlfehnnmpkohkaaGreatDoor
open Go Go.SL Go.Lib
instance decPt9 : DecidableEq Pt9 := fun a b => inferInstanceAs (Decidable (a = b))
attribute [local irreducible] Cfg Kont StepK Val Con Qops Any Sl Own Blk BlkR Rd Pu ExA AllA Has Pick Ent Elem Beside Callable TI Lone OwnO AndA
set_option maxRecDepth 100000 in
theorem eqPrims_con (v u : Value) (xs ys : List Pr9) (hx : ShortL xs) (hy : ShortL ys) : Con Tryz.prog 106 [v, u, .func (.func 107) #[] #[]] [Sl ePr v xs, Sl ePr u ys] (γ := Unit) (fun _ => .bool (decide (xs = ys))) (fun _ => True) (fun _ => []) := by
  obtain ⟨hx1, hx2⟩ := hx
  obtain ⟨hy1, hy2⟩ := hy
  refine con_of Tryz.func106 rfl (dd rfl) fun w0 O0 => ?_
  refine c_seq (c_region ?_)
  refine oV vA ?_
  refine o_nil (c_seq (c_seq (c_region ?_)))
  refine oV vM ?_
  refine oV ((by first | exact v_len_form Tryz.underlying30 rfl | exact v_len_sl Tryz.underlying30 rfl (hX (by repeat constructor)))) ?_
  refine oV vM ?_
  refine oV ((by first | exact v_len_form Tryz.underlying30 rfl | exact v_len_sl Tryz.underlying30 rfl (hX (by repeat constructor)))) ?_
  refine oV (v_ne rfl rfl) ?_
  refine o_nil ?_
  refine c_cond_p rfl (fun h => ?_) (fun h => ?_)
  · refine c_seq (c_region ?_)
    refine oV vA ?_
    refine o_nil ?_
    refine c_ret1 Tryz.func106 rfl rfl fun w O hS => ?_
    exact ⟨(), by rw [decide_eq_false (fun e => h (by rw [e]))], trivial, trivial⟩
  · refine c_skip (c_seq (c_seq (c_region ?_)))
    refine oV vM ?_
    refine oV ((by first | exact v_len_form Tryz.underlying30 rfl | exact v_len_sl Tryz.underlying30 rfl (hX (by repeat constructor)))) ?_
    refine oV vM ?_
    refine o_nil (c_block ?_)
    refine c_loopR (γ := Nat) [(1, _), (2, _), (6, _), (15, _), (16, _)] (fun k => xs.length - k) (fun k => k ≤ xs.length ∧ xs.take k = ys.take k) (fun k => [(17, .int .i64 k)]) (fun _ => [Sl ePr v xs, Sl ePr u ys]) (0) (⟨Nat.zero_le _, rfl⟩) (by repeat (first | exact trivial | refine ⟨rfl, ?_⟩)) (eX (by repeat constructor)) ?_
    rintro k ⟨hk, he⟩ IH
    try dsimp only [List.cons_append, List.nil_append]
    refine c_seq (c_region ?_)
    refine oV (v_lt rfl rfl) ?_
    refine o_nil (c_seq ?_)
    refine c_cond_p rfl (fun hlt => ?_) (fun hlt => ?_)
    · have hkx : k < xs.length := by omega
      have hky : k < ys.length := by omega
      have hS := fun ov wv ov' wv' => samePr_con xs[k] ys[k] ov wv ov' wv' (hx2 _ (List.getElem_mem hkx)) (hy2 _ (List.getElem_mem hky))
      refine c_skip (c_seq (c_block (c_seq (c_region ?_))))
      refine oV vM ?_
      refine oV ((by first | exact v_indexAddrN Tryz.underlying30 ti74 rfl rfl (hX (by repeat constructor)) (by omega) | exact v_indexAddr Tryz.underlying30 ti74 rfl rfl (hX (by repeat constructor)) (by omega))) ?_
      refine o_step (s_load_shape ⟨_, Tryz.underlying74⟩ ti74 rfl (dd rfl) (by repeat (first|exact el1 (by omega)|exact el2 (by omega)|exact el3 (by omega)|apply Elem.there)) (pr_open) (fun g => ?_))
      refine o_step (s_alloc ti74 (dd rfl) (fun b8 => ?_))
      refine oV vA ?_
      refine o_step (s_store_all ti74 rfl rfl (by first | exact CellsV.lit rfl | exact CellsV.one (by first | exact OneC.lit rfl | exact OneC.sl (hX (by repeat constructor)) )) (by repeat (first | exact OneAll.nil | (refine OneAll.cons ?_ ?_; · first | exact OneC.lit rfl | exact OneC.sl (hX (by repeat constructor)) ) | exact OneAll.rd (hX (by repeat constructor)))) rfl (pB (by repeat constructor)) rfl (?_))
      refine o_nil (c_seq (c_region ?_))
      iterate 2 refine oV vM ?_
      refine oV ((by first | exact v_indexAddrN Tryz.underlying30 ti74 rfl rfl (hX (by repeat constructor)) (by omega) | exact v_indexAddr Tryz.underlying30 ti74 rfl rfl (hX (by repeat constructor)) (by omega))) ?_
      refine o_step (s_load_shape ⟨_, Tryz.underlying74⟩ ti74 rfl (dd rfl) (by repeat (first|exact el1 (by omega)|exact el2 (by omega)|exact el3 (by omega)|apply Elem.there)) (pr_open) (fun g' => ?_))
      refine o_step (s_alloc ti74 (dd rfl) (fun b9 => ?_))
      refine o_step (s_store_all ti74 rfl rfl (by first | exact CellsV.lit rfl | exact CellsV.one (by first | exact OneC.lit rfl | exact OneC.sl (hX (by repeat constructor)) )) (by repeat (first | exact OneAll.nil | (refine OneAll.cons ?_ ?_; · first | exact OneC.lit rfl | exact OneC.sl (hX (by repeat constructor)) ) | exact OneAll.rd (hX (by repeat constructor)))) rfl (pB (by repeat constructor)) rfl (?_))
      refine o_nil (c_seq (c_region ?_))
      refine oV vM ?_
      refine oV (vW Tryz.underlying74 ti74) ?_
      refine oV (vW Tryz.underlying74 ti74) ?_
      refine o_step (s_call_keep cl107 (hS g.1 g.2 g'.1 g'.2) (first := []) (cap := []) rfl rfl rfl (dd rfl) (rX (by repeat constructor)) (fun _ => sX) (fun _ _ => ?_))
      refine oV (v_not rfl) ?_
      refine o_nil ?_
      refine c_cond rfl (fun hb => ?_) (fun hb => ?_)
      · have hne : ¬ xs[k] = ys[k] := by intro q; rw [decide_eq_true q] at hb; cases hb
        refine c_seq (c_region ?_)
        refine oV vA ?_
        refine o_nil ?_
        refine c_ret1 Tryz.func106 rfl rfl fun w O hS => ?_
        exact ⟨(), by rw [decide_eq_false]; intro q; subst q; exact hne rfl, trivial, trivial⟩
      · have heq : xs[k] = ys[k] := Classical.byContradiction fun q => by rw [decide_eq_false q] at hb; cases hb
        refine c_skip (c_inBlock (c_region ?_))
        refine oV ((by first | exact v_add64 rfl rfl (by omega) | exact v_add rfl rfl)) ?_
        refine oV vM ?_
        refine o_nil ?_
        refine cU (IH (k + 1) (by first | omega | (dsimp only; omega)) (⟨by omega, take_next hkx hky he heq⟩))
    · refine c_exit rfl ?_
      refine c_seq (c_region ?_)
      refine oV vA ?_
      refine o_nil ?_
      refine c_ret1 Tryz.func106 rfl rfl fun w O hS => ?_
      refine ⟨(), ?_, trivial, trivial⟩
      rw [List.take_of_length_le (by omega), List.take_of_length_le (by omega)] at he
      rw [decide_eq_true he]
set_option maxRecDepth 100000 in
theorem samePrims_con (v u : Value) (xs ys : List Pr9) (hx : ShortL xs) (hy : ShortL ys) : Con Tryz.prog 47 [v, u] [Sl ePr v xs, Sl ePr u ys] (γ := Unit) (fun _ => .bool (decide (xs = ys))) (fun _ => True) (fun _ => []) := by
  have h := eqPrims_con v u xs ys hx hy
  refine con_of Tryz.func47 rfl (dd rfl) fun w0 O0 => ?_
  refine c_seq (c_region ?_)
  refine oV vA ?_
  refine o_nil (c_seq (c_region ?_))
  iterate 2 refine oV vM ?_
  refine oC cl106 (h) fun _ _ => ?_
  refine oV vA ?_
  refine o_nil ?_
  refine c_ret1 Tryz.func47 rfl rfl fun w O hS => ?_
  exact ⟨(), rfl, trivial, trivial⟩
set_option maxRecDepth 100000 in
theorem eqInts_con (v u : Value) (xs ys : List Int) (hx : xs.length ≤ 1000000) (hy : ys.length ≤ 1000000) : Con Tryz.prog 45 [v, u] [Sl (eInt .i64) v xs, Sl (eInt .i64) u ys] (γ := Unit) (fun _ => .bool (decide (xs = ys))) (fun _ => True) (fun _ => []) := by
  refine con_of Tryz.func45 rfl (dd rfl) fun w0 O0 => ?_
  refine c_seq (c_region ?_)
  refine oV vA ?_
  refine o_nil (c_seq (c_seq (c_region ?_)))
  refine oV vM ?_
  refine oV ((by first | exact v_len_form Tryz.underlying22 rfl | exact v_len_sl Tryz.underlying22 rfl (hX (by repeat constructor)))) ?_
  refine oV vM ?_
  refine oV ((by first | exact v_len_form Tryz.underlying22 rfl | exact v_len_sl Tryz.underlying22 rfl (hX (by repeat constructor)))) ?_
  refine oV (v_ne rfl rfl) ?_
  refine o_nil ?_
  refine c_cond_p rfl (fun h => ?_) (fun h => ?_)
  · refine c_seq (c_region ?_)
    refine oV vA ?_
    refine o_nil ?_
    refine c_ret1 Tryz.func45 rfl rfl fun w O hS => ?_
    exact ⟨(), by rw [decide_eq_false (fun e => h (by rw [e]))], trivial, trivial⟩
  · refine c_skip (c_seq (c_seq (c_region ?_)))
    refine oV vM ?_
    refine oV ((by first | exact v_len_form Tryz.underlying22 rfl | exact v_len_sl Tryz.underlying22 rfl (hX (by repeat constructor)))) ?_
    refine oV vM ?_
    refine o_nil (c_block ?_)
    refine c_loopR (γ := Nat) [(0, _), (1, _), (4, _), (12, _)] (fun k => xs.length - k) (fun k => k ≤ xs.length ∧ xs.take k = ys.take k) (fun k => [(13, .int .i64 k)]) (fun _ => [Sl (eInt .i64) v xs, Sl (eInt .i64) u ys]) (0) (⟨Nat.zero_le _, rfl⟩) (by repeat (first | exact trivial | refine ⟨rfl, ?_⟩)) (eX (by repeat constructor)) ?_
    rintro k ⟨hk, he⟩ IH
    try dsimp only [List.cons_append, List.nil_append]
    refine c_seq (c_region ?_)
    refine oV (v_lt rfl rfl) ?_
    refine o_nil (c_seq ?_)
    refine c_cond_p rfl (fun hlt => ?_) (fun hlt => ?_)
    · have hkx : k < xs.length := by omega
      have hky : k < ys.length := by omega
      refine c_skip (c_seq (c_block (c_seq (c_region ?_))))
      refine oV vM ?_
      refine oV vA ?_
      refine o_nil (c_seq ?_)
      refine c_quiet rfl (by kernel_rfl) ?_
      refine qV vM ?_
      refine qV vM ?_
      refine qV ((by first | exact v_indexAddrN Tryz.underlying22 ti3 rfl rfl (hX (by repeat constructor)) (by omega) | exact v_indexAddr Tryz.underlying22 ti3 rfl rfl (hX (by repeat constructor)) (by omega))) ?_
      refine qV (v_load_int lone3 rfl (by repeat (first | exact Elem.sl (List.getElem?_eq_getElem (by omega)) | exact Elem.own (List.getElem?_eq_getElem (by omega)) | exact Elem.ownO (List.getElem?_eq_getElem (by omega)) | apply Elem.there))) ?_
      refine qV vM ?_
      refine qV vM ?_
      refine qV ((by first | exact v_indexAddrN Tryz.underlying22 ti3 rfl rfl (hX (by repeat constructor)) (by omega) | exact v_indexAddr Tryz.underlying22 ti3 rfl rfl (hX (by repeat constructor)) (by omega))) ?_
      refine qV (v_load_int lone3 rfl (by repeat (first | exact Elem.sl (List.getElem?_eq_getElem (by omega)) | exact Elem.own (List.getElem?_eq_getElem (by omega)) | exact Elem.ownO (List.getElem?_eq_getElem (by omega)) | apply Elem.there))) ?_
      refine qV (v_ne rfl rfl) ?_
      refine q_nil ?_
      refine c_cond_p rfl (fun hne => ?_) (fun hne => ?_)
      · refine c_seq (c_region ?_)
        refine oV vA ?_
        refine o_nil ?_
        refine c_ret1 Tryz.func45 rfl rfl fun w O hS => ?_
        exact ⟨(), by rw [decide_eq_false]; intro q; subst q; exact hne rfl, trivial, trivial⟩
      · refine c_skip (c_inBlock (c_region ?_))
        refine oV ((by first | exact v_add64 rfl rfl (by omega) | exact v_add rfl rfl)) ?_
        refine oV vM ?_
        refine o_nil ?_
        refine cU (IH (k + 1) (by first | omega | (dsimp only; omega)) (⟨by omega, take_next hkx hky he (Classical.not_not.1 hne)⟩))
    · refine c_exit rfl ?_
      refine c_seq (c_region ?_)
      refine oV vA ?_
      refine o_nil ?_
      refine c_ret1 Tryz.func45 rfl rfl fun w O hS => ?_
      refine ⟨(), ?_, trivial, trivial⟩
      rw [List.take_of_length_le (by omega), List.take_of_length_le (by omega)] at he
      rw [decide_eq_true he]
/-- Patches that are short enough to be compared. -/
def ShortT (p : Pt9) : Prop := p.2.2.1.length ≤ 1000000 ∧ ShortL p.2.2.2
end Go.Proofs.YtlfehnnmpkohkaaGreatDoor
/- Chapter 09: what is read is short; a reading, of each kind. -/
namespace Go.Proofs.YtlfehnnmpkohkaaGreatDoor
open Go Go.Lib
/-- What is read next, and how much it may be. -/
abbrev Ask9 := Int × Int × Int
def stepR (a : Ask9) (s : St9) : St9 :=
  if a.1 = 0 then (takeNum s).1 else if a.1 = 1 then (takeFlag s).1 else if a.1 = 2 then (takeText a.2.1 s).1 else if a.1 = 3 then (takeTexts a.2.1 a.2.2 s).1
  else if a.1 = 4 then (takePrim s).1 else if a.1 = 5 then (takePrims a.2.1 s).1 else if a.1 = 6 then (takePatch s).1 else s
end Go.Proofs.YtlfehnnmpkohkaaGreatDoor
/- Chapter 09: what is read can be written: sizes, bounds; bytes that are read to the end are those that are written. -/
namespace Go.Proofs.YtlfehnnmpkohkaaGreatDoor
open Go Go.Lib
theorem takeFlag_back {s s' : St9} {b : Bool} (h : takeFlag s = (s', b)) (hb : s'.2 = false) : s.2 = false ∧ s.1 = flagB b ++ s'.1 := by
  unfold takeFlag num9 at h
  by_cases hs : s.2 = true
  · rw [if_pos hs] at h
    cases h; cases hb
  · rw [if_neg hs] at h
    cases hn : numberR 59 s.1 with
    | none => rw [hn] at h; cases h; cases hb
    | some p =>
      obtain ⟨n', m⟩ := p
      rw [hn] at h
      dsimp only at h
      split at h
      · rename_i hf
        cases h
        obtain ⟨r, h1, h2, _⟩ := number_some hn
        refine ⟨by simpa using hs, ?_⟩
        have e : flagB (decide (n' = 1)) = itoa n' ++ [59] := by
          rcases hf with q | q <;> subst q <;> decide +kernel
        rw [e, h1, h2, show (itoa n').length + 1 = (itoa n' ++ [59]).length by simp, show itoa n' ++ 59 :: r = (itoa n' ++ [59]) ++ r by simp, List.drop_left]
      · cases h; cases hb
theorem text_zero {m : Int} {s : St9} (h : (takeText m s).1.2 = true) : (takeText m s).2 = ⟨#[]⟩ := by
  revert h
  unfold takeText
  split
  · split
    · intro h; cases h
    · intro _; rfl
  · intro _; rfl
theorem some_zero {α : Type} {take : St9 → St9 × α} {m : Int} {s : St9} (h : (takeSome take m s).1.2 = true) : (takeSome take m s).2 = [] := by
  revert h
  unfold takeSome
  split
  · intro _; rfl
  · split
    · intro _; rfl
    · intro h; rename_i q; exact absurd h q
theorem le_or {s s' : St9} {X : List UInt8} (h0 : s'.2 = true → X.length ≤ 40) (h1 : s'.2 = false → s.1 = X ++ s'.1) : X.length ≤ s.1.length + 40 := by
  cases h : s'.2 with
  | true => have := h0 h; omega
  | false => rw [h1 h, List.length_append]; omega
theorem text_len9 {m : Int} {s : St9} : (textB (takeText m s).2).length ≤ s.1.length + 40 :=
  le_or (s' := (takeText m s).1) (fun h => by rw [text_zero h]; decide +kernel) fun h => (takeText_back rfl h).2.1
theorem some_back {α : Type} {take : St9 → St9 × α} {put : α → List UInt8} (hh : ∀ s s' x, take s = (s', x) → s'.2 = false → s.2 = false ∧ s.1 = put x ++ s'.1 ∧ True) {m : Int} {s : St9} (h : (takeSome take m s).1.2 = false) : s.1 = manyB put (takeSome take m s).2 ++ (takeSome take m s).1.1 :=
  (takeSome_back (ok := fun _ => True) hh rfl h).2.1
theorem some_len9 {α : Type} {take : St9 → St9 × α} {put : α → List UInt8} (hh : ∀ s s' x, take s = (s', x) → s'.2 = false → s.2 = false ∧ s.1 = put x ++ s'.1 ∧ True) {m : Int} {s : St9} : (manyB put (takeSome take m s).2).length ≤ s.1.length + 40 :=
  le_or (s' := (takeSome take m s).1) (fun h => by rw [some_zero h]; unfold manyB; have := numB_len (([] : List α).length); simp at this ⊢; omega) fun h => some_back hh h
theorem back_text (m : Int) : ∀ s s' x, takeText m s = (s', x) → s'.2 = false → s.2 = false ∧ s.1 = textB x ++ s'.1 ∧ True := fun _ _ _ e hb => ⟨(takeText_back e hb).1, (takeText_back e hb).2.1, trivial⟩
theorem back_prim : ∀ s s' x, takePrim s = (s', x) → s'.2 = false → s.2 = false ∧ s.1 = primB x ++ s'.1 ∧ True := fun _ _ _ e hb => ⟨(takePrim_back e hb).1, (takePrim_back e hb).2.1, trivial⟩
theorem far_int {n : Int} (h : -far9 ≤ n ∧ n ≤ far9) : -9223372036854775808 ≤ n ∧ n ≤ 9223372036854775807 := by unfold far9 at h; omega
theorem prim_count {s : St9} (h : s.1.length ≤ big9) : CountP (takePrim s).2 := by
  have hs := prim_ok h
  refine ⟨?_, ?_, Nat.le_trans hs.2.2.1.1 (by decide), Nat.le_trans hs.2.2.2.1 (by decide)⟩
  · unfold takePrim
    split
    · exact ⟨show (-9223372036854775808 : Int) ≤ 0 by decide, show (0 : Int) ≤ 9223372036854775807 by decide⟩
    · exact far_int num_far
  · unfold takePrim
    split
    · exact ⟨show (-9223372036854775808 : Int) ≤ 0 by decide, show (0 : Int) ≤ 9223372036854775807 by decide⟩
    · exact far_int num_far
theorem prims_count {m : Int} {s : St9} (h : s.1.length ≤ big9) : ∀ p ∈ (takePrims m s).2, CountP p := fun p hp => some_ok (most := m) goes_prim (fun s hs => prim_count hs) h p hp
end Go.Proofs.YtlfehnnmpkohkaaGreatDoor
/- Chapter 16: requests, what they are written as, and what is read, in plain words. -/
namespace Go.Proofs.YtlfehnnmpkohkaaGreatDoor
open Go Go.Lib
/-- Kind, Base, Id, Name, Note, Deps, Files, L. -/
abbrev Rq9 := Int × Int × Int × ByteArray × ByteArray × List Int × List ByteArray × List Pr9
def rowB (l : List Int) : List UInt8 := manyB numB l
def reqB (q : Rq9) : List UInt8 := numB q.1 ++ numB q.2.1 ++ numB q.2.2.1 ++ textB q.2.2.2.1 ++ textB q.2.2.2.2.1 ++ rowB q.2.2.2.2.2.1 ++ textsB q.2.2.2.2.2.2.1 ++ primsB q.2.2.2.2.2.2.2
/-- Numbers, as many as told. -/
def takeRep : Nat → St9 → List Int → St9 × List Int
  | 0, s, out => (s, out)
  | k + 1, s, out => takeRep k (takeNum s).1 (out ++ [(takeNum s).2])
/-- A row of numbers, as the program reads it, and as the document does. -/
def takeRowP (most : Int) (s : St9) : St9 × List Int := takeRep (min (max (takeNum s).2 0) most).toNat (takeNum s).1 []
def takeRowR (most : Int) (s : St9) : St9 × List Int :=
  takeMany takeNum (takeNum s).2.toNat (if (takeNum s).2 < 0 ∨ most < (takeNum s).2 then spoil9 (takeNum s).1 else (takeNum s).1) []
def rawReq (row : St9 → St9 × List Int) (s : St9) : St9 × Rq9 :=
  let a := takeNum s; let b := takeNum a.1; let c := takeNum b.1; let d := takeText 24 c.1; let e := takeText 60 d.1; let f := row e.1; let g := takeTexts 8 24 f.1; let h := takePrims 24 g.1
  (h.1, a.2, b.2, c.2, d.2, e.2, f.2, g.2, h.2)
/-! ### what is spoiled stays so -/
theorem sticky_num {s : St9} (h : (takeNum s).1.2 = false) : s.2 = false := (takeNum_back rfl h).1
theorem rep_many : ∀ (k : Nat) (s : St9) (out : List Int), (takeMany takeNum k s out).1.2 = false → takeRep k s out = takeMany takeNum k s out
  | 0, _, _, _ => rfl
  | k + 1, s, out, h => by
    have hs : s.2 = false := by
      cases e : s.2 with
      | false => rfl
      | true => rw [takeMany_bad _ _ _ _ e] at h; rw [e] at h; cases h
    unfold takeMany takeRep at *
    rw [hs, if_neg (by decide)] at *
    exact rep_many k _ _ h
theorem back_num : ∀ s s' x, takeNum s = (s', x) → s'.2 = false → s.2 = false ∧ s.1 = numB x ++ s'.1 ∧ (-far9 ≤ x ∧ x ≤ far9) := fun _ _ _ e hb => takeNum_back e hb
/-- Where the document is not spoiled, the program reads the same. -/
theorem row_same {m : Int} {s : St9} (h : (takeRowR m s).1.2 = false) : takeRowP m s = takeRowR m s := by
  unfold takeRowR at *
  by_cases hn : (takeNum s).2 < 0 ∨ m < (takeNum s).2
  · rw [if_pos hn, takeMany_bad _ _ _ _ rfl] at h
    cases h
  · rw [if_neg hn] at *
    unfold takeRowP
    rw [show (min (max (takeNum s).2 0) m).toNat = (takeNum s).2.toNat by omega]
    exact rep_many _ _ _ h
theorem rowR_back {m : Int} {s s' : St9} {l : List Int} (e : takeRowR m s = (s', l)) (h : s'.2 = false) : s.2 = false ∧ s.1 = rowB l ++ s'.1 ∧ (l.length : Int) ≤ m ∧ ∀ n ∈ l, -far9 ≤ n ∧ n ≤ far9 := by
  unfold takeRowR at e
  by_cases hn : (takeNum s).2 < 0 ∨ m < (takeNum s).2
  · rw [if_pos hn, takeMany_bad _ _ _ _ rfl] at e
    cases e; cases h
  · rw [if_neg hn] at e
    have h1 : (takeNum s).1.2 = false := by
      cases hb : (takeNum s).1.2 with
      | false => rfl
      | true =>
        rw [takeMany_bad _ _ _ _ hb] at e
        cases e
        rw [hb] at h; cases h
    obtain ⟨l', hl', hlen, h2, h3⟩ := takeMany_back (ok := fun n => -far9 ≤ n ∧ n ≤ far9) back_num _ _ _ _ _ e h
    have h0 := takeNum_back (s := s) (s' := (takeNum s).1) (n := (takeNum s).2) rfl h1
    rw [List.nil_append] at hl'
    subst hl'
    refine ⟨h0.1, ?_, by omega, h3⟩
    unfold rowB manyB
    rw [h0.2.1, h2, List.append_assoc, hlen]
    congr 2
    omega
theorem rowR_enc {l : List Int} {m : Int} (hm : (l.length : Int) ≤ m) (hf : (l.length : Int) ≤ far9) (hl : ∀ n ∈ l, -far9 ≤ n ∧ n ≤ far9) (r : List UInt8) : takeRowR m (rowB l ++ r, false) = ((r, false), l) := by
  unfold takeRowR rowB manyB
  rw [List.append_assoc, takeNum_enc ⟨by unfold far9; omega, hf⟩]
  dsimp only
  rw [if_neg (by omega), show ((l.length : Nat) : Int).toNat = l.length by omega, takeMany_enc (ok := fun n => -far9 ≤ n ∧ n ≤ far9) (fun x r hx => takeNum_enc hx r) l r [] hl]
  rfl
/-! ### which may be -/
/-- Names that may be, each behind the one ahead of it. -/
def filesP : ByteArray → List ByteArray → Bool
  | _, [] => true
  | last, s :: l => namedP s && !(Op.bytesLess s.data.toList last.data.toList || decide (s = last)) && filesP s l
def RightQ (q : Rq9) : Prop :=
  (0 ≤ q.1 ∧ q.1 ≤ 12) ∧
  (if q.1 = 0 then 0 ≤ q.2.1 ∧ q.2.1 ≤ far9 ∧ 1 ≤ q.2.2.2.2.2.2.2.length ∧ q.2.2.2.2.2.2.2.length ≤ 24 ∧ q.2.2.2.2.2.2.2.all rightP = true else q.2.1 = 0 ∧ q.2.2.2.2.2.2.2 = []) ∧
  (if q.1 = 1 then lineP q.2.2.2.2.1 = true ∧ q.2.2.2.2.2.1.length ≤ 8 ∧ depsP q.2.2.1 0 q.2.2.2.2.2.1 = true else q.2.2.2.2.1 = ⟨#[]⟩ ∧ q.2.2.2.2.2.1 = []) ∧
  (if q.1 = 1 ∨ q.1 = 2 ∨ q.1 = 3 then 1 ≤ q.2.2.1 ∧ q.2.2.1 ≤ 1000000000 else if q.1 = 12 then 0 ≤ q.2.2.1 ∧ q.2.2.1 ≤ 100 else q.2.2.1 = 0) ∧
  (if q.1 = 1 ∨ q.1 = 2 ∨ q.1 = 4 ∨ q.1 = 5 then q.2.2.2.2.2.2.1.length ≤ 8 ∧ filesP ⟨#[]⟩ q.2.2.2.2.2.2.1 = true else q.2.2.2.2.2.2.1 = []) ∧
  (if q.1 = 5 ∨ q.1 = 6 ∨ q.1 = 9 then namedP q.2.2.2.1 = true else if q.1 = 10 then q.2.2.2.1 = ⟨#[]⟩ ∨ namedP q.2.2.2.1 = true else q.2.2.2.1 = ⟨#[]⟩)
instance (q : Rq9) : Decidable (RightQ q) := by unfold RightQ; infer_instance
theorem named_size {s : ByteArray} (h : namedP s = true) : s.size ≤ 24 := by
  unfold namedP at h
  simp only [Bool.and_eq_true, decide_eq_true_eq] at h
  exact h.1.2
theorem line_size {s : ByteArray} (h : lineP s = true) : s.size ≤ 60 := by
  unfold lineP at h
  simp only [Bool.and_eq_true, decide_eq_true_eq] at h
  exact h.1
theorem files_size : ∀ {last : ByteArray} {l : List ByteArray}, filesP last l = true → ∀ s ∈ l, s.size ≤ 24
  | _, [], _ => fun _ h => by cases h
  | last, t :: l, h => fun s hs => by
    unfold filesP at h
    simp only [Bool.and_eq_true] at h
    rcases List.mem_cons.1 hs with rfl | hs
    · exact named_size h.1.1
    · exact files_size h.2 s hs
/-- What a request that may be stays within. -/
structure LimQ (q : Rq9) : Prop where
  kind : -far9 ≤ q.1 ∧ q.1 ≤ far9
  base : -far9 ≤ q.2.1 ∧ q.2.1 ≤ far9
  id : -far9 ≤ q.2.2.1 ∧ q.2.2.1 ≤ far9
  name : q.2.2.2.1.size ≤ 24
  note : q.2.2.2.2.1.size ≤ 60
  deps : q.2.2.2.2.2.1.length ≤ 8 ∧ ∀ n ∈ q.2.2.2.2.2.1, -far9 ≤ n ∧ n ≤ far9
  files : q.2.2.2.2.2.2.1.length ≤ 8 ∧ ∀ s ∈ q.2.2.2.2.2.2.1, s.size ≤ 24
  prims : q.2.2.2.2.2.2.2.length ≤ 24 ∧ ∀ p ∈ q.2.2.2.2.2.2.2, rightP p = true
theorem RightQ.lim {q : Rq9} (h : RightQ q) : LimQ q := by
  obtain ⟨k, b, i, n, t, d, f, l⟩ := q
  obtain ⟨h1, h2, h3, h4, h5, h6⟩ := h
  dsimp only at *
  have z : (⟨#[]⟩ : ByteArray).size = 0 := rfl
  refine ⟨?_, ?_, ?_, ?_, ?_, ?_, ?_, ?_⟩ <;> dsimp only
  · unfold far9; omega
  · split at h2
    · unfold far9 at *; omega
    · unfold far9; omega
  · unfold far9
    split at h4
    · omega
    split at h4 <;> omega
  · split at h6
    · exact named_size h6
    split at h6
    · rcases h6 with rfl | h6
      · exact Nat.zero_le _
      · exact named_size h6
    · rw [h6]; exact Nat.zero_le _
  · split at h3
    · exact line_size h3.1
    · rw [h3.1]; exact Nat.zero_le _
  · split at h3
    · exact ⟨h3.2.1, depsP_far (by decide) h3.2.2⟩
    · rw [h3.2]; exact ⟨Nat.zero_le _, fun _ h => by cases h⟩
  · split at h5
    · exact ⟨h5.1, files_size h5.2⟩
    · rw [h5]; exact ⟨Nat.zero_le _, fun _ h => by cases h⟩
  · split at h2
    · exact ⟨h2.2.2.2.1, fun p hp => List.all_eq_true.1 h2.2.2.2.2 p hp⟩
    · rw [h2.2]; exact ⟨Nat.zero_le _, fun _ h => by cases h⟩
/-- What was written is read. -/
theorem req_enc {q : Rq9} (h : LimQ q) (hf : ∀ p ∈ q.2.2.2.2.2.2.2, FitP p) (r : List UInt8) : rawReq (takeRowR 8) (reqB q ++ r, false) = ((r, false), q) := by
  have e : reqB q ++ r = numB q.1 ++ (numB q.2.1 ++ (numB q.2.2.1 ++ (textB q.2.2.2.1 ++ (textB q.2.2.2.2.1 ++ (rowB q.2.2.2.2.2.1 ++ (textsB q.2.2.2.2.2.2.1 ++ (primsB q.2.2.2.2.2.2.2 ++ r))))))) := by
    unfold reqB; simp only [List.append_assoc]
  have h1 := h.name
  have h2 := h.note
  have h3 := h.deps
  have h4 := h.files
  have h5 := h.prims
  unfold rawReq
  rw [e, takeNum_enc h.kind]
  dsimp only
  rw [takeNum_enc h.base]
  dsimp only
  rw [takeNum_enc h.id]
  dsimp only
  rw [takeText_enc (by omega) (by unfold far9; omega)]
  dsimp only
  rw [takeText_enc (by omega) (by unfold far9; omega)]
  dsimp only
  rw [rowR_enc (by omega) (by unfold far9; omega) h3.2]
  dsimp only
  unfold takeTexts
  rw [show textsB q.2.2.2.2.2.2.1 = manyB textB q.2.2.2.2.2.2.1 from rfl, takeSome_enc (ok := fun s => s.size ≤ 24) (fun s r hs => takeText_enc (by omega) (by unfold far9; omega) r) (by omega) (by unfold far9; omega) h4.2]
  dsimp only
  unfold takePrims
  rw [show primsB q.2.2.2.2.2.2.2 = manyB primB q.2.2.2.2.2.2.2 from rfl, takeSome_enc (ok := fun p => rightP p = true ∧ FitP p) (fun p r hp => takePrim_enc hp.1 hp.2 r) (by omega) (by unfold far9; omega) fun p hp => ⟨h5.2 p hp, hf p hp⟩]
end Go.Proofs.YtlfehnnmpkohkaaGreatDoor
/- Chapter 16: a request that is read: the program's way, and the document's. -/
namespace Go.Proofs.YtlfehnnmpkohkaaGreatDoor
open Go Go.Lib
theorem req_back {s s' : St9} {q : Rq9} (e : rawReq (takeRowR 8) s = (s', q)) (h : s'.2 = false) : s.2 = false ∧ s.1 = reqB q ++ s'.1 ∧ rawReq (takeRowP 8) s = (s', q) := by
  unfold rawReq at e ⊢
  dsimp only at e ⊢
  obtain ⟨⟨s1, k⟩, e1⟩ : ∃ x, takeNum s = x := ⟨_, rfl⟩
  rw [e1] at e ⊢
  dsimp only at e ⊢
  obtain ⟨⟨s2, b⟩, e2⟩ : ∃ x, takeNum s1 = x := ⟨_, rfl⟩
  rw [e2] at e ⊢
  dsimp only at e ⊢
  obtain ⟨⟨s3, i⟩, e3⟩ : ∃ x, takeNum s2 = x := ⟨_, rfl⟩
  rw [e3] at e ⊢
  dsimp only at e ⊢
  obtain ⟨⟨s4, n⟩, e4⟩ : ∃ x, takeText 24 s3 = x := ⟨_, rfl⟩
  rw [e4] at e ⊢
  dsimp only at e ⊢
  obtain ⟨⟨s5, t⟩, e5⟩ : ∃ x, takeText 60 s4 = x := ⟨_, rfl⟩
  rw [e5] at e ⊢
  dsimp only at e ⊢
  obtain ⟨⟨s6, d⟩, e6⟩ : ∃ x, takeRowR 8 s5 = x := ⟨_, rfl⟩
  rw [e6] at e
  dsimp only at e
  obtain ⟨⟨s7, f⟩, e7⟩ : ∃ x, takeTexts 8 24 s6 = x := ⟨_, rfl⟩
  rw [e7] at e
  dsimp only at e
  obtain ⟨⟨s8, l⟩, e8⟩ : ∃ x, takePrims 24 s7 = x := ⟨_, rfl⟩
  rw [e8] at e
  dsimp only at e
  cases e
  obtain ⟨h7, a8, -⟩ := takeSome_back (ok := fun _ => True) back_prim e8 h
  obtain ⟨h6, a7, -⟩ := takeSome_back (ok := fun _ => True) (back_text 24) e7 h7
  obtain ⟨h5, a6, -⟩ := rowR_back e6 h6
  obtain ⟨h4, a5, -⟩ := takeText_back e5 h5
  obtain ⟨h3, a4, -⟩ := takeText_back e4 h4
  obtain ⟨h2, a3, -⟩ := takeNum_back e3 h3
  obtain ⟨h1, a2, -⟩ := takeNum_back e2 h2
  obtain ⟨h0, a1, -⟩ := takeNum_back e1 h1
  refine ⟨h0, ?_, ?_⟩
  · rw [a1, a2, a3, a4, a5, a6, a7, a8]
    unfold reqB textsB primsB
    simp only [List.append_assoc]
  · rw [row_same (by rw [e6]; exact h6), e6]
    dsimp only
    rw [e7]
    dsimp only
    rw [e8]
/-- A request of bytes, as the program finds it, and as the document does. -/
def parseP (b : List UInt8) : Option Rq9 :=
  if (rawReq (takeRowP 8) (b, false)).1 = ([], false) ∧ RightQ (rawReq (takeRowP 8) (b, false)).2 ∧ reqB (rawReq (takeRowP 8) (b, false)).2 = b then some (rawReq (takeRowP 8) (b, false)).2 else none
def parseR (b : List UInt8) : Option Rq9 :=
  if (rawReq (takeRowR 8) (b, false)).1 = ([], false) ∧ RightQ (rawReq (takeRowR 8) (b, false)).2 then some (rawReq (takeRowR 8) (b, false)).2 else none
theorem fit_of_len {l : List Pr9} {b r : List UInt8} (h : b = primsB l ++ r) (hb : b.length ≤ big9) : ∀ p ∈ l, FitP p := by
  intro p hp
  have h1 : (primB p).length ≤ (primsB l).length := by
    unfold primsB manyB
    have : (primB p).length ≤ ((l.map primB).flatten).length := by
      clear h
      induction l with
      | nil => cases hp
      | cons x l ih =>
        simp only [List.map_cons, List.flatten_cons, List.length_append]
        rcases List.mem_cons.1 hp with rfl | hp
        · omega
        · have := ih hp; omega
    rw [List.length_append]; omega
  have h2 := congrArg List.length h
  rw [List.length_append] at h2
  have h3 : p.2.2.2.2.1.length ≤ (textsB p.2.2.2.2.1 ++ []).length := texts_len
  have h4 : p.2.2.2.2.2.length ≤ (textsB p.2.2.2.2.2 ++ []).length := texts_len
  rw [List.append_nil] at h3 h4
  have h5 : (textsB p.2.2.2.2.1).length + (textsB p.2.2.2.2.2).length ≤ (primB p).length := by
    unfold primB; simp only [List.length_append]; omega
  unfold big9 at hb
  unfold FitP far9
  omega
theorem req_prims (q : Rq9) : ∃ a, reqB q = a ++ primsB q.2.2.2.2.2.2.2 := ⟨_, rfl⟩
theorem fit_req {q : Rq9} {b : List UInt8} (h : reqB q = b) (hb : b.length ≤ big9) : ∀ p ∈ q.2.2.2.2.2.2.2, FitP p := by
  obtain ⟨a, ha⟩ := req_prims q
  have h2 : (primsB q.2.2.2.2.2.2.2).length ≤ big9 := by
    have := congrArg List.length (ha.symm.trans h)
    rw [List.length_append] at this; omega
  exact fit_of_len (r := []) (List.append_nil _).symm h2
theorem parse_same {b : List UInt8} (hb : b.length ≤ big9) : parseP b = parseR b := by
  unfold parseP parseR
  by_cases h : (rawReq (takeRowR 8) (b, false)).1 = ([], false) ∧ RightQ (rawReq (takeRowR 8) (b, false)).2
  · rw [if_pos h]
    obtain ⟨h1, h2⟩ := h
    obtain ⟨-, h3, h4⟩ := req_back (s := (b, false)) (s' := (rawReq (takeRowR 8) (b, false)).1) (q := (rawReq (takeRowR 8) (b, false)).2) rfl (by rw [h1])
    rw [h4, if_pos ⟨h1, h2, by rw [h1] at h3; simpa using h3.symm⟩]
  · rw [if_neg h, if_neg]
    rintro ⟨h1, h2, h3⟩
    refine h ?_
    have h4 := req_enc h2.lim (fit_req h3 hb) []
    rw [List.append_nil, h3] at h4
    rw [h4]
    exact ⟨rfl, h2⟩
theorem parse_enc {q : Rq9} (h : RightQ q) (hb : (reqB q).length ≤ big9) : parseP (reqB q) = some q := by
  rw [parse_same hb]
  unfold parseR
  have h4 := req_enc h.lim (fit_req rfl hb) []
  rw [List.append_nil] at h4
  rw [h4, if_pos ⟨rfl, h⟩]
end Go.Proofs.YtlfehnnmpkohkaaGreatDoor
/- Chapter 16: responses, in plain words. -/
namespace Go.Proofs.YtlfehnnmpkohkaaGreatDoor
open Go Go.Lib
/-- Version, Names, Lost. -/
abbrev Nt9 := Int × List ByteArray × Bool
/-- Code, Version, L, Ids, Lines, Notes. -/
abbrev Rs9 := Int × Int × List Pr9 × List Int × List ByteArray × List Nt9
def noteB (n : Nt9) : List UInt8 := numB n.1 ++ flagB n.2.2 ++ textsB n.2.1
def resB (s : Rs9) : List UInt8 := numB s.1 ++ numB s.2.1 ++ primsB s.2.2.1 ++ rowB s.2.2.2.1 ++ textsB s.2.2.2.2.1 ++ manyB noteB s.2.2.2.2.2
def takeNote (s : St9) : St9 × Nt9 :=
  let a := takeNum s; let b := takeFlag a.1; let c := takeTexts 1000 60 b.1
  (c.1, a.2, c.2, b.2)
/-- So many, whatever comes. -/
def repG {α : Type} (take : St9 → St9 × α) : Nat → St9 → List α → St9 × List α
  | 0, s, out => (s, out)
  | k + 1, s, out => repG take k (take s).1 (out ++ [(take s).2])
def manyP9 {α : Type} (take : St9 → St9 × α) (most : Int) (s : St9) : St9 × List α := repG take (min (max (takeNum s).2 0) most).toNat (takeNum s).1 []
def manyR9 {α : Type} (take : St9 → St9 × α) (most : Int) (s : St9) : St9 × List α :=
  takeMany take (takeNum s).2.toNat (if (takeNum s).2 < 0 ∨ most < (takeNum s).2 then spoil9 (takeNum s).1 else (takeNum s).1) []
def rawRes (row : St9 → St9 × List Int) (notes : St9 → St9 × List Nt9) (s : St9) : St9 × Rs9 :=
  let a := takeNum s; let b := takeNum a.1; let c := takePrims 1000 b.1; let d := row c.1; let e := takeTexts 1000 60 d.1; let f := notes e.1
  (f.1, a.2, b.2, c.2, d.2, e.2, f.2)
theorem takeRep_G : ∀ (k : Nat) (s : St9) (out : List Int), takeRep k s out = repG takeNum k s out
  | 0, _, _ => rfl
  | k + 1, s, out => takeRep_G k _ _
theorem rowP_G (m : Int) (s : St9) : takeRowP m s = manyP9 takeNum m s := takeRep_G _ _ _
section
variable {α : Type} {take : St9 → St9 × α} {put : α → List UInt8} {ok : α → Prop}
theorem repG_back (h : ∀ s s' x, take s = (s', x) → s'.2 = false → s.2 = false ∧ s.1 = put x ++ s'.1 ∧ ok x) : ∀ (k : Nat) (s s' : St9) (out out' : List α), repG take k s out = (s', out') → s'.2 = false → s.2 = false ∧ ∃ l, out' = out ++ l ∧ l.length = k ∧ s.1 = (l.map put).flatten ++ s'.1 ∧ ∀ x ∈ l, ok x
  | 0, s, s', out, out', e, hb => by
    cases e
    exact ⟨hb, [], by simp, rfl, by simp, fun _ h => by cases h⟩
  | k + 1, s, s', out, out', e, hb => by
    rw [repG] at e
    obtain ⟨h1, l, rfl, h2, h3, h4⟩ := repG_back h k _ _ _ _ e hb
    obtain ⟨g1, g2, g3⟩ := h s (take s).1 (take s).2 rfl h1
    refine ⟨g1, (take s).2 :: l, by simp, by simp [h2], by rw [g2, h3]; simp, fun x hx => ?_⟩
    rcases List.mem_cons.1 hx with rfl | hx
    · exact g3
    · exact h4 x hx
theorem repG_many (h : ∀ s, (take s).1.2 = false → s.2 = false) : ∀ (k : Nat) (s : St9) (out : List α), (takeMany take k s out).1.2 = false → repG take k s out = takeMany take k s out
  | 0, _, _, _ => rfl
  | k + 1, s, out, hb => by
    have hs : s.2 = false := by
      cases e : s.2 with
      | false => rfl
      | true => rw [takeMany_bad _ _ _ _ e] at hb; rw [e] at hb; cases hb
    unfold takeMany repG at *
    rw [hs, if_neg (by decide)] at *
    exact repG_many h k _ _ hb
theorem many9_same (h : ∀ s, (take s).1.2 = false → s.2 = false) {m : Int} {s : St9} (hb : (manyR9 take m s).1.2 = false) : manyP9 take m s = manyR9 take m s := by
  unfold manyR9 at *
  by_cases hn : (takeNum s).2 < 0 ∨ m < (takeNum s).2
  · rw [if_pos hn, takeMany_bad _ _ _ _ rfl] at hb
    cases hb
  · rw [if_neg hn] at *
    unfold manyP9
    rw [show (min (max (takeNum s).2 0) m).toNat = (takeNum s).2.toNat by omega]
    exact repG_many h _ _ _ hb
theorem manyP_back (h : ∀ s s' x, take s = (s', x) → s'.2 = false → s.2 = false ∧ s.1 = put x ++ s'.1 ∧ ok x) {m : Int} {s s' : St9} {l : List α} (hm : 0 ≤ m) (e : manyP9 take m s = (s', l)) (hb : s'.2 = false) : s.2 = false ∧ (l.length : Int) ≤ m ∧ ∀ x ∈ l, ok x := by
  unfold manyP9 at e
  obtain ⟨h1, l', hl, h2, h3, h4⟩ := repG_back h _ _ _ _ _ e hb
  rw [List.nil_append] at hl
  subst hl
  exact ⟨sticky_num h1, by omega, h4⟩
theorem manyR_back (h : ∀ s s' x, take s = (s', x) → s'.2 = false → s.2 = false ∧ s.1 = put x ++ s'.1 ∧ ok x) {m : Int} {s s' : St9} {l : List α} (e : manyR9 take m s = (s', l)) (hb : s'.2 = false) : s.2 = false ∧ s.1 = manyB put l ++ s'.1 ∧ (l.length : Int) ≤ m ∧ ∀ x ∈ l, ok x := by
  unfold manyR9 at e
  by_cases hn : (takeNum s).2 < 0 ∨ m < (takeNum s).2
  · rw [if_pos hn, takeMany_bad _ _ _ _ rfl] at e
    cases e; cases hb
  · rw [if_neg hn] at e
    have h1 : (takeNum s).1.2 = false := by
      cases hb' : (takeNum s).1.2 with
      | false => rfl
      | true =>
        rw [takeMany_bad _ _ _ _ hb'] at e
        cases e
        rw [hb'] at hb; cases hb
    obtain ⟨l', hl', hlen, h2, h3⟩ := takeMany_back h _ _ _ _ _ e hb
    have h0 := takeNum_back (s := s) (s' := (takeNum s).1) (n := (takeNum s).2) rfl h1
    rw [List.nil_append] at hl'
    subst hl'
    refine ⟨h0.1, ?_, by omega, h3⟩
    unfold manyB
    rw [h0.2.1, h2, List.append_assoc, hlen]
    congr 2
    omega
theorem manyR_enc (h : ∀ x r, ok x → take (put x ++ r, false) = ((r, false), x)) {l : List α} {m : Int} (hm : (l.length : Int) ≤ m) (hf : (l.length : Int) ≤ far9) (hl : ∀ x ∈ l, ok x) (r : List UInt8) : manyR9 take m (manyB put l ++ r, false) = ((r, false), l) := by
  unfold manyR9 manyB
  rw [List.append_assoc, takeNum_enc ⟨by unfold far9; omega, hf⟩]
  dsimp only
  rw [if_neg (by omega), show ((l.length : Nat) : Int).toNat = l.length by omega, takeMany_enc h l r [] hl]
  rfl
end
def OkN (n : Nt9) : Prop := (-far9 ≤ n.1 ∧ n.1 ≤ far9) ∧ n.2.1.length ≤ 1000 ∧ ∀ s ∈ n.2.1, s.size ≤ 60
theorem back_text' (m : Nat) : ∀ s s' x, takeText m s = (s', x) → s'.2 = false → s.2 = false ∧ s.1 = textB x ++ s'.1 ∧ x.size ≤ m := fun _ _ _ e hb => ⟨(takeText_back e hb).1, (takeText_back e hb).2.1, by have := (takeText_back e hb).2.2; omega⟩
theorem back_prim' : ∀ s s' x, takePrim s = (s', x) → s'.2 = false → s.2 = false ∧ s.1 = primB x ++ s'.1 ∧ rightP x = true := fun _ _ _ e hb => takePrim_back e hb
theorem back_note : ∀ s s' x, takeNote s = (s', x) → s'.2 = false → s.2 = false ∧ s.1 = noteB x ++ s'.1 ∧ OkN x := by
  intro s s' x e hb
  unfold takeNote at e
  dsimp only at e
  obtain ⟨⟨s1, v⟩, e1⟩ : ∃ x, takeNum s = x := ⟨_, rfl⟩
  rw [e1] at e
  dsimp only at e
  obtain ⟨⟨s2, b⟩, e2⟩ : ∃ x, takeFlag s1 = x := ⟨_, rfl⟩
  rw [e2] at e
  dsimp only at e
  obtain ⟨⟨s3, l⟩, e3⟩ : ∃ x, takeTexts 1000 60 s2 = x := ⟨_, rfl⟩
  rw [e3] at e
  dsimp only at e
  cases e
  obtain ⟨h2, a3, h3, h4⟩ := takeSome_back (back_text' 60) e3 hb
  obtain ⟨h1, a2⟩ := takeFlag_back e2 h2
  obtain ⟨h0, a1, hv⟩ := takeNum_back e1 h1
  refine ⟨h0, ?_, hv, by dsimp only; omega, h4⟩
  rw [a1, a2, a3]
  unfold noteB textsB
  simp only [List.append_assoc]
theorem sticky_note (s : St9) (h : (takeNote s).1.2 = false) : s.2 = false := (back_note s (takeNote s).1 (takeNote s).2 rfl h).1
theorem takeFlag_enc' (b : Bool) (r : List UInt8) : takeFlag (flagB b ++ r, false) = ((r, false), b) := by
  have h1 : clamp9 (if b then 1 else 0) = if b then 1 else 0 := by cases b <;> rfl
  have e : flagB b ++ r = itoa (if b then 1 else 0) ++ 59 :: r := by unfold flagB numB; rw [h1]; simp
  unfold takeFlag num9
  rw [e]
  dsimp only
  rw [if_neg (by decide), number_enc (.inr rfl) (itoa_len (by cases b <;> decide))]
  dsimp only
  rw [if_pos (by cases b <;> decide), show (itoa (if b then 1 else 0)).length + 1 = (itoa (if b then 1 else 0) ++ [59]).length by simp, show itoa (if b then 1 else 0) ++ 59 :: r = (itoa (if b then 1 else 0) ++ [59]) ++ r by simp, List.drop_left]
  cases b <;> rfl
theorem note_enc {n : Nt9} (h : OkN n) (r : List UInt8) : takeNote (noteB n ++ r, false) = ((r, false), n) := by
  have h2 := h.2.1
  unfold takeNote noteB
  rw [List.append_assoc, List.append_assoc, takeNum_enc h.1]
  dsimp only
  rw [takeFlag_enc']
  dsimp only
  unfold takeTexts
  rw [show textsB n.2.1 = manyB textB n.2.1 from rfl, takeSome_enc (ok := fun s => s.size ≤ 60) (fun s r hs => takeText_enc (by omega) (by unfold far9; omega) r) (by omega) (by unfold far9; omega) h.2.2]
/-- What a response that was read stays within. -/
structure LimS (s : Rs9) : Prop where
  code : -far9 ≤ s.1 ∧ s.1 ≤ far9
  version : -far9 ≤ s.2.1 ∧ s.2.1 ≤ far9
  prims : s.2.2.1.length ≤ 1000 ∧ ∀ p ∈ s.2.2.1, rightP p = true
  ids : s.2.2.2.1.length ≤ 1000 ∧ ∀ n ∈ s.2.2.2.1, -far9 ≤ n ∧ n ≤ far9
  lines : s.2.2.2.2.1.length ≤ 1000 ∧ ∀ x ∈ s.2.2.2.2.1, x.size ≤ 60
  notes : s.2.2.2.2.2.length ≤ 1000 ∧ ∀ n ∈ s.2.2.2.2.2, OkN n
theorem res_enc {s : Rs9} (h : LimS s) (hf : ∀ p ∈ s.2.2.1, FitP p) (r : List UInt8) : rawRes (takeRowR 1000) (manyR9 takeNote 1000) (resB s ++ r, false) = ((r, false), s) := by
  have e : resB s ++ r = numB s.1 ++ (numB s.2.1 ++ (primsB s.2.2.1 ++ (rowB s.2.2.2.1 ++ (textsB s.2.2.2.2.1 ++ (manyB noteB s.2.2.2.2.2 ++ r))))) := by
    unfold resB; simp only [List.append_assoc]
  have h3 := h.prims
  have h4 := h.ids
  have h5 := h.lines
  have h6 := h.notes
  unfold rawRes
  rw [e, takeNum_enc h.code]
  dsimp only
  rw [takeNum_enc h.version]
  dsimp only
  unfold takePrims
  rw [show primsB s.2.2.1 = manyB primB s.2.2.1 from rfl, takeSome_enc (ok := fun p => rightP p = true ∧ FitP p) (fun p r hp => takePrim_enc hp.1 hp.2 r) (by omega) (by unfold far9; omega) fun p hp => ⟨h3.2 p hp, hf p hp⟩]
  dsimp only
  rw [rowR_enc (by omega) (by unfold far9; omega) h4.2]
  dsimp only
  unfold takeTexts
  rw [show textsB s.2.2.2.2.1 = manyB textB s.2.2.2.2.1 from rfl, takeSome_enc (ok := fun s => s.size ≤ 60) (fun s r hs => takeText_enc (by omega) (by unfold far9; omega) r) (by omega) (by unfold far9; omega) h5.2]
  dsimp only
  rw [manyR_enc (fun x r hx => note_enc hx r) (by omega) (by unfold far9; omega) h6.2]
theorem resP_lim {s s' : St9} {x : Rs9} (e : rawRes (takeRowP 1000) (manyP9 takeNote 1000) s = (s', x)) (h : s'.2 = false) : LimS x := by
  unfold rawRes at e
  dsimp only at e
  obtain ⟨⟨s1, k⟩, e1⟩ : ∃ x, takeNum s = x := ⟨_, rfl⟩
  rw [e1] at e
  dsimp only at e
  obtain ⟨⟨s2, b⟩, e2⟩ : ∃ x, takeNum s1 = x := ⟨_, rfl⟩
  rw [e2] at e
  dsimp only at e
  obtain ⟨⟨s3, l⟩, e3⟩ : ∃ x, takePrims 1000 s2 = x := ⟨_, rfl⟩
  rw [e3] at e
  dsimp only at e
  obtain ⟨⟨s4, d⟩, e4⟩ : ∃ x, takeRowP 1000 s3 = x := ⟨_, rfl⟩
  rw [e4] at e
  dsimp only at e
  obtain ⟨⟨s5, t⟩, e5⟩ : ∃ x, takeTexts 1000 60 s4 = x := ⟨_, rfl⟩
  rw [e5] at e
  dsimp only at e
  obtain ⟨⟨s6, n⟩, e6⟩ : ∃ x, manyP9 takeNote 1000 s5 = x := ⟨_, rfl⟩
  rw [e6] at e
  dsimp only at e
  cases e
  obtain ⟨h5, g6, k6⟩ := manyP_back back_note (by decide) e6 h
  obtain ⟨h4, -, g5, k5⟩ := takeSome_back (back_text' 60) e5 h5
  rw [rowP_G] at e4
  obtain ⟨h3, g4, k4⟩ := manyP_back (put := numB) back_num (by decide) e4 h4
  obtain ⟨h2, -, g3, k3⟩ := takeSome_back back_prim' e3 h3
  obtain ⟨h1, -, g2⟩ := takeNum_back e2 h2
  obtain ⟨h0, -, g1⟩ := takeNum_back e1 h1
  exact ⟨g1, g2, ⟨by dsimp only; omega, k3⟩, ⟨by dsimp only; omega, k4⟩, ⟨by dsimp only; omega, k5⟩, by dsimp only; omega, k6⟩
theorem resR_back {s s' : St9} {x : Rs9} (e : rawRes (takeRowR 1000) (manyR9 takeNote 1000) s = (s', x)) (h : s'.2 = false) : s.2 = false ∧ s.1 = resB x ++ s'.1 ∧ rawRes (takeRowP 1000) (manyP9 takeNote 1000) s = (s', x) := by
  unfold rawRes at e ⊢
  dsimp only at e ⊢
  obtain ⟨⟨s1, k⟩, e1⟩ : ∃ x, takeNum s = x := ⟨_, rfl⟩
  rw [e1] at e ⊢
  dsimp only at e ⊢
  obtain ⟨⟨s2, b⟩, e2⟩ : ∃ x, takeNum s1 = x := ⟨_, rfl⟩
  rw [e2] at e ⊢
  dsimp only at e ⊢
  obtain ⟨⟨s3, l⟩, e3⟩ : ∃ x, takePrims 1000 s2 = x := ⟨_, rfl⟩
  rw [e3] at e ⊢
  dsimp only at e ⊢
  obtain ⟨⟨s4, d⟩, e4⟩ : ∃ x, takeRowR 1000 s3 = x := ⟨_, rfl⟩
  rw [e4] at e
  dsimp only at e
  obtain ⟨⟨s5, t⟩, e5⟩ : ∃ x, takeTexts 1000 60 s4 = x := ⟨_, rfl⟩
  rw [e5] at e
  dsimp only at e
  obtain ⟨⟨s6, n⟩, e6⟩ : ∃ x, manyR9 takeNote 1000 s5 = x := ⟨_, rfl⟩
  rw [e6] at e
  dsimp only at e
  cases e
  obtain ⟨h5, a6, -⟩ := manyR_back back_note e6 h
  obtain ⟨h4, a5, -⟩ := takeSome_back (ok := fun _ => True) (back_text 60) e5 h5
  obtain ⟨h3, a4, -⟩ := rowR_back e4 h4
  obtain ⟨h2, a3, -⟩ := takeSome_back (ok := fun _ => True) back_prim e3 h3
  obtain ⟨h1, a2, -⟩ := takeNum_back e2 h2
  obtain ⟨h0, a1, -⟩ := takeNum_back e1 h1
  refine ⟨h0, ?_, ?_⟩
  · rw [a1, a2, a3, a4, a5, a6]
    unfold resB primsB textsB
    simp only [List.append_assoc]
  · rw [row_same (by rw [e4]; exact h4), e4]
    dsimp only
    rw [e5]
    dsimp only
    rw [many9_same (take := takeNote) (m := 1000) (s := s5) sticky_note (by rw [e6]; exact h), e6]
/-- A response of bytes, as the program finds it, and as the document does. -/
def resP (b : List UInt8) : Option Rs9 :=
  if (rawRes (takeRowP 1000) (manyP9 takeNote 1000) (b, false)).1 = ([], false) ∧ resB (rawRes (takeRowP 1000) (manyP9 takeNote 1000) (b, false)).2 = b then some (rawRes (takeRowP 1000) (manyP9 takeNote 1000) (b, false)).2 else none
def resR (b : List UInt8) : Option Rs9 :=
  if (rawRes (takeRowR 1000) (manyR9 takeNote 1000) (b, false)).1 = ([], false) then some (rawRes (takeRowR 1000) (manyR9 takeNote 1000) (b, false)).2 else none
theorem fit_res {s : Rs9} {b : List UInt8} (h : resB s = b) (hb : b.length ≤ big9) : ∀ p ∈ s.2.2.1, FitP p := by
  have h2 : (primsB s.2.2.1).length ≤ big9 := by
    have := congrArg List.length h
    unfold resB at this
    simp only [List.length_append] at this
    omega
  exact fit_of_len (r := []) (List.append_nil _).symm h2
theorem res_same {b : List UInt8} (hb : b.length ≤ big9) : resP b = resR b := by
  unfold resP resR
  by_cases h : (rawRes (takeRowR 1000) (manyR9 takeNote 1000) (b, false)).1 = ([], false)
  · rw [if_pos h]
    obtain ⟨-, h3, h4⟩ := resR_back (s := (b, false)) (s' := (rawRes (takeRowR 1000) (manyR9 takeNote 1000) (b, false)).1) (x := (rawRes (takeRowR 1000) (manyR9 takeNote 1000) (b, false)).2) rfl (by rw [h])
    rw [h4, if_pos ⟨h, by rw [h] at h3; simpa using h3.symm⟩]
  · rw [if_neg h, if_neg]
    rintro ⟨h1, h2⟩
    refine h ?_
    have hlim := resP_lim (s := (b, false)) (s' := (rawRes (takeRowP 1000) (manyP9 takeNote 1000) (b, false)).1) (x := (rawRes (takeRowP 1000) (manyP9 takeNote 1000) (b, false)).2) rfl (by rw [h1])
    have h4 := res_enc hlim (fit_res h2 hb) []
    rw [List.append_nil, h2] at h4
    rw [h4]
end Go.Proofs.YtlfehnnmpkohkaaGreatDoor
/- Chapter 16: what is read of a response's bytes is the response, or nothing. -/
namespace Go.Proofs.YtlfehnnmpkohkaaGreatDoor
open Go Go.Lib
/-- What is read is what was written, or all is spoiled. -/
def ExB {α : Type} (take : St9 → St9 × α) (put : α → List UInt8) (x : α) : Prop := ∀ r, take (put x ++ r, false) = ((r, false), x) ∨ (take (put x ++ r, false)).1.2 = true
/-- Sizes at which texts and rows are written as they are. -/
def ShortP (p : Pr9) : Prop := ((p.2.1.size : Int) ≤ far9 ∧ (p.2.2.1.size : Int) ≤ far9) ∧ FitP p ∧ (∀ x ∈ p.2.2.2.2.1, (x.size : Int) ≤ far9) ∧ ∀ x ∈ p.2.2.2.2.2, (x.size : Int) ≤ far9
/-- Sizes at which a note, and a response, is written as it is. -/
def ShortN (n : Nt9) : Prop := (n.2.1.length : Int) ≤ far9 ∧ ∀ x ∈ n.2.1, (x.size : Int) ≤ far9
structure ShortS (s : Rs9) : Prop where
  prims : (s.2.2.1.length : Int) ≤ far9 ∧ ∀ p ∈ s.2.2.1, ShortP p
  ids : (s.2.2.2.1.length : Int) ≤ far9
  lines : (s.2.2.2.2.1.length : Int) ≤ far9 ∧ ∀ x ∈ s.2.2.2.2.1, (x.size : Int) ≤ far9
  notes : (s.2.2.2.2.2.length : Int) ≤ far9 ∧ ∀ n ∈ s.2.2.2.2.2, ShortN n
/-- A number that is not written as it is. -/
def farN (n : Int) : Bool := decide (far9 < n) || decide (n < -far9)
def farS (s : Rs9) : Bool := ([s.1, s.2.1] ++ s.2.2.2.1 ++ s.2.2.2.2.2.map (·.1)).any farN
end Go.Proofs.YtlfehnnmpkohkaaGreatDoor
/- Chapter 09: things: how much they hold, as 'few' counts it. -/
namespace Go.Proofs.YtlfehnnmpkohkaaGreatDoor
open Go Go.SL Go.Lib
/-- A thing: its kind, N, S, L, P, Ps, Q. -/
abbrev It9 := Int × Int × ByteArray × List ByteArray × Pr9 × List Pr9 × Pt9
abbrev eIt : Enc It9 := ePair (eInt .i64) (ePair (eInt .i64) (ePair eStr (ePair (eSl eStr) (ePair ePr (ePair (eSl ePr) ePt)))))
def sumS (l : List ByteArray) : Nat := (l.map (·.size)).sum
def manyP (p : Pr9) : Nat := p.2.1.size + p.2.2.1.size + p.2.2.2.2.1.length + p.2.2.2.2.2.length + sumS p.2.2.2.2.1 + sumS p.2.2.2.2.2
def many3 (l : List Pr9) : Nat := l.length + (l.map manyP).sum
def many7 (q : Pt9) : Nat := 1 + q.2.1.size + q.2.2.1.length + many3 q.2.2.2
def fewI (x : It9) : Nat := x.2.2.1.size + (many3 x.2.2.2.2.2.1 + 1 + manyP x.2.2.2.2.1) + many7 x.2.2.2.2.2.2 + x.2.2.2.1.length + sumS x.2.2.2.1
def fewP (l : List It9) : Bool := decide (l.length ≤ 30) && decide ((l.map fewI).sum ≤ 8000)
/-- The slices of a thing. -/
structure ItV where
  lv : Value
  po : Value
  pw : Value
  ps : Value
  qd : Value
  ql : Value
abbrev itC (z : It9) (g : ItV) : List Value := [.int .i64 z.1, .int .i64 z.2.1, .string z.2.2.1, g.lv, .int .i64 z.2.2.2.2.1.1, .string z.2.2.2.2.1.2.1, .string z.2.2.2.2.1.2.2.1, .int .i64 z.2.2.2.2.1.2.2.2.1, g.po, g.pw, g.ps, .int .i64 z.2.2.2.2.2.2.1, .string z.2.2.2.2.2.2.2.1, g.qd, g.ql]
abbrev itL (z : It9) (g : ItV) : List A := [Sl eStr g.lv z.2.2.2.1, Sl eStr g.po z.2.2.2.2.1.2.2.2.2.1, Sl eStr g.pw z.2.2.2.2.1.2.2.2.2.2, Sl ePr g.ps z.2.2.2.2.2.1, Sl (eInt .i64) g.qd z.2.2.2.2.2.2.2.2.1, Sl ePr g.ql z.2.2.2.2.2.2.2.2.2]
theorem stars_dups {w : World} {O : Perm} : ∀ {L : List A}, (∀ a ∈ L, a.h w (fun b => min (O b) 1)) → Stars L w O
  | [], _ => trivial
  | a :: L, h => ⟨fun b => min (O b) 1, fun b => min (O b) 1, ⟨fun b => Nat.min_le_left _ _, fun b => Nat.min_le_left _ _, fun b k => absurd (Nat.le_trans k (Nat.min_le_right _ _)) (by decide), fun b k => absurd (Nat.le_trans k (Nat.min_le_right _ _)) (by decide)⟩, h a (by simp),
      stars_dups fun a ha => by
        have := h a (List.mem_cons_of_mem _ ha)
        have e : (fun b => min (min (O b) 1) 1) = fun b => min (O b) 1 := funext fun b => by omega
        rw [e]; exact this⟩
end Go.Proofs.YtlfehnnmpkohkaaGreatDoor
/- Chapter 09: few. -/
namespace Go.Proofs.YtlfehnnmpkohkaaGreatDoor
open Go Go.SL Go.Lib
theorem sum_take {α : Type} (f : α → Nat) {l : List α} {k : Nat} (hk : k < l.length) : ((l.take (k + 1)).map f).sum = ((l.take k).map f).sum + f l[k] := by
  rw [List.take_succ_eq_append_getElem hk, List.map_append, List.sum_append]; simp
theorem sum_le {α : Type} (f : α → Nat) (l : List α) (k : Nat) : ((l.take k).map f).sum ≤ (l.map f).sum := by
  have h : (l.map f).sum = ((l.take k).map f).sum + ((l.drop k).map f).sum := by rw [← List.sum_append, ← List.map_append, List.take_append_drop]
  omega
theorem sum_mem {α : Type} (f : α → Nat) {l : List α} {k : Nat} (hk : k < l.length) : ((l.take k).map f).sum + f l[k] ≤ (l.map f).sum := by
  rw [← sum_take f hk]; exact sum_le f l (k + 1)
attribute [local irreducible] Cfg Kont StepK Val Con Qops Any Sl Own Blk BlkR Rd Pu ExA AllA Has Pick Ent Elem Beside Callable TI Lone OwnO AndA
set_option maxRecDepth 100000 in
theorem many3_con (v : Value) (l : List Pr9) (hl : many3 l ≤ 1000000000000) : Con Tryz.prog 38 [v] [Sl ePr v l] (γ := Unit) (fun _ => .int .i64 (many3 l)) (fun _ => True) (fun _ => []) := by
  have hm : many3 l = l.length + (l.map manyP).sum := rfl
  refine con_of Tryz.func38 rfl (dd rfl) fun w0 O0 => ?_
  refine c_seq (c_region ?_)
  refine oV vA ?_
  refine o_nil (c_seq (c_region ?_))
  refine oV vM ?_
  refine oV ((by first | exact v_len_form Tryz.underlying24 rfl | exact v_len_sl Tryz.underlying24 rfl (hX (by repeat constructor)))) ?_
  refine oV vA ?_
  refine o_nil (c_seq (c_seq (c_region ?_)))
  refine oV vM ?_
  refine oV ((by first | exact v_len_form Tryz.underlying24 rfl | exact v_len_sl Tryz.underlying24 rfl (hX (by repeat constructor)))) ?_
  refine oV vM ?_
  refine o_nil (c_block ?_)
  refine c_loopR (γ := Nat) [(2, _), (12, _), (13, _)] (fun k => l.length - k) (fun k => k ≤ l.length) (fun k => [(14, .int .i64 k), (3, .int .i64 ((l.length + ((l.take k).map manyP).sum : Nat) : Int))]) (fun _ => [Sl ePr v l]) (0) (Nat.zero_le _) (by repeat (first | exact trivial | refine ⟨rfl, ?_⟩)) (eX (by repeat constructor)) ?_
  rintro k hk IH
  try dsimp only [List.cons_append, List.nil_append]
  refine c_seq (c_region ?_)
  refine oV (v_lt rfl rfl) ?_
  refine o_nil (c_seq ?_)
  refine c_cond_p rfl (fun hlt => ?_) (fun hlt => ?_)
  · have hk' : k < l.length := by omega
    have hsm := sum_mem manyP hk'
    have hst := sum_take manyP hk'
    have hmp : manyP l[k] = l[k].2.1.size + l[k].2.2.1.size + l[k].2.2.2.2.1.length + l[k].2.2.2.2.2.length + sumS l[k].2.2.2.2.1 + sumS l[k].2.2.2.2.2 := rfl
    obtain ⟨base, hbase⟩ : ∃ base, base = l.length + ((l.take k).map manyP).sum := ⟨_, rfl⟩
    rw [← hbase]
    refine c_skip (c_seq (c_block (c_seq (c_region ?_))))
    refine oV ((by first | exact v_indexAddrN Tryz.underlying24 ti129 rfl rfl (hX (by repeat constructor)) (by omega) | exact v_indexAddr Tryz.underlying24 ti129 rfl rfl (hX (by repeat constructor)) (by omega))) ?_
    refine o_step (s_load_shape ⟨_, Tryz.underlying129⟩ ti129 rfl (dd rfl) (by repeat (first|exact el1 (by omega)|exact el2 (by omega)|exact el3 (by omega)|apply Elem.there)) (pr_open) (fun g => ?_))
    refine o_step (s_alloc ti129 (dd rfl) (fun b5 => ?_))
    refine o_step (s_store_all ti129 rfl rfl (by first | exact CellsV.lit rfl | exact CellsV.one (by first | exact OneC.lit rfl | exact OneC.sl (hX (by repeat constructor)) )) (by repeat (first | exact OneAll.nil | (refine OneAll.cons ?_ ?_; · first | exact OneC.lit rfl | exact OneC.sl (hX (by repeat constructor)) ) | exact OneAll.rd (hX (by repeat constructor)))) rfl (pB (by repeat constructor)) rfl (?_))
    refine o_nil (c_seq (c_region ?_))
    refine oV vM ?_
    refine oV (vF 1 Tryz.underlying129 ti9) ?_
    refine oV (vL lone9) ?_
    refine oV (v_len_str Tryz.underlying9 rfl) ?_
    refine oV (vF 2 Tryz.underlying129 ti9) ?_
    refine oV (vL lone9) ?_
    refine oV (v_len_str Tryz.underlying9 rfl) ?_
    refine oV ((by first | exact v_add64 rfl rfl (by omega) | exact v_add rfl rfl)) ?_
    refine oV (vF 4 Tryz.underlying129 ti23) ?_
    refine oV (vL lone23) ?_
    refine oV ((by first | exact v_len_form Tryz.underlying23 rfl | exact v_len_sl Tryz.underlying23 rfl (hX (by repeat constructor)))) ?_
    refine oV ((by first | exact v_add64 rfl rfl (by omega) | exact v_add rfl rfl)) ?_
    refine oV (vF 5 Tryz.underlying129 ti23) ?_
    refine oV (vL lone23) ?_
    refine oV ((by first | exact v_len_form Tryz.underlying23 rfl | exact v_len_sl Tryz.underlying23 rfl (hX (by repeat constructor)))) ?_
    refine oV ((by first | exact v_add64 rfl rfl (by omega) | exact v_add rfl rfl)) ?_
    refine oV ((by first | exact v_add64 rfl rfl (by omega) | exact v_add rfl rfl)) ?_
    refine oV vA ?_
    refine o_nil (c_seq (c_seq (c_region ?_)))
    refine oV (vF 4 Tryz.underlying129 ti23) ?_
    refine oV (vL lone23) ?_
    refine oV ((by first | exact v_len_form Tryz.underlying23 rfl | exact v_len_sl Tryz.underlying23 rfl (hX (by repeat constructor)))) ?_
    refine oV vM ?_
    refine o_nil (c_block ?_)
    have h0 : ∀ l : List ByteArray, ((sumS (l.take 0) : Nat) : Int) = 0 := fun l => by simp [sumS]
    obtain ⟨acc, hacc⟩ : ∃ acc : Int, acc = (base : Int) + ((l[k].2.1.size : Int) + l[k].2.2.1.size + l[k].2.2.2.2.1.length + l[k].2.2.2.2.2.length) := ⟨_, rfl⟩
    have hac0 : (base : Int) + ((l[k].2.1.size : Int) + l[k].2.2.1.size + l[k].2.2.2.2.1.length + l[k].2.2.2.2.2.length) = acc + ((sumS (l[k].2.2.2.2.1.take 0) : Nat) : Int) := by rw [h0, hacc]; omega
    rw [hac0]
    refine c_loopR (γ := Nat) [(2, _), (5, _), (12, _), (13, _), (14, _), (15, _), (16, _), (17, _), (18, _), (19, _), (20, _), (21, _), (22, _), (23, _), (24, _), (25, _), (26, _), (27, _), (28, _), (29, _), (30, _), (31, _), (32, _), (33, _), (34, _), (35, _), (36, _), (37, _)] (fun j => l[k].2.2.2.2.1.length - j) (fun j => j ≤ l[k].2.2.2.2.1.length) (fun j => [(38, .int .i64 j), (3, .int .i64 (acc + ((sumS (l[k].2.2.2.2.1.take j) : Nat) : Int)))]) (fun _ => [Blk b5 129 [.int .i64 l[k].1, .string l[k].2.1, .string l[k].2.2.1, .int .i64 l[k].2.2.2.1, g.1, g.2], Sl eStr g.1 l[k].2.2.2.2.1, Sl eStr g.2 l[k].2.2.2.2.2, Sl ePr v l]) (0) (Nat.zero_le _) (by repeat (first | exact trivial | refine ⟨rfl, ?_⟩)) (eX (by repeat constructor)) ?_
    rintro j hj IH2
    have hsj := sum_le (fun s : ByteArray => s.size) l[k].2.2.2.2.1 j
    try dsimp only [List.cons_append, List.nil_append]
    refine c_seq (c_region ?_)
    refine oV (v_lt rfl rfl) ?_
    refine o_nil (c_seq ?_)
    refine c_cond_p rfl (fun hj2 => ?_) (fun hj2 => ?_)
    · have hjl : j < l[k].2.2.2.2.1.length := by omega
      have hsn : sumS (l[k].2.2.2.2.1.take (j + 1)) = sumS (l[k].2.2.2.2.1.take j) + l[k].2.2.2.2.1[j].size := sum_take (fun s : ByteArray => s.size) hjl
      have hsj2 := sum_le (fun s : ByteArray => s.size) l[k].2.2.2.2.1 (j + 1)
      unfold sumS at *
      refine c_skip (c_seq (c_block (c_seq (c_region ?_))))
      refine oV ((by first | exact v_indexAddrN Tryz.underlying23 ti9 rfl rfl (hX (by repeat constructor)) (by omega) | exact v_indexAddr Tryz.underlying23 ti9 rfl rfl (hX (by repeat constructor)) (by omega))) ?_
      refine oV (v_load_str lone9 rfl (by repeat (first | exact Elem.sl (List.getElem?_eq_getElem (by omega)) | exact Elem.own (List.getElem?_eq_getElem (by omega)) | exact Elem.ownO (List.getElem?_eq_getElem (by omega)) | apply Elem.there))) ?_
      refine oV vA ?_
      refine o_nil (c_region ?_)
      iterate 2 refine oV vM ?_
      refine oV (v_len_str Tryz.underlying9 rfl) ?_
      refine oV ((by first | exact v_add64 rfl rfl (by omega) | exact v_add rfl rfl)) ?_
      refine oV vA ?_
      refine o_nil (c_inBlock (c_region ?_))
      refine oV ((by first | exact v_add64 rfl rfl (by omega) | exact v_add rfl rfl)) ?_
      refine oV vM ?_
      refine o_nil ?_
      rw [Int.add_assoc acc, ← Int.natCast_add, ← hsn]
      refine cU (IH2 (j + 1) (by first | omega | (dsimp only; omega)) (by omega))
    · rw [List.take_of_length_le (l := l[k].2.2.2.2.1) (i := j) (by omega)]
      refine c_exit rfl ?_
      refine c_seq (c_region ?_)
      refine oV (vF 5 Tryz.underlying129 ti23) ?_
      refine oV (vL lone23) ?_
      refine oV ((by first | exact v_len_form Tryz.underlying23 rfl | exact v_len_sl Tryz.underlying23 rfl (hX (by repeat constructor)))) ?_
      refine oV vM ?_
      refine o_nil (c_block ?_)
      have hac1 : acc + ((sumS l[k].2.2.2.2.1 : Nat) : Int) = (acc + ((sumS l[k].2.2.2.2.1 : Nat) : Int)) + ((sumS (l[k].2.2.2.2.2.take 0) : Nat) : Int) := by rw [h0]; omega
      rw [hac1]
      obtain ⟨acc2, hacc2⟩ : ∃ x : Int, x = acc + ((sumS l[k].2.2.2.2.1 : Nat) : Int) := ⟨_, rfl⟩
      rw [← hacc2]
      refine c_loopR (γ := Nat) [(2, _), (5, _), (12, _), (13, _), (14, _), (15, _), (16, _), (17, _), (18, _), (19, _), (20, _), (21, _), (22, _), (23, _), (24, _), (25, _), (26, _), (27, _), (28, _), (29, _), (30, _), (31, _), (32, _), (33, _), (34, _), (35, _), (36, _), (37, _), (38, _), (39, _), (47, _), (48, _), (49, _)] (fun j => l[k].2.2.2.2.2.length - j) (fun j => j ≤ l[k].2.2.2.2.2.length) (fun j => [(50, .int .i64 j), (3, .int .i64 (acc2 + ((sumS (l[k].2.2.2.2.2.take j) : Nat) : Int)))]) (fun _ => [Blk b5 129 [.int .i64 l[k].1, .string l[k].2.1, .string l[k].2.2.1, .int .i64 l[k].2.2.2.1, g.1, g.2], Sl eStr g.2 l[k].2.2.2.2.2, Sl ePr v l]) (0) (Nat.zero_le _) (by repeat (first | exact trivial | refine ⟨rfl, ?_⟩)) (eX (by repeat constructor)) ?_
      rintro j hj IH3
      have hsj := sum_le (fun s : ByteArray => s.size) l[k].2.2.2.2.2 j
      try dsimp only [List.cons_append, List.nil_append]
      refine c_seq (c_region ?_)
      refine oV (v_lt rfl rfl) ?_
      refine o_nil (c_seq ?_)
      refine c_cond_p rfl (fun hj2 => ?_) (fun hj2 => ?_)
      · have hjl : j < l[k].2.2.2.2.2.length := by omega
        have hsn : sumS (l[k].2.2.2.2.2.take (j + 1)) = sumS (l[k].2.2.2.2.2.take j) + l[k].2.2.2.2.2[j].size := sum_take (fun s : ByteArray => s.size) hjl
        have hsj2 := sum_le (fun s : ByteArray => s.size) l[k].2.2.2.2.2 (j + 1)
        unfold sumS at *
        refine c_skip (c_seq (c_block (c_seq (c_region ?_))))
        refine oV ((by first | exact v_indexAddrN Tryz.underlying23 ti9 rfl rfl (hX (by repeat constructor)) (by omega) | exact v_indexAddr Tryz.underlying23 ti9 rfl rfl (hX (by repeat constructor)) (by omega))) ?_
        refine oV (v_load_str lone9 rfl (by repeat (first | exact Elem.sl (List.getElem?_eq_getElem (by omega)) | exact Elem.own (List.getElem?_eq_getElem (by omega)) | exact Elem.ownO (List.getElem?_eq_getElem (by omega)) | apply Elem.there))) ?_
        refine oV vA ?_
        refine o_nil (c_region ?_)
        iterate 2 refine oV vM ?_
        refine oV (v_len_str Tryz.underlying9 rfl) ?_
        refine oV ((by first | exact v_add64 rfl rfl (by omega) | exact v_add rfl rfl)) ?_
        refine oV vA ?_
        refine o_nil (c_inBlock (c_region ?_))
        refine oV ((by first | exact v_add64 rfl rfl (by omega) | exact v_add rfl rfl)) ?_
        refine oV vM ?_
        refine o_nil ?_
        rw [Int.add_assoc acc2, ← Int.natCast_add, ← hsn]
        refine cU (IH3 (j + 1) (by first | omega | (dsimp only; omega)) (by omega))
      · rw [List.take_of_length_le (l := l[k].2.2.2.2.2) (i := j) (by omega)]
        refine c_exit rfl ?_
        refine c_inBlock (c_region ?_)
        refine oV ((by first | exact v_add64 rfl rfl (by omega) | exact v_add rfl rfl)) ?_
        refine oV vM ?_
        refine o_nil ?_
        have hfin : acc2 + ((sumS l[k].2.2.2.2.2 : Nat) : Int) = ((l.length + ((l.take (k + 1)).map manyP).sum : Nat) : Int) := by rw [hst]; omega
        rw [hfin]
        refine cU (IH (k + 1) (by first | omega | (dsimp only; omega)) (by omega))
  · refine c_exit rfl ?_
    refine c_seq (c_region ?_)
    refine oV vM ?_
    refine oV vA ?_
    refine o_nil ?_
    refine c_ret1 Tryz.func38 rfl rfl fun w O hS => ?_
    exact ⟨(), by rw [hm, List.take_of_length_le (by omega)], trivial, trivial⟩
/-- The inner structs of a thing. -/
abbrev itP (z : It9) (g : ItV) : List Value := [.int .i64 z.2.2.2.2.1.1, .string z.2.2.2.2.1.2.1, .string z.2.2.2.2.1.2.2.1, .int .i64 z.2.2.2.2.1.2.2.2.1, g.po, g.pw]
abbrev itQ (z : It9) (g : ItV) : List Value := [.int .i64 z.2.2.2.2.2.2.1, .string z.2.2.2.2.2.2.2.1, g.qd, g.ql]
end Go.Proofs.YtlfehnnmpkohkaaGreatDoor

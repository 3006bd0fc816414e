/- The texts I2, W4, W5, W6, I3, P1, V1, V4, one behind the other. -/
import Derived.Test.YtmgkeippepeggaaGreatDoorZY4
set_option linter.unusedVariables false
set_option linter.unusedSimpArgs false
/- Chapter 09: the program's reader: numbers, flags, texts. -/
namespace Go.Proofs.YtmgkeippepeggaaGreatDoor
open Go Go.SL Go.Lib
/-- What is left behind going on, or spoiling. -/
def goS (many : Int) (is : Bool) (s : St9) : St9 := if s.2 = true ∨ is = false ∨ many < 1 then spoil9 s else (s.1.drop many.toNat, false)
attribute [local irreducible] Cfg Kont StepK Val Con Qops Any Sl Own Blk BlkR Rd Pu ExA AllA Has Pick Ent Elem Beside Callable TI Lone OwnO AndA
set_option maxRecDepth 100000 in
theorem goesI_con (i : Nat) (bv : Value) (s : St9) (many : Int) (is : Bool) (x : Int) (hm : many ≤ s.1.length) : Con Tryz.prog 54 [ptr i, .int .i64 many, .bool is, .int .i64 x] [Blk i 92 [bv, .bool s.2], Sl eByte bv s.1] (γ := Value) (fun _ => .int .i64 (if s.2 = true ∨ is = false ∨ many < 1 then 0 else x)) (fun _ => True) (fun g => [Blk i 92 [g, .bool (goS many is s).2], Sl eByte g (goS many is s).1]) := by
  refine Con.form (v := bv) (xs := s.1) (hX (by repeat constructor)) ?_
  rintro a0 c0 rfl hc0 hm0
  refine con_of Tryz.func54 rfl (dd rfl) fun w0 O0 => ?_
  refine c_seq ?_
  refine c_region ?_
  refine o_val (v_assign rfl) (dd rfl) ?_
  refine o_nil ?_
  refine c_seq ?_
  refine c_region ?_
  refine o_val (v_assign rfl) (dd rfl) ?_
  refine o_nil ?_
  refine c_seq ?_
  refine c_seq ?_
  refine c_env (env' := [(0, _), (1, _), (2, _), (3, _), (8, _), (9, _)]) (by repeat (first | exact trivial | refine ⟨rfl, ?_⟩)) ?_
  refine c_joinb (d := 21) (decide (s.2 = true ∨ is = false ∨ many < 1)) ?_ ?_
  rotate_left
  · intro J
    refine c_region ?_
    refine o_val (v_move rfl) (dd rfl) ?_
    refine o_val (v_nilCheck rfl) (dd rfl) ?_
    refine o_val (v_fieldAddrC 1 Tryz.underlying92 rfl ti4 (by decide) rfl) (dd rfl) ?_
    refine o_val (v_load lone4 rfl (hX (by repeat constructor)) rfl) (dd rfl) ?_
    refine o_val (v_move rfl) (dd rfl) ?_
    first | refine o_guard_f rfl rfl (fun g14 => ?_) (fun g14 => ?_) | refine o_guard rfl rfl (fun g14 => ?_) (fun g14 => ?_)
    · refine o_val (v_move rfl) (dd rfl) ?_
      refine o_on rfl rfl ?_
      refine o_val (v_not rfl) (dd rfl) ?_
      refine o_val (v_pick_f rfl rfl) (dd rfl) ?_
      refine o_val (v_move rfl) (dd rfl) ?_
      first | refine o_guard_f rfl rfl (fun g18 => ?_) (fun g18 => ?_) | refine o_guard rfl rfl (fun g18 => ?_) (fun g18 => ?_)
      · refine o_val (v_move rfl) (dd rfl) ?_
        refine o_on rfl rfl ?_
        refine o_val (v_lt rfl rfl) (dd rfl) ?_
        refine o_val (v_pick_f rfl rfl) (dd rfl) ?_
        refine o_nil ?_
        exact c_use J ⟨Env.as rfl (congrArg Value.bool (by first | rfl | (simp_all; done) | (simp_all; omega) | (simp; omega))), (by repeat (first | exact trivial | refine ⟨rfl, ?_⟩))⟩ (by first | exact Ent.refl _ | exact eX (by repeat constructor))
      · refine o_off rfl rfl rfl (dd rfl) ?_
        refine o_off rfl rfl rfl (dd rfl) ?_
        refine o_val (v_pick_t rfl rfl) (dd rfl) ?_
        refine o_nil ?_
        exact c_use J ⟨Env.as rfl (congrArg Value.bool (by first | rfl | (simp_all; done) | (simp_all; omega) | (simp; omega))), (by repeat (first | exact trivial | refine ⟨rfl, ?_⟩))⟩ (by first | exact Ent.refl _ | exact eX (by repeat constructor))
    · refine o_off rfl rfl rfl (dd rfl) ?_
      refine o_off rfl rfl rfl (dd rfl) ?_
      refine o_val (v_pick_t rfl rfl) (dd rfl) ?_
      refine o_val (v_move rfl) (dd rfl) ?_
      refine o_off rfl rfl rfl (dd rfl) ?_
      refine o_off rfl rfl rfl (dd rfl) ?_
      refine o_val (v_pick_t rfl rfl) (dd rfl) ?_
      refine o_nil ?_
      exact c_use J ⟨Env.as rfl (congrArg Value.bool (by first | rfl | (simp_all; done) | (simp_all; omega) | (simp; omega))), (by repeat (first | exact trivial | refine ⟨rfl, ?_⟩))⟩ (by first | exact Ent.refl _ | exact eX (by repeat constructor))
  refine c_cond_p rfl (fun hb => ?_) (fun hb => ?_)
  · unfold goS
    rw [if_pos hb, if_pos hb]
    refine c_seq ?_
    refine c_region ?_
    refine o_val (v_move rfl) (dd rfl) ?_
    refine o_val (v_nilCheck rfl) (dd rfl) ?_
    refine o_val (v_fieldAddrC 1 Tryz.underlying92 rfl ti4 (by decide) rfl) (dd rfl) ?_
    refine o_step (s_store1 ti4 rfl rfl (by first | exact OneC.lit rfl | exact OneC.sl (hX (by repeat constructor)) ) (pB (by repeat constructor)) (by first | decide | exact Nat.le_of_ble_eq_true rfl | simp) (by first | (dsimp only [List.set_cons_succ, List.set_cons_zero]; first | done | exact rfl) | rfl) (?_))
    refine o_nil ?_
    refine c_seq ?_
    refine c_region ?_
    refine o_val (v_move rfl) (dd rfl) ?_
    refine o_val (v_assign rfl) (dd rfl) ?_
    refine o_nil ?_
    refine c_ret1 Tryz.func54 rfl rfl fun w O hS => ?_
    exact ⟨_, rfl, trivial, Ent.get hS (eX (by repeat constructor))⟩
  · have h2 : s.2 = false := by cases q : s.2 with | false => rfl | true => exact absurd (.inl q) hb
    unfold goS
    rw [if_neg hb, if_neg hb, h2]
    refine c_skip ?_
    refine c_seq ?_
    refine c_region ?_
    refine o_val (v_move rfl) (dd rfl) ?_
    refine o_val (v_move rfl) (dd rfl) ?_
    refine o_val (v_nilCheck rfl) (dd rfl) ?_
    refine o_val (v_fieldAddrC 0 Tryz.underlying92 rfl ti25 (by decide) rfl) (dd rfl) ?_
    refine o_val (v_load lone25 rfl (hX (by repeat constructor)) rfl) (dd rfl) ?_
    refine o_val (v_move rfl) (dd rfl) ?_
    refine o_step (s_slice Tryz.underlying25 ti5 rfl (pX (by repeat constructor)) rfl (.inr ⟨_, _, _, rfl, rfl, by omega, rfl⟩) (.inl ⟨rfl, rfl⟩) (by omega) (by omega) (dd rfl) fun z => ?_)
    refine o_val (v_nilCheck rfl) (dd rfl) ?_
    refine o_val (v_fieldAddrC 0 Tryz.underlying92 rfl ti25 (by decide) rfl) (dd rfl) ?_
    refine o_step (s_store1 ti25 rfl rfl (by first | exact OneC.lit rfl | exact OneC.sl (hX (by repeat constructor)) ) (pB (by repeat constructor)) (by first | decide | exact Nat.le_of_ble_eq_true rfl | simp) (by first | (dsimp only [List.set_cons_succ, List.set_cons_zero]; first | done | exact rfl) | rfl) (?_))
    refine o_nil ?_
    refine c_seq ?_
    refine c_region ?_
    refine o_val (v_move rfl) (dd rfl) ?_
    refine o_val (v_assign rfl) (dd rfl) ?_
    refine o_nil ?_
    refine c_ret1 Tryz.func54 rfl rfl fun w O hS => ?_
    exact ⟨z, rfl, trivial, by
      have e : (s.1.take s.1.length).drop many.toNat = s.1.drop many.toNat := by rw [List.take_length]
      rw [e] at hS
      exact Ent.get hS (eX (by repeat constructor))⟩
set_option maxRecDepth 100000 in
theorem goesB_con (i : Nat) (bv : Value) (s : St9) (many : Int) (is : Bool) (x : Bool) (hm : many ≤ s.1.length) : Con Tryz.prog 55 [ptr i, .int .i64 many, .bool is, .bool x] [Blk i 92 [bv, .bool s.2], Sl eByte bv s.1] (γ := Value) (fun _ => .bool (if s.2 = true ∨ is = false ∨ many < 1 then false else x)) (fun _ => True) (fun g => [Blk i 92 [g, .bool (goS many is s).2], Sl eByte g (goS many is s).1]) := by
  refine Con.form (v := bv) (xs := s.1) (hX (by repeat constructor)) ?_
  rintro a0 c0 rfl hc0 hm0
  refine con_of Tryz.func55 rfl (dd rfl) fun w0 O0 => ?_
  refine c_seq ?_
  refine c_region ?_
  refine o_val (v_assign rfl) (dd rfl) ?_
  refine o_nil ?_
  refine c_seq ?_
  refine c_region ?_
  refine o_val (v_assign rfl) (dd rfl) ?_
  refine o_nil ?_
  refine c_seq ?_
  refine c_seq ?_
  refine c_env (env' := [(0, _), (1, _), (2, _), (3, _), (8, _), (9, _)]) (by repeat (first | exact trivial | refine ⟨rfl, ?_⟩)) ?_
  refine c_joinb (d := 21) (decide (s.2 = true ∨ is = false ∨ many < 1)) ?_ ?_
  rotate_left
  · intro J
    refine c_region ?_
    refine o_val (v_move rfl) (dd rfl) ?_
    refine o_val (v_nilCheck rfl) (dd rfl) ?_
    refine o_val (v_fieldAddrC 1 Tryz.underlying92 rfl ti4 (by decide) rfl) (dd rfl) ?_
    refine o_val (v_load lone4 rfl (hX (by repeat constructor)) rfl) (dd rfl) ?_
    refine o_val (v_move rfl) (dd rfl) ?_
    first | refine o_guard_f rfl rfl (fun g14 => ?_) (fun g14 => ?_) | refine o_guard rfl rfl (fun g14 => ?_) (fun g14 => ?_)
    · refine o_val (v_move rfl) (dd rfl) ?_
      refine o_on rfl rfl ?_
      refine o_val (v_not rfl) (dd rfl) ?_
      refine o_val (v_pick_f rfl rfl) (dd rfl) ?_
      refine o_val (v_move rfl) (dd rfl) ?_
      first | refine o_guard_f rfl rfl (fun g18 => ?_) (fun g18 => ?_) | refine o_guard rfl rfl (fun g18 => ?_) (fun g18 => ?_)
      · refine o_val (v_move rfl) (dd rfl) ?_
        refine o_on rfl rfl ?_
        refine o_val (v_lt rfl rfl) (dd rfl) ?_
        refine o_val (v_pick_f rfl rfl) (dd rfl) ?_
        refine o_nil ?_
        exact c_use J ⟨Env.as rfl (congrArg Value.bool (by first | rfl | (simp_all; done) | (simp_all; omega) | (simp; omega))), (by repeat (first | exact trivial | refine ⟨rfl, ?_⟩))⟩ (by first | exact Ent.refl _ | exact eX (by repeat constructor))
      · refine o_off rfl rfl rfl (dd rfl) ?_
        refine o_off rfl rfl rfl (dd rfl) ?_
        refine o_val (v_pick_t rfl rfl) (dd rfl) ?_
        refine o_nil ?_
        exact c_use J ⟨Env.as rfl (congrArg Value.bool (by first | rfl | (simp_all; done) | (simp_all; omega) | (simp; omega))), (by repeat (first | exact trivial | refine ⟨rfl, ?_⟩))⟩ (by first | exact Ent.refl _ | exact eX (by repeat constructor))
    · refine o_off rfl rfl rfl (dd rfl) ?_
      refine o_off rfl rfl rfl (dd rfl) ?_
      refine o_val (v_pick_t rfl rfl) (dd rfl) ?_
      refine o_val (v_move rfl) (dd rfl) ?_
      refine o_off rfl rfl rfl (dd rfl) ?_
      refine o_off rfl rfl rfl (dd rfl) ?_
      refine o_val (v_pick_t rfl rfl) (dd rfl) ?_
      refine o_nil ?_
      exact c_use J ⟨Env.as rfl (congrArg Value.bool (by first | rfl | (simp_all; done) | (simp_all; omega) | (simp; omega))), (by repeat (first | exact trivial | refine ⟨rfl, ?_⟩))⟩ (by first | exact Ent.refl _ | exact eX (by repeat constructor))
  refine c_cond_p rfl (fun hb => ?_) (fun hb => ?_)
  · unfold goS
    rw [if_pos hb, if_pos hb]
    refine c_seq ?_
    refine c_region ?_
    refine o_val (v_move rfl) (dd rfl) ?_
    refine o_val (v_nilCheck rfl) (dd rfl) ?_
    refine o_val (v_fieldAddrC 1 Tryz.underlying92 rfl ti4 (by decide) rfl) (dd rfl) ?_
    refine o_step (s_store1 ti4 rfl rfl (by first | exact OneC.lit rfl | exact OneC.sl (hX (by repeat constructor)) ) (pB (by repeat constructor)) (by first | decide | exact Nat.le_of_ble_eq_true rfl | simp) (by first | (dsimp only [List.set_cons_succ, List.set_cons_zero]; first | done | exact rfl) | rfl) (?_))
    refine o_nil ?_
    refine c_seq ?_
    refine c_region ?_
    refine o_val (v_move rfl) (dd rfl) ?_
    refine o_val (v_assign rfl) (dd rfl) ?_
    refine o_nil ?_
    refine c_ret1 Tryz.func55 rfl rfl fun w O hS => ?_
    exact ⟨_, rfl, trivial, Ent.get hS (eX (by repeat constructor))⟩
  · have h2 : s.2 = false := by cases q : s.2 with | false => rfl | true => exact absurd (.inl q) hb
    unfold goS
    rw [if_neg hb, if_neg hb, h2]
    refine c_skip ?_
    refine c_seq ?_
    refine c_region ?_
    refine o_val (v_move rfl) (dd rfl) ?_
    refine o_val (v_move rfl) (dd rfl) ?_
    refine o_val (v_nilCheck rfl) (dd rfl) ?_
    refine o_val (v_fieldAddrC 0 Tryz.underlying92 rfl ti25 (by decide) rfl) (dd rfl) ?_
    refine o_val (v_load lone25 rfl (hX (by repeat constructor)) rfl) (dd rfl) ?_
    refine o_val (v_move rfl) (dd rfl) ?_
    refine o_step (s_slice Tryz.underlying25 ti5 rfl (pX (by repeat constructor)) rfl (.inr ⟨_, _, _, rfl, rfl, by omega, rfl⟩) (.inl ⟨rfl, rfl⟩) (by omega) (by omega) (dd rfl) fun z => ?_)
    refine o_val (v_nilCheck rfl) (dd rfl) ?_
    refine o_val (v_fieldAddrC 0 Tryz.underlying92 rfl ti25 (by decide) rfl) (dd rfl) ?_
    refine o_step (s_store1 ti25 rfl rfl (by first | exact OneC.lit rfl | exact OneC.sl (hX (by repeat constructor)) ) (pB (by repeat constructor)) (by first | decide | exact Nat.le_of_ble_eq_true rfl | simp) (by first | (dsimp only [List.set_cons_succ, List.set_cons_zero]; first | done | exact rfl) | rfl) (?_))
    refine o_nil ?_
    refine c_seq ?_
    refine c_region ?_
    refine o_val (v_move rfl) (dd rfl) ?_
    refine o_val (v_assign rfl) (dd rfl) ?_
    refine o_nil ?_
    refine c_ret1 Tryz.func55 rfl rfl fun w O hS => ?_
    exact ⟨z, rfl, trivial, by
      have e : (s.1.take s.1.length).drop many.toNat = s.1.drop many.toNat := by rw [List.take_length]
      rw [e] at hS
      exact Ent.get hS (eX (by repeat constructor))⟩
set_option maxRecDepth 100000 in
theorem goesS_con (i : Nat) (bv : Value) (s : St9) (many : Int) (is : Bool) (x : ByteArray) (hm : many ≤ s.1.length) : Con Tryz.prog 56 [ptr i, .int .i64 many, .bool is, .string x] [Blk i 92 [bv, .bool s.2], Sl eByte bv s.1] (γ := Value) (fun _ => .string (if s.2 = true ∨ is = false ∨ many < 1 then ⟨#[]⟩ else x)) (fun _ => True) (fun g => [Blk i 92 [g, .bool (goS many is s).2], Sl eByte g (goS many is s).1]) := by
  refine Con.form (v := bv) (xs := s.1) (hX (by repeat constructor)) ?_
  rintro a0 c0 rfl hc0 hm0
  refine con_of Tryz.func56 rfl (dd rfl) fun w0 O0 => ?_
  refine c_seq ?_
  refine c_region ?_
  refine o_val (v_assign rfl) (dd rfl) ?_
  refine o_nil ?_
  refine c_seq ?_
  refine c_region ?_
  refine o_val (v_assign rfl) (dd rfl) ?_
  refine o_nil ?_
  refine c_seq ?_
  refine c_seq ?_
  refine c_env (env' := [(0, _), (1, _), (2, _), (3, _), (8, _), (9, _)]) (by repeat (first | exact trivial | refine ⟨rfl, ?_⟩)) ?_
  refine c_joinb (d := 21) (decide (s.2 = true ∨ is = false ∨ many < 1)) ?_ ?_
  rotate_left
  · intro J
    refine c_region ?_
    refine o_val (v_move rfl) (dd rfl) ?_
    refine o_val (v_nilCheck rfl) (dd rfl) ?_
    refine o_val (v_fieldAddrC 1 Tryz.underlying92 rfl ti4 (by decide) rfl) (dd rfl) ?_
    refine o_val (v_load lone4 rfl (hX (by repeat constructor)) rfl) (dd rfl) ?_
    refine o_val (v_move rfl) (dd rfl) ?_
    first | refine o_guard_f rfl rfl (fun g14 => ?_) (fun g14 => ?_) | refine o_guard rfl rfl (fun g14 => ?_) (fun g14 => ?_)
    · refine o_val (v_move rfl) (dd rfl) ?_
      refine o_on rfl rfl ?_
      refine o_val (v_not rfl) (dd rfl) ?_
      refine o_val (v_pick_f rfl rfl) (dd rfl) ?_
      refine o_val (v_move rfl) (dd rfl) ?_
      first | refine o_guard_f rfl rfl (fun g18 => ?_) (fun g18 => ?_) | refine o_guard rfl rfl (fun g18 => ?_) (fun g18 => ?_)
      · refine o_val (v_move rfl) (dd rfl) ?_
        refine o_on rfl rfl ?_
        refine o_val (v_lt rfl rfl) (dd rfl) ?_
        refine o_val (v_pick_f rfl rfl) (dd rfl) ?_
        refine o_nil ?_
        exact c_use J ⟨Env.as rfl (congrArg Value.bool (by first | rfl | (simp_all; done) | (simp_all; omega) | (simp; omega))), (by repeat (first | exact trivial | refine ⟨rfl, ?_⟩))⟩ (by first | exact Ent.refl _ | exact eX (by repeat constructor))
      · refine o_off rfl rfl rfl (dd rfl) ?_
        refine o_off rfl rfl rfl (dd rfl) ?_
        refine o_val (v_pick_t rfl rfl) (dd rfl) ?_
        refine o_nil ?_
        exact c_use J ⟨Env.as rfl (congrArg Value.bool (by first | rfl | (simp_all; done) | (simp_all; omega) | (simp; omega))), (by repeat (first | exact trivial | refine ⟨rfl, ?_⟩))⟩ (by first | exact Ent.refl _ | exact eX (by repeat constructor))
    · refine o_off rfl rfl rfl (dd rfl) ?_
      refine o_off rfl rfl rfl (dd rfl) ?_
      refine o_val (v_pick_t rfl rfl) (dd rfl) ?_
      refine o_val (v_move rfl) (dd rfl) ?_
      refine o_off rfl rfl rfl (dd rfl) ?_
      refine o_off rfl rfl rfl (dd rfl) ?_
      refine o_val (v_pick_t rfl rfl) (dd rfl) ?_
      refine o_nil ?_
      exact c_use J ⟨Env.as rfl (congrArg Value.bool (by first | rfl | (simp_all; done) | (simp_all; omega) | (simp; omega))), (by repeat (first | exact trivial | refine ⟨rfl, ?_⟩))⟩ (by first | exact Ent.refl _ | exact eX (by repeat constructor))
  refine c_cond_p rfl (fun hb => ?_) (fun hb => ?_)
  · unfold goS
    rw [if_pos hb, if_pos hb]
    refine c_seq ?_
    refine c_region ?_
    refine o_val (v_move rfl) (dd rfl) ?_
    refine o_val (v_nilCheck rfl) (dd rfl) ?_
    refine o_val (v_fieldAddrC 1 Tryz.underlying92 rfl ti4 (by decide) rfl) (dd rfl) ?_
    refine o_step (s_store1 ti4 rfl rfl (by first | exact OneC.lit rfl | exact OneC.sl (hX (by repeat constructor)) ) (pB (by repeat constructor)) (by first | decide | exact Nat.le_of_ble_eq_true rfl | simp) (by first | (dsimp only [List.set_cons_succ, List.set_cons_zero]; first | done | exact rfl) | rfl) (?_))
    refine o_nil ?_
    refine c_seq ?_
    refine c_region ?_
    refine o_val (v_move rfl) (dd rfl) ?_
    refine o_val (v_assign rfl) (dd rfl) ?_
    refine o_nil ?_
    refine c_ret1 Tryz.func56 rfl rfl fun w O hS => ?_
    exact ⟨_, rfl, trivial, Ent.get hS (eX (by repeat constructor))⟩
  · have h2 : s.2 = false := by cases q : s.2 with | false => rfl | true => exact absurd (.inl q) hb
    unfold goS
    rw [if_neg hb, if_neg hb, h2]
    refine c_skip ?_
    refine c_seq ?_
    refine c_region ?_
    refine o_val (v_move rfl) (dd rfl) ?_
    refine o_val (v_move rfl) (dd rfl) ?_
    refine o_val (v_nilCheck rfl) (dd rfl) ?_
    refine o_val (v_fieldAddrC 0 Tryz.underlying92 rfl ti25 (by decide) rfl) (dd rfl) ?_
    refine o_val (v_load lone25 rfl (hX (by repeat constructor)) rfl) (dd rfl) ?_
    refine o_val (v_move rfl) (dd rfl) ?_
    refine o_step (s_slice Tryz.underlying25 ti5 rfl (pX (by repeat constructor)) rfl (.inr ⟨_, _, _, rfl, rfl, by omega, rfl⟩) (.inl ⟨rfl, rfl⟩) (by omega) (by omega) (dd rfl) fun z => ?_)
    refine o_val (v_nilCheck rfl) (dd rfl) ?_
    refine o_val (v_fieldAddrC 0 Tryz.underlying92 rfl ti25 (by decide) rfl) (dd rfl) ?_
    refine o_step (s_store1 ti25 rfl rfl (by first | exact OneC.lit rfl | exact OneC.sl (hX (by repeat constructor)) ) (pB (by repeat constructor)) (by first | decide | exact Nat.le_of_ble_eq_true rfl | simp) (by first | (dsimp only [List.set_cons_succ, List.set_cons_zero]; first | done | exact rfl) | rfl) (?_))
    refine o_nil ?_
    refine c_seq ?_
    refine c_region ?_
    refine o_val (v_move rfl) (dd rfl) ?_
    refine o_val (v_assign rfl) (dd rfl) ?_
    refine o_nil ?_
    refine c_ret1 Tryz.func56 rfl rfl fun w O hS => ?_
    exact ⟨z, rfl, trivial, by
      have e : (s.1.take s.1.length).drop many.toNat = s.1.drop many.toNat := by rw [List.take_length]
      rw [e] at hS
      exact Ent.get hS (eX (by repeat constructor))⟩
theorem nm_cases (e : UInt8) (s : St9) : (num9 e s = none ∧ nm9 e s = (0, 0)) ∨ ∃ n m, num9 e s = some (n, m) ∧ nm9 e s = (n, m) ∧ 0 < m ∧ m ≤ s.1.length ∧ -100000000000000 < n ∧ n < 100000000000000 ∧ s.2 = false := by
  unfold nm9
  cases h : num9 e s with
  | none => exact .inl ⟨rfl, rfl⟩
  | some p =>
    obtain ⟨n, m⟩ := p
    exact .inr ⟨n, m, rfl, rfl, num9_bound h⟩
theorem num_as (s : St9) : takeNum s = (goS (nm9 59 s).2 (decide (-1099511627776 ≤ (nm9 59 s).1 ∧ (nm9 59 s).1 ≤ 1099511627776)) s, if s.2 = true ∨ decide (-1099511627776 ≤ (nm9 59 s).1 ∧ (nm9 59 s).1 ≤ 1099511627776) = false ∨ ((nm9 59 s).2 : Int) < 1 then 0 else (nm9 59 s).1) := by
  unfold takeNum goS
  rcases nm_cases 59 s with ⟨h1, h2⟩ | ⟨n, m, h1, h2, hm, _, _, _, hs⟩
  · rw [h1, h2, if_pos (.inr (.inr (by decide))), if_pos (.inr (.inr (by decide)))]
  · rw [h1, h2, hs]
    dsimp only
    unfold far9
    by_cases hf : -1099511627776 ≤ n ∧ n ≤ 1099511627776
    · have hn : ¬ (false = true ∨ decide (-1099511627776 ≤ n ∧ n ≤ 1099511627776) = false ∨ (m : Int) < 1) := by rintro (q | q | q); cases q; rw [decide_eq_true hf] at q; cases q; omega
      rw [if_pos hf, if_neg hn, if_neg hn, Int.toNat_natCast]
    · have hn : false = true ∨ decide (-1099511627776 ≤ n ∧ n ≤ 1099511627776) = false ∨ (m : Int) < 1 := .inr (.inl (decide_eq_false hf))
      rw [if_neg hf, if_pos hn, if_pos hn]
theorem flag_as (s : St9) : takeFlag s = (goS (nm9 59 s).2 (decide ((nm9 59 s).1 = 0 ∨ (nm9 59 s).1 = 1)) s, if s.2 = true ∨ decide ((nm9 59 s).1 = 0 ∨ (nm9 59 s).1 = 1) = false ∨ ((nm9 59 s).2 : Int) < 1 then false else decide ((nm9 59 s).1 = 1)) := by
  unfold takeFlag goS
  rcases nm_cases 59 s with ⟨h1, h2⟩ | ⟨n, m, h1, h2, hm, _, _, _, hs⟩
  · rw [h1, h2, if_pos (.inr (.inr (by decide))), if_pos (.inr (.inr (by decide)))]
  · rw [h1, h2, hs]
    dsimp only
    by_cases hf : n = 0 ∨ n = 1
    · have hn : ¬ (false = true ∨ decide (n = 0 ∨ n = 1) = false ∨ (m : Int) < 1) := by rintro (q | q | q); cases q; rw [decide_eq_true hf] at q; cases q; omega
      rw [if_pos hf, if_neg hn, if_neg hn, Int.toNat_natCast]
    · have hn : false = true ∨ decide (n = 0 ∨ n = 1) = false ∨ (m : Int) < 1 := .inr (.inl (decide_eq_false hf))
      rw [if_neg hf, if_pos hn, if_pos hn]
theorem nm_le (e : UInt8) (s : St9) : ((nm9 e s).2 : Int) ≤ s.1.length ∧ -100000000000000 < (nm9 e s).1 ∧ (nm9 e s).1 < 100000000000000 := by
  rcases nm_cases e s with ⟨_, h2⟩ | ⟨n, m, _, h2, _, h3, h4, h5, _⟩
  · rw [h2]; exact ⟨by simp, by decide, by decide⟩
  · rw [h2]; exact ⟨by dsimp only; omega, h4, h5⟩
set_option maxRecDepth 100000 in
theorem inNum_con (i : Nat) (bv : Value) (s : St9) (te : TypeId) (pe : Value) : Con Tryz.prog 14 [ptr i] [Blk i 92 [bv, .bool s.2], Sl eByte bv s.1, G1 te pe, G3] (γ := Value) (fun _ => .int .i64 (takeNum s).2) (fun _ => True) (fun g => [Blk i 92 [g, .bool (takeNum s).1.2], Sl eByte g (takeNum s).1.1]) := by
  have hN := number_con i bv s 59 te pe
  have hle := nm_le 59 s
  have has := num_as s
  obtain ⟨n, m, hnm⟩ : ∃ n m, nm9 59 s = (n, m) := ⟨_, _, rfl⟩
  rw [hnm] at hN hle has
  rw [has]
  dsimp only at hN hle ⊢
  have hG := fun is => goesI_con i bv s m is n hle.1
  refine con_of Tryz.func14 rfl (dd rfl) fun w0 O0 => ?_
  refine c_seq ?_
  refine c_region ?_
  refine o_val (v_assign rfl) (dd rfl) ?_
  refine o_nil ?_
  refine c_seq ?_
  refine c_region ?_
  refine o_val (v_move rfl) (dd rfl) ?_
  refine o_step (s_callf_keep cl53 (hN) rfl (dd rfl) (rX (by repeat constructor)) (fun _ => sX) (fun _ _ => ?_))
  refine o_val (v_move rfl) (dd rfl) ?_
  refine o_val (v_extract rfl rfl) (dd rfl) ?_
  refine o_val (v_extract rfl rfl) (dd rfl) ?_
  refine o_val (v_assign rfl) (dd rfl) ?_
  refine o_val (v_assign rfl) (dd rfl) ?_
  refine o_nil ?_
  refine c_seq ?_
  refine c_region ?_
  refine o_val (v_move rfl) (dd rfl) ?_
  refine o_val (v_move rfl) (dd rfl) ?_
  refine o_val (v_move rfl) (dd rfl) ?_
  refine o_val (v_ge rfl rfl) (dd rfl) ?_
  refine o_val (v_move rfl) (dd rfl) ?_
  refine o_guard_t rfl rfl (fun h1 => ?_) (fun h1 => ?_)
  · have hd : decide (-1099511627776 ≤ n ∧ n ≤ 1099511627776) = decide (n ≤ 1099511627776) := decide_eq_decide.2 ⟨fun h => h.2, fun h => ⟨by omega, h⟩⟩
    rw [hd]
    refine o_val (v_move rfl) (dd rfl) ?_
    refine o_on rfl rfl ?_
    refine o_val (v_le rfl rfl) (dd rfl) ?_
    refine o_val (v_pick_t rfl rfl) (dd rfl) ?_
    refine o_val (v_move rfl) (dd rfl) ?_
    refine o_step (s_callf cl54 (hG (decide (n ≤ 1099511627776))) rfl (dd rfl) (pXs (by repeat constructor)) fun g _ => ?_)
    refine o_val (v_assign rfl) (dd rfl) ?_
    refine o_nil ?_
    refine c_ret1 Tryz.func14 rfl rfl fun w O hS => ?_
    exact ⟨g, rfl, trivial, Ent.get hS (eX (by repeat constructor))⟩
  · have hd : decide (-1099511627776 ≤ n ∧ n ≤ 1099511627776) = false := decide_eq_false (by omega)
    rw [hd]
    refine o_off rfl rfl rfl (dd rfl) ?_
    refine o_off rfl rfl rfl (dd rfl) ?_
    refine o_val (v_pick_f rfl rfl) (dd rfl) ?_
    refine o_val (v_move rfl) (dd rfl) ?_
    refine o_step (s_callf cl54 (hG false) rfl (dd rfl) (pXs (by repeat constructor)) fun g _ => ?_)
    refine o_val (v_assign rfl) (dd rfl) ?_
    refine o_nil ?_
    refine c_ret1 Tryz.func14 rfl rfl fun w O hS => ?_
    exact ⟨g, rfl, trivial, Ent.get hS (eX (by repeat constructor))⟩
set_option maxRecDepth 100000 in
theorem inFlag_con (i : Nat) (bv : Value) (s : St9) (te : TypeId) (pe : Value) : Con Tryz.prog 15 [ptr i] [Blk i 92 [bv, .bool s.2], Sl eByte bv s.1, G1 te pe, G3] (γ := Value) (fun _ => .bool (takeFlag s).2) (fun _ => True) (fun g => [Blk i 92 [g, .bool (takeFlag s).1.2], Sl eByte g (takeFlag s).1.1]) := by
  have hN := number_con i bv s 59 te pe
  have hle := nm_le 59 s
  have has := flag_as s
  obtain ⟨n, m, hnm⟩ : ∃ n m, nm9 59 s = (n, m) := ⟨_, _, rfl⟩
  rw [hnm] at hN hle has
  rw [has]
  dsimp only at hN hle ⊢
  have hG := fun is => goesB_con i bv s m is (decide (n = 1)) hle.1
  refine con_of Tryz.func15 rfl (dd rfl) fun w0 O0 => ?_
  refine c_seq ?_
  refine c_region ?_
  refine o_val (v_assign rfl) (dd rfl) ?_
  refine o_nil ?_
  refine c_seq ?_
  refine c_region ?_
  refine o_val (v_move rfl) (dd rfl) ?_
  refine o_step (s_callf_keep cl53 (hN) rfl (dd rfl) (rX (by repeat constructor)) (fun _ => sX) (fun _ _ => ?_))
  refine o_val (v_move rfl) (dd rfl) ?_
  refine o_val (v_extract rfl rfl) (dd rfl) ?_
  refine o_val (v_extract rfl rfl) (dd rfl) ?_
  refine o_val (v_assign rfl) (dd rfl) ?_
  refine o_val (v_assign rfl) (dd rfl) ?_
  refine o_nil ?_
  refine c_seq ?_
  refine c_region ?_
  refine o_val (v_move rfl) (dd rfl) ?_
  refine o_val (v_move rfl) (dd rfl) ?_
  refine o_val (v_move rfl) (dd rfl) ?_
  refine o_val (v_eq rfl rfl) (dd rfl) ?_
  refine o_val (v_move rfl) (dd rfl) ?_
  refine o_guard_f rfl rfl (fun h1 => ?_) (fun h1 => ?_)
  · have hd : decide (n = 0 ∨ n = 1) = decide (n = 1) := decide_eq_decide.2 ⟨fun h => h.resolve_left h1, .inr⟩
    rw [hd]
    refine o_val (v_move rfl) (dd rfl) ?_
    refine o_on rfl rfl ?_
    refine o_val (v_eq rfl rfl) (dd rfl) ?_
    refine o_val (v_pick_f rfl rfl) (dd rfl) ?_
    refine o_val (v_move rfl) (dd rfl) ?_
    refine o_val (v_eq rfl rfl) (dd rfl) ?_
    refine o_step (s_callf cl55 (hG (decide (n = 1))) rfl (dd rfl) (pXs (by repeat constructor)) fun g _ => ?_)
    refine o_val (v_assign rfl) (dd rfl) ?_
    refine o_nil ?_
    refine c_ret1 Tryz.func15 rfl rfl fun w O hS => ?_
    exact ⟨g, rfl, trivial, Ent.get hS (eX (by repeat constructor))⟩
  · have hd : decide (n = 0 ∨ n = 1) = true := decide_eq_true (.inl (by omega))
    rw [hd]
    refine o_off rfl rfl rfl (dd rfl) ?_
    refine o_off rfl rfl rfl (dd rfl) ?_
    refine o_val (v_pick_t rfl rfl) (dd rfl) ?_
    refine o_val (v_move rfl) (dd rfl) ?_
    refine o_val (v_eq rfl rfl) (dd rfl) ?_
    refine o_step (s_callf cl55 (hG true) rfl (dd rfl) (pXs (by repeat constructor)) fun g _ => ?_)
    refine o_val (v_assign rfl) (dd rfl) ?_
    refine o_nil ?_
    refine c_ret1 Tryz.func15 rfl rfl fun w O hS => ?_
    exact ⟨g, rfl, trivial, Ent.get hS (eX (by repeat constructor))⟩
theorem text_bad {most : Int} {s : St9} {n : Int} {m : Nat} (hnm : nm9 58 s = (n, m)) (h : (m : Int) < 1 ∨ n < 0 ∨ most < n ∨ (s.1.length : Int) - m ≤ n) : takeText most s = (spoil9 s, ⟨#[]⟩) := by
  unfold takeText
  rcases nm_cases 58 s with ⟨h1, _⟩ | ⟨n', m', h1, h2, hm, _⟩
  · rw [h1]
  · rw [hnm] at h2
    cases h2
    rw [h1]
    dsimp only
    rw [if_neg (by omega)]
theorem text_good {most : Int} {s : St9} {n : Int} {m : Nat} (hnm : nm9 58 s = (n, m)) (h : ¬ ((m : Int) < 1 ∨ n < 0 ∨ most < n ∨ (s.1.length : Int) - m ≤ n)) {b : UInt8} (hb : s.1[m + n.toNat]? = some b) :
    takeText most s = (goS ((m : Int) + n + 1) (decide ((b.toNat : Int) = 44)) s, if s.2 = true ∨ decide ((b.toNat : Int) = 44) = false ∨ (m : Int) + n + 1 < 1 then ⟨#[]⟩ else sB ((s.1.take ((m : Int) + n).toNat).drop m)) := by
  unfold takeText goS
  rcases nm_cases 58 s with ⟨_, h2⟩ | ⟨n', m', h1, h2, hm, _, _, _, hs⟩
  · rw [hnm] at h2
    cases h2
    exact absurd (.inl (by decide)) h
  · rw [hnm] at h2
    cases h2
    rw [h1, hs]
    dsimp only
    have e1 : ((m : Int) + n + 1).toNat = m + n.toNat + 1 := by omega
    have e2 : ((m : Int) + n).toNat = m + n.toNat := by omega
    by_cases h44 : b = 44
    · have hd : decide ((b.toNat : Int) = 44) = true := decide_eq_true (by rw [h44]; rfl)
      have hn : ¬ (false = true ∨ true = false ∨ (m : Int) + n + 1 < 1) := by rintro (q | q | q); cases q; cases q; omega
      rw [hd, if_neg hn, if_neg hn, if_pos ⟨by omega, by omega, by omega, by rw [hb, h44]⟩, e1, e2]
      congr 1
      show sB ((s.1.drop m).take n.toNat) = sB _
      congr 1
      rw [List.drop_take, show m + n.toNat - m = n.toNat by omega]
    · have hd : decide ((b.toNat : Int) = 44) = false := decide_eq_false fun q => h44 (UInt8.toNat_inj.1 (Int.ofNat.inj q))
      have hn : false = true ∨ false = false ∨ (m : Int) + n + 1 < 1 := .inr (.inl rfl)
      rw [hd, if_pos hn, if_pos hn, if_neg (fun q => h44 (by have := q.2.2.2; rw [hb] at this; exact Option.some.inj this))]
set_option maxRecDepth 100000 in
theorem inText_con (i : Nat) (bv : Value) (s : St9) (most : Int) (te : TypeId) (pe : Value) : Con Tryz.prog 16 [ptr i, .int .i64 most] [Blk i 92 [bv, .bool s.2], Sl eByte bv s.1, G1 te pe, G3] (γ := Value) (fun _ => .string (takeText most s).2) (fun _ => True) (fun g => [Blk i 92 [g, .bool (takeText most s).1.2], Sl eByte g (takeText most s).1.1]) := by
  refine Con.form (v := bv) (xs := s.1) (hX (by repeat constructor)) ?_
  rintro a0 c0 rfl hc0 hm0
  have hmx : c0 ≤ 9223372036854775807 := hm0
  have hN := number_con i (.slice a0 s.1.length c0) s 58 te pe
  have hle := nm_le 58 s
  obtain ⟨n, m, hnm⟩ : ∃ n m, nm9 58 s = (n, m) := ⟨_, _, rfl⟩
  rw [hnm] at hN hle
  dsimp only at hN hle ⊢
  have hG := fun is many x h => goesS_con i (.slice a0 s.1.length c0) s many is x h
  refine con_of Tryz.func16 rfl (dd rfl) fun w0 O0 => ?_
  refine c_seq ?_
  refine c_region ?_
  refine o_val (v_assign rfl) (dd rfl) ?_
  refine o_nil ?_
  refine c_seq ?_
  refine c_region ?_
  refine o_val (v_move rfl) (dd rfl) ?_
  refine o_step (s_callf_keep cl53 (hN) rfl (dd rfl) (rX (by repeat constructor)) (fun _ => sX) (fun _ _ => ?_))
  refine o_val (v_move rfl) (dd rfl) ?_
  refine o_val (v_extract rfl rfl) (dd rfl) ?_
  refine o_val (v_extract rfl rfl) (dd rfl) ?_
  refine o_val (v_assign rfl) (dd rfl) ?_
  refine o_val (v_assign rfl) (dd rfl) ?_
  refine o_nil ?_
  refine c_seq ?_
  refine c_seq ?_
  refine c_env (env' := [(0, _), (1, _), (4, _), (5, _), (6, _)]) (by repeat (first | exact trivial | refine ⟨rfl, ?_⟩)) ?_
  refine c_joinb (d := 34) (decide ((m : Int) < 1 ∨ n < 0 ∨ most < n ∨ (s.1.length : Int) - m ≤ n)) ?_ ?_
  rotate_left
  · intro J
    refine c_region ?_
    refine o_val (v_move rfl) (dd rfl) ?_
    refine o_val (v_lt rfl rfl) (dd rfl) ?_
    refine o_val (v_move rfl) (dd rfl) ?_
    first | refine o_guard_f rfl rfl (fun g15 => ?_) (fun g15 => ?_) | refine o_guard rfl rfl (fun g15 => ?_) (fun g15 => ?_)
    · refine o_val (v_move rfl) (dd rfl) ?_
      refine o_on rfl rfl ?_
      refine o_val (v_lt rfl rfl) (dd rfl) ?_
      refine o_val (v_pick_f rfl rfl) (dd rfl) ?_
      refine o_val (v_move rfl) (dd rfl) ?_
      first | refine o_guard_f rfl rfl (fun g19 => ?_) (fun g19 => ?_) | refine o_guard rfl rfl (fun g19 => ?_) (fun g19 => ?_)
      · refine o_val (v_move rfl) (dd rfl) ?_
        refine o_on rfl rfl ?_
        refine o_val (v_move rfl) (dd rfl) ?_
        refine o_on rfl rfl ?_
        refine o_val (v_gt rfl rfl) (dd rfl) ?_
        refine o_val (v_pick_f rfl rfl) (dd rfl) ?_
        refine o_val (v_move rfl) (dd rfl) ?_
        first | refine o_guard_f rfl rfl (fun g24 => ?_) (fun g24 => ?_) | refine o_guard rfl rfl (fun g24 => ?_) (fun g24 => ?_)
        · refine o_val (v_move rfl) (dd rfl) ?_
          refine o_on rfl rfl ?_
          refine o_val (v_move rfl) (dd rfl) ?_
          refine o_on rfl rfl ?_
          refine o_val (v_nilCheck rfl) (dd rfl) ?_
          refine o_on rfl rfl ?_
          refine o_val (v_fieldAddrC 0 Tryz.underlying92 rfl ti25 (by decide) rfl) (dd rfl) ?_
          refine o_on rfl rfl ?_
          refine o_val (v_load lone25 rfl (hX (by repeat constructor)) rfl) (dd rfl) ?_
          refine o_on rfl rfl ?_
          refine o_val ((by first | exact v_len_form Tryz.underlying25 rfl | exact v_len_sl Tryz.underlying25 rfl (hX (by repeat constructor)))) (dd rfl) ?_
          refine o_on rfl rfl ?_
          refine o_val (v_move rfl) (dd rfl) ?_
          refine o_on rfl rfl ?_
          refine o_val ((by first | exact v_sub64 rfl rfl (by omega) | exact v_sub rfl rfl)) (dd rfl) ?_
          refine o_on rfl rfl ?_
          refine o_val (v_ge rfl rfl) (dd rfl) ?_
          refine o_val (v_pick_f rfl rfl) (dd rfl) ?_
          refine o_nil ?_
          exact c_use J ⟨Env.as rfl (congrArg Value.bool (by first | rfl | exact decide_eq_decide.2 (by omega) | exact (decide_eq_true (by omega)).symm | (simp_all; done) | (simp_all; omega))), (by repeat (first | exact trivial | refine ⟨rfl, ?_⟩))⟩ (by first | exact Ent.refl _ | exact eX (by repeat constructor))
        · refine o_off rfl rfl rfl (dd rfl) ?_
          refine o_off rfl rfl rfl (dd rfl) ?_
          refine o_off rfl rfl rfl (dd rfl) ?_
          refine o_off rfl rfl rfl (dd rfl) ?_
          refine o_off rfl rfl rfl (dd rfl) ?_
          refine o_off rfl rfl rfl (dd rfl) ?_
          refine o_off rfl rfl rfl (dd rfl) ?_
          refine o_off rfl rfl rfl (dd rfl) ?_
          refine o_off rfl rfl rfl (dd rfl) ?_
          refine o_val (v_pick_t rfl rfl) (dd rfl) ?_
          refine o_nil ?_
          exact c_use J ⟨Env.as rfl (congrArg Value.bool (by first | rfl | exact decide_eq_decide.2 (by omega) | exact (decide_eq_true (by omega)).symm | (simp_all; done) | (simp_all; omega))), (by repeat (first | exact trivial | refine ⟨rfl, ?_⟩))⟩ (by first | exact Ent.refl _ | exact eX (by repeat constructor))
      · refine o_off rfl rfl rfl (dd rfl) ?_
        refine o_off rfl rfl rfl (dd rfl) ?_
        refine o_off rfl rfl rfl (dd rfl) ?_
        refine o_val (v_pick_t rfl rfl) (dd rfl) ?_
        refine o_val (v_move rfl) (dd rfl) ?_
        refine o_off rfl rfl rfl (dd rfl) ?_
        refine o_off rfl rfl rfl (dd rfl) ?_
        refine o_off rfl rfl rfl (dd rfl) ?_
        refine o_off rfl rfl rfl (dd rfl) ?_
        refine o_off rfl rfl rfl (dd rfl) ?_
        refine o_off rfl rfl rfl (dd rfl) ?_
        refine o_off rfl rfl rfl (dd rfl) ?_
        refine o_off rfl rfl rfl (dd rfl) ?_
        refine o_off rfl rfl rfl (dd rfl) ?_
        refine o_val (v_pick_t rfl rfl) (dd rfl) ?_
        refine o_nil ?_
        exact c_use J ⟨Env.as rfl (congrArg Value.bool (by first | rfl | exact decide_eq_decide.2 (by omega) | exact (decide_eq_true (by omega)).symm | (simp_all; done) | (simp_all; omega))), (by repeat (first | exact trivial | refine ⟨rfl, ?_⟩))⟩ (by first | exact Ent.refl _ | exact eX (by repeat constructor))
    · refine o_off rfl rfl rfl (dd rfl) ?_
      refine o_off rfl rfl rfl (dd rfl) ?_
      refine o_val (v_pick_t rfl rfl) (dd rfl) ?_
      refine o_val (v_move rfl) (dd rfl) ?_
      refine o_off rfl rfl rfl (dd rfl) ?_
      refine o_off rfl rfl rfl (dd rfl) ?_
      refine o_off rfl rfl rfl (dd rfl) ?_
      refine o_val (v_pick_t rfl rfl) (dd rfl) ?_
      refine o_val (v_move rfl) (dd rfl) ?_
      refine o_off rfl rfl rfl (dd rfl) ?_
      refine o_off rfl rfl rfl (dd rfl) ?_
      refine o_off rfl rfl rfl (dd rfl) ?_
      refine o_off rfl rfl rfl (dd rfl) ?_
      refine o_off rfl rfl rfl (dd rfl) ?_
      refine o_off rfl rfl rfl (dd rfl) ?_
      refine o_off rfl rfl rfl (dd rfl) ?_
      refine o_off rfl rfl rfl (dd rfl) ?_
      refine o_off rfl rfl rfl (dd rfl) ?_
      refine o_val (v_pick_t rfl rfl) (dd rfl) ?_
      refine o_nil ?_
      exact c_use J ⟨Env.as rfl (congrArg Value.bool (by first | rfl | exact decide_eq_decide.2 (by omega) | exact (decide_eq_true (by omega)).symm | (simp_all; done) | (simp_all; omega))), (by repeat (first | exact trivial | refine ⟨rfl, ?_⟩))⟩ (by first | exact Ent.refl _ | exact eX (by repeat constructor))
  refine c_cond_p rfl (fun hb => ?_) (fun hb => ?_)
  · rw [text_bad hnm hb]
    have hg0 : goS 0 false s = spoil9 s := if_pos (.inr (.inl rfl))
    refine c_seq ?_
    refine c_region ?_
    refine o_val (v_move rfl) (dd rfl) ?_
    refine o_step (s_callf cl56 (hG false 0 ⟨#[]⟩ (by omega)) rfl (dd rfl) (pXs (by repeat constructor)) fun g _ => ?_)
    refine o_val (v_assign rfl) (dd rfl) ?_
    refine o_nil ?_
    rw [hg0, if_pos (.inr (.inl rfl))]
    refine c_ret1 Tryz.func16 rfl rfl fun w O hS => ?_
    exact ⟨g, rfl, trivial, Ent.get hS (eX (by repeat constructor))⟩
  · have hk : m + n.toNat < s.1.length := by omega
    have hkn : ((m : Int) + n).toNat = m + n.toNat := by omega
    have hk2 : ((m : Int) + n).toNat < s.1.length := by omega
    have hby : s.1[m + n.toNat]? = some (s.1[((m : Int) + n).toNat]'hk2) := by rw [← hkn]; exact List.getElem?_eq_getElem hk2
    rw [text_good hnm hb hby]
    refine c_skip ?_
    refine c_seq ?_
    refine c_region ?_
    refine o_val (v_move rfl) (dd rfl) ?_
    refine o_val (v_move rfl) (dd rfl) ?_
    refine o_val ((by first | exact v_add64 rfl rfl (by omega) | exact v_add rfl rfl)) (dd rfl) ?_
    refine o_val (v_assign rfl) (dd rfl) ?_
    refine o_nil ?_
    refine c_seq ?_
    refine c_ent (Ent.share (pX (by repeat constructor)) (Sl.isDup eByte (.slice a0 s.1.length c0) s.1) fun _ _ h => Sl.cutV (lo := m) (hi := ((m : Int) + n).toNat) (c := c0) h (by omega) (by omega) (by omega) (Nat.le_refl _)) ?_
    refine c_heldk 19 [BlkR i 92 [.slice a0 s.1.length c0, .bool s.2], Sl eByte (.slice a0 s.1.length c0) s.1, Sl eByte (cutV a0 m ((m : Int) + n).toNat c0 eByte.n) ((s.1.take ((m : Int) + n).toNat).drop m)] rfl ?_
    refine k_take 0 rfl (by kernel_rfl) (by kernel_rfl) (by kernel_rfl) rfl (by kernel_rfl) (v_move rfl) (eX (by repeat constructor)) (dd rfl) ?_
    refine k_take 1 rfl (by kernel_rfl) (by kernel_rfl) (by kernel_rfl) rfl (by kernel_rfl) (v_move rfl) (eX (by repeat constructor)) (dd rfl) ?_
    refine k_take 2 rfl (by kernel_rfl) (by kernel_rfl) (by kernel_rfl) rfl (by kernel_rfl) ((by first | exact v_add64 rfl rfl (by omega) | exact v_add rfl rfl)) (eX (by repeat constructor)) (dd rfl) ?_
    refine k_take 3 rfl (by kernel_rfl) (by kernel_rfl) (by kernel_rfl) rfl (by kernel_rfl) (v_move rfl) (eX (by repeat constructor)) (dd rfl) ?_
    refine k_take 4 rfl (by kernel_rfl) (by kernel_rfl) (by kernel_rfl) rfl (by kernel_rfl) (v_nilCheck rfl) (eX (by repeat constructor)) (dd rfl) ?_
    refine k_take 5 rfl (by kernel_rfl) (by kernel_rfl) (by kernel_rfl) rfl (by kernel_rfl) (v_fieldAddrC 0 Tryz.underlying92 rfl ti25 (by decide) rfl) (eX (by repeat constructor)) (dd rfl) ?_
    refine k_take 6 rfl (by kernel_rfl) (by kernel_rfl) (by kernel_rfl) rfl (by kernel_rfl) (v_load lone25 rfl (hX (by repeat constructor)) rfl) (eX (by repeat constructor)) (dd rfl) ?_
    refine k_take 7 rfl (by kernel_rfl) (by kernel_rfl) (by kernel_rfl) rfl (by kernel_rfl) (v_move rfl) (eX (by repeat constructor)) (dd rfl) ?_
    refine k_take 8 rfl (by kernel_rfl) (by kernel_rfl) (by kernel_rfl) rfl (by kernel_rfl) ((by first | exact v_indexAddrN Tryz.underlying25 ti5 rfl rfl (hX (by repeat constructor)) (by omega) | exact v_indexAddr Tryz.underlying25 ti5 rfl rfl (hX (by repeat constructor)) (by omega))) (eX (by repeat constructor)) (dd rfl) ?_
    refine k_take 9 rfl (by kernel_rfl) (by kernel_rfl) (by kernel_rfl) rfl (by kernel_rfl) (v_load_byte lone5 rfl (by repeat (first | exact Elem.sl (List.getElem?_eq_getElem (by omega)) | exact Elem.own (List.getElem?_eq_getElem (by omega)) | exact Elem.ownO (List.getElem?_eq_getElem (by omega)) | apply Elem.there))) (eX (by repeat constructor)) (dd rfl) ?_
    refine k_take 10 rfl (by kernel_rfl) (by kernel_rfl) (by kernel_rfl) rfl (by kernel_rfl) (v_eq rfl rfl) (eX (by repeat constructor)) (dd rfl) ?_
    refine k_take 11 rfl (by kernel_rfl) (by kernel_rfl) (by kernel_rfl) rfl (by kernel_rfl) (v_move rfl) (eX (by repeat constructor)) (dd rfl) ?_
    refine k_take 12 rfl (by kernel_rfl) (by kernel_rfl) (by kernel_rfl) rfl (by kernel_rfl) (v_nilCheck rfl) (eX (by repeat constructor)) (dd rfl) ?_
    refine k_take 13 rfl (by kernel_rfl) (by kernel_rfl) (by kernel_rfl) rfl (by kernel_rfl) (v_fieldAddrC 0 Tryz.underlying92 rfl ti25 (by decide) rfl) (eX (by repeat constructor)) (dd rfl) ?_
    refine k_take 14 rfl (by kernel_rfl) (by kernel_rfl) (by kernel_rfl) rfl (by kernel_rfl) (v_load lone25 rfl (hX (by repeat constructor)) rfl) (eX (by repeat constructor)) (dd rfl) ?_
    refine k_take 15 rfl (by kernel_rfl) (by kernel_rfl) (by kernel_rfl) rfl (by kernel_rfl) (v_move rfl) (eX (by repeat constructor)) (dd rfl) ?_
    refine k_take 16 rfl (by kernel_rfl) (by kernel_rfl) (by kernel_rfl) rfl (by kernel_rfl) (v_move rfl) (eX (by repeat constructor)) (dd rfl) ?_
    refine k_take 17 rfl (by kernel_rfl) (by kernel_rfl) (by kernel_rfl) rfl (by kernel_rfl) (v_slice Tryz.underlying25 ti5 rfl (.inr ⟨_, _, _, rfl, rfl, by omega, rfl⟩) (.inr ⟨_, _, _, rfl, rfl, by omega, rfl⟩) (.inl ⟨rfl, rfl⟩) (by omega) (by omega) (by omega)) (eX (by repeat constructor)) (dd rfl) ?_
    refine k_one 18 rfl (by kernel_rfl) fun hc_ => (s_val (v_conv_bytes Tryz.underlying25 Tryz.underlying5 Tryz.underlying9 rfl (hX (by repeat constructor))) (dd rfl) (k_on hc_ (eX (by repeat constructor)) ?_))
    refine k_one 19 rfl (by kernel_rfl) fun hc_ => (s_callf cl56 (hG (decide (((s.1[((m : Int) + n).toNat]'hk2).toNat : Int) = 44)) ((m : Int) + n + 1) (sB ((s.1.take ((m : Int) + n).toNat).drop m)) (by omega)) rfl (dd rfl) (pXs (by repeat constructor)) (fun g _ => k_last hc_ (by kernel_rfl) ?_))
    refine k_takeF 20 rfl (by kernel_rfl) (by kernel_rfl) (by kernel_rfl) rfl (v_assign rfl) (.inl (by kernel_rfl)) (dd rfl) ?_
    refine k_done (by kernel_rfl) ?_ _
    refine c_ret1 Tryz.func16 rfl rfl fun w O hS => ?_
    exact ⟨g, rfl, trivial, Ent.get hS (eX (by repeat constructor))⟩
end Go.Proofs.YtmgkeippepeggaaGreatDoor
/- Chapter 09: the document's readers: a number. -/
namespace Go.Proofs.YtmgkeippepeggaaGreatDoor
open Go Go.SL Go.Lib
theorem num9_none {e : UInt8} {l : List UInt8} {b : Bool} (h : l.findIdx? (· == e) = none) : num9 e (l, b) = none := by
  unfold num9
  split
  · rfl
  · rw [numberR_full, h]
theorem num9_bad {e : UInt8} {l : List UInt8} {b : Bool} (h : b = true) : num9 e (l, b) = none := if_pos h
theorem num9_off {e : UInt8} {l : List UInt8} {b : Bool} {k : Nat} (h : l.findIdx? (· == e) = some k) (hk : k = 0 ∨ 14 < k) : num9 e (l, b) = none := by
  unfold num9
  split
  · rfl
  · rw [numberR_full, h]
    exact if_pos hk
theorem num9_at {e : UInt8} {l : List UInt8} {b : Bool} {k : Nat} (hb : ¬ b = true) (h : l.findIdx? (· == e) = some k) (hk : ¬ (k = 0 ∨ 14 < k)) : num9 e (l, b) = (numS (l.take k)).map fun n => (n, k + 1) := by
  unfold num9
  rw [if_neg hb, numberR_full, h]
  exact if_neg hk
theorem sAt_get {B : ByteArray} {k : Nat} (h : k < B.data.toList.length) : sAt B k = ((B.data.toList[k]).toNat : Int) := by
  unfold sAt
  rw [Int.toNat_natCast, List.getD_eq_getElem?_getD, List.getElem?_eq_getElem h]; rfl
theorem extract_left (B : ByteArray) (a k : Nat) : B.extract a k = sB ((leftB B a).take (k - a)) := by
  apply ByteArray.ext
  rw [ByteArray.data_extract]
  apply Array.ext'
  rw [Array.toList_extract]
  show _ = (sB _).data.toList
  rw [sB_list]
  unfold leftB
  rw [List.extract_eq_take_drop]
def inV (B : ByteArray) (k : Nat) (bad : Bool) : Value := .agg #[.string B, .int .i64 k, .bool bad]
attribute [local irreducible] Cfg Kont StepK Val Con Qops Any Sl Own Blk BlkR Rd Pu ExA AllA Has Pick Ent Elem Beside Callable TI Lone OwnO AndA
set_option maxRecDepth 100000 in
theorem upto_con (B : ByteArray) (at0 : Nat) (bad : Bool) (e : UInt8) (hB : B.size ≤ 4611686018427387904) (ha : at0 ≤ B.size) : Con Tryz.prog 91 [inV B at0 bad, .int .u8 e.toNat] [] (γ := Unit)
    (fun _ => .tuple #[.int .i64 (((num9 e (leftB B at0, bad)).map (·.1)).getD 0), .int .i64 (((num9 e (leftB B at0, bad)).map fun p => (at0 + p.2 : Int)).getD 0), .bool (num9 e (leftB B at0, bad)).isSome]) (fun _ => True) (fun _ => []) := by
  unfold inV
  refine con_of Tryz.func91 rfl (dd rfl) fun w0 O0 => ?_
  refine c_seq ?_
  refine c_region ?_
  refine o_step (s_box rfl (dd rfl) (fun b2 => ?_))
  refine o_val (v_assign rfl) (dd rfl) ?_
  refine o_val (v_assign rfl) (dd rfl) ?_
  refine o_val (v_assign rfl) (dd rfl) ?_
  refine o_nil ?_
  refine c_seq ?_
  refine c_region ?_
  refine o_val (v_fieldAddrC 1 Tryz.underlying48 rfl ti3 (by decide) rfl) (dd rfl) ?_
  refine o_val (v_load lone3 rfl (hX (by repeat constructor)) rfl) (dd rfl) ?_
  refine o_val (v_assign rfl) (dd rfl) ?_
  refine o_nil ?_
  refine c_seq ?_
  refine c_block ?_
  refine c_loopR (γ := Nat) [(1, _), (2, _), (4, _), (5, _), (6, _)] (fun k => B.size - k) (fun k => at0 ≤ k ∧ k ≤ B.size ∧ ∀ j (h : j < B.data.toList.length), at0 ≤ j → j < k → B.data.toList[j] ≠ e) (fun k => [(7, .int .i64 k)]) (fun _ => [Blk b2 48 [.string B, .int .i64 at0, .bool bad]]) (at0) (⟨Nat.le_refl _, ha, fun _ _ _ _ => by omega⟩) (by repeat (first | exact trivial | refine ⟨rfl, ?_⟩)) (eX (by repeat constructor)) ?_
  rintro k ⟨hk1, hk2, hk3⟩ IH
  have hbl := ba_len B
  try dsimp only [List.cons_append, List.nil_append]
  refine c_seq ?_
  refine c_seq ?_
  refine c_region ?_
  refine o_val (v_move rfl) (dd rfl) ?_
  refine o_val (v_fieldAddrC 0 Tryz.underlying48 rfl ti9 (by decide) rfl) (dd rfl) ?_
  refine o_val (v_load lone9 rfl (hX (by repeat constructor)) rfl) (dd rfl) ?_
  refine o_val (v_len_str Tryz.underlying9 rfl) (dd rfl) ?_
  refine o_val (v_lt rfl rfl) (dd rfl) ?_
  refine o_val (v_move rfl) (dd rfl) ?_
  refine o_guard rfl rfl (fun g => ?_) (fun g => ?_)
  · have hk' : k < B.size := by have := of_decide_eq_true g; omega
    refine o_val (v_fieldAddrC 0 Tryz.underlying48 rfl ti9 (by decide) rfl) (dd rfl) ?_
    refine o_on rfl rfl ?_
    refine o_val (v_load lone9 rfl (hX (by repeat constructor)) rfl) (dd rfl) ?_
    refine o_on rfl rfl ?_
    refine o_val (v_move rfl) (dd rfl) ?_
    refine o_on rfl rfl ?_
    refine o_val (v_index_str Tryz.underlying9 rfl rfl (by omega)) (dd rfl) ?_
    refine o_on rfl rfl ?_
    refine o_val (v_move rfl) (dd rfl) ?_
    refine o_on rfl rfl ?_
    refine o_val (v_ne rfl rfl) (dd rfl) ?_
    refine o_val (v_pick_t rfl rfl) (dd rfl) ?_
    refine o_nil ?_
    have hsa := sAt_get (B := B) (k := k) (by omega)
    refine c_cond_p rfl (fun hne => ?_) (fun hne => ?_)
    · have hne2 : B.data.toList[k]'(by omega) ≠ e := fun h => hne (by rw [hsa, h])
      refine c_skip ?_
      refine c_block ?_
      refine c_region ?_
      refine o_val (v_move rfl) (dd rfl) ?_
      refine o_val ((by first | exact v_add64 rfl rfl (by omega) | exact v_add rfl rfl)) (dd rfl) ?_
      refine o_val (v_assign rfl) (dd rfl) ?_
      refine o_nil ?_
      refine c_inBlock ?_
      refine c_use (IH (k + 1) (by first | omega | (dsimp only; omega)) (⟨by omega, by omega, fun j h h1 h2 => (Nat.lt_succ_iff_lt_or_eq.1 h2).elim (hk3 j h h1) fun q => by subst q; exact hne2⟩)) (by repeat (first | exact trivial | refine ⟨rfl, ?_⟩)) (eX (by repeat constructor))
    · have heq : B.data.toList[k]'(by omega) = e := by
        have := Classical.not_not.1 hne
        rw [hsa] at this
        exact UInt8.toNat_inj.1 (by omega)
      have hfi := find_left hk1 (by omega) heq hk3
      refine c_exit rfl ?_
      refine c_seq ?_
      refine c_seq ?_
      refine c_env (env' := [(2, _), (4, _), (5, _), (6, _), (7, _)]) (by repeat (first | exact trivial | refine ⟨rfl, ?_⟩)) ?_
      refine c_joinb (d := 48) (decide (bad = true ∨ k = at0 ∨ at0 + 14 < k)) ?_ ?_
      rotate_left
      · intro J
        refine c_region ?_
        refine o_val (v_fieldAddrC 2 Tryz.underlying48 rfl ti4 (by decide) rfl) (dd rfl) ?_
        refine o_val (v_load lone4 rfl (hX (by repeat constructor)) rfl) (dd rfl) ?_
        refine o_val (v_move rfl) (dd rfl) ?_
        first | refine o_guard_f rfl rfl (fun g29 => ?_) (fun g29 => ?_) | refine o_guard rfl rfl (fun g29 => ?_) (fun g29 => ?_)
        · refine o_val (v_move rfl) (dd rfl) ?_
          refine o_on rfl rfl ?_
          refine o_val (v_fieldAddrC 0 Tryz.underlying48 rfl ti9 (by decide) rfl) (dd rfl) ?_
          refine o_on rfl rfl ?_
          refine o_val (v_load lone9 rfl (hX (by repeat constructor)) rfl) (dd rfl) ?_
          refine o_on rfl rfl ?_
          refine o_val (v_len_str Tryz.underlying9 rfl) (dd rfl) ?_
          refine o_on rfl rfl ?_
          refine o_val (v_eq rfl rfl) (dd rfl) ?_
          refine o_val (v_pick_f rfl rfl) (dd rfl) ?_
          refine o_val (v_move rfl) (dd rfl) ?_
          first | refine o_guard_f rfl rfl (fun g36 => ?_) (fun g36 => ?_) | refine o_guard rfl rfl (fun g36 => ?_) (fun g36 => ?_)
          · refine o_val (v_move rfl) (dd rfl) ?_
            refine o_on rfl rfl ?_
            refine o_val (v_fieldAddrC 1 Tryz.underlying48 rfl ti3 (by decide) rfl) (dd rfl) ?_
            refine o_on rfl rfl ?_
            refine o_val (v_load lone3 rfl (hX (by repeat constructor)) rfl) (dd rfl) ?_
            refine o_on rfl rfl ?_
            refine o_val (v_eq rfl rfl) (dd rfl) ?_
            refine o_val (v_pick_f rfl rfl) (dd rfl) ?_
            refine o_val (v_move rfl) (dd rfl) ?_
            first | refine o_guard_f rfl rfl (fun g42 => ?_) (fun g42 => ?_) | refine o_guard rfl rfl (fun g42 => ?_) (fun g42 => ?_)
            · refine o_val (v_move rfl) (dd rfl) ?_
              refine o_on rfl rfl ?_
              refine o_val (v_fieldAddrC 1 Tryz.underlying48 rfl ti3 (by decide) rfl) (dd rfl) ?_
              refine o_on rfl rfl ?_
              refine o_val (v_load lone3 rfl (hX (by repeat constructor)) rfl) (dd rfl) ?_
              refine o_on rfl rfl ?_
              refine o_val ((by first | exact v_add64 rfl rfl (by omega) | exact v_add rfl rfl)) (dd rfl) ?_
              refine o_on rfl rfl ?_
              refine o_val (v_gt rfl rfl) (dd rfl) ?_
              refine o_val (v_pick_f rfl rfl) (dd rfl) ?_
              refine o_nil ?_
              exact c_use J ⟨Env.as rfl (congrArg Value.bool (by clear IH hk3 hfi heq hne hsa; first | rfl | (simp_all; done) | (simp_all; omega) | exact decide_eq_decide.2 ⟨fun h => .inr (.inr (by omega)), fun h => h.elim (fun h => absurd (g29.symm.trans h) (by decide)) fun h => h.elim (fun h => absurd (congrArg Int.ofNat h) g42) fun h => by omega⟩)), (by repeat (first | exact trivial | refine ⟨rfl, ?_⟩))⟩ (by first | exact Ent.refl _ | exact eX (by repeat constructor))
            · refine o_off rfl rfl rfl (dd rfl) ?_
              refine o_off rfl rfl rfl (dd rfl) ?_
              refine o_off rfl rfl rfl (dd rfl) ?_
              refine o_off rfl rfl rfl (dd rfl) ?_
              refine o_off rfl rfl rfl (dd rfl) ?_
              refine o_val (v_pick_t rfl rfl) (dd rfl) ?_
              refine o_nil ?_
              exact c_use J ⟨Env.as rfl (congrArg Value.bool (by clear IH hk3 hfi heq hne hsa; first | rfl | (simp_all; done) | (simp_all; omega) | exact decide_eq_decide.2 ⟨fun h => .inr (.inr (by omega)), fun h => h.elim (fun h => absurd (g29.symm.trans h) (by decide)) fun h => h.elim (fun h => absurd (congrArg Int.ofNat h) g42) fun h => by omega⟩)), (by repeat (first | exact trivial | refine ⟨rfl, ?_⟩))⟩ (by first | exact Ent.refl _ | exact eX (by repeat constructor))
          · refine o_off rfl rfl rfl (dd rfl) ?_
            refine o_off rfl rfl rfl (dd rfl) ?_
            refine o_off rfl rfl rfl (dd rfl) ?_
            refine o_off rfl rfl rfl (dd rfl) ?_
            refine o_val (v_pick_t rfl rfl) (dd rfl) ?_
            refine o_val (v_move rfl) (dd rfl) ?_
            refine o_off rfl rfl rfl (dd rfl) ?_
            refine o_off rfl rfl rfl (dd rfl) ?_
            refine o_off rfl rfl rfl (dd rfl) ?_
            refine o_off rfl rfl rfl (dd rfl) ?_
            refine o_off rfl rfl rfl (dd rfl) ?_
            refine o_val (v_pick_t rfl rfl) (dd rfl) ?_
            refine o_nil ?_
            exact c_use J ⟨Env.as rfl (congrArg Value.bool (by clear IH hk3 hfi heq hne hsa; first | rfl | (simp_all; done) | (simp_all; omega) | exact decide_eq_decide.2 ⟨fun h => .inr (.inr (by omega)), fun h => h.elim (fun h => absurd (g29.symm.trans h) (by decide)) fun h => h.elim (fun h => absurd (congrArg Int.ofNat h) g42) fun h => by omega⟩)), (by repeat (first | exact trivial | refine ⟨rfl, ?_⟩))⟩ (by first | exact Ent.refl _ | exact eX (by repeat constructor))
        · refine o_off rfl rfl rfl (dd rfl) ?_
          refine o_off rfl rfl rfl (dd rfl) ?_
          refine o_off rfl rfl rfl (dd rfl) ?_
          refine o_off rfl rfl rfl (dd rfl) ?_
          refine o_off rfl rfl rfl (dd rfl) ?_
          refine o_val (v_pick_t rfl rfl) (dd rfl) ?_
          refine o_val (v_move rfl) (dd rfl) ?_
          refine o_off rfl rfl rfl (dd rfl) ?_
          refine o_off rfl rfl rfl (dd rfl) ?_
          refine o_off rfl rfl rfl (dd rfl) ?_
          refine o_off rfl rfl rfl (dd rfl) ?_
          refine o_val (v_pick_t rfl rfl) (dd rfl) ?_
          refine o_val (v_move rfl) (dd rfl) ?_
          refine o_off rfl rfl rfl (dd rfl) ?_
          refine o_off rfl rfl rfl (dd rfl) ?_
          refine o_off rfl rfl rfl (dd rfl) ?_
          refine o_off rfl rfl rfl (dd rfl) ?_
          refine o_off rfl rfl rfl (dd rfl) ?_
          refine o_val (v_pick_t rfl rfl) (dd rfl) ?_
          refine o_nil ?_
          exact c_use J ⟨Env.as rfl (congrArg Value.bool (by clear IH hk3 hfi heq hne hsa; first | rfl | (simp_all; done) | (simp_all; omega) | exact decide_eq_decide.2 ⟨fun h => .inr (.inr (by omega)), fun h => h.elim (fun h => absurd (g29.symm.trans h) (by decide)) fun h => h.elim (fun h => absurd (congrArg Int.ofNat h) g42) fun h => by omega⟩)), (by repeat (first | exact trivial | refine ⟨rfl, ?_⟩))⟩ (by first | exact Ent.refl _ | exact eX (by repeat constructor))
      refine c_cond_p rfl (fun hp => ?_) (fun hp => ?_)
      · have hno : num9 e (leftB B at0, bad) = none := hp.elim num9_bad fun h => num9_off hfi (by omega)
        refine c_seq ?_
        refine c_region ?_
        refine o_val (v_assign rfl) (dd rfl) ?_
        refine o_val (v_assign rfl) (dd rfl) ?_
        refine o_val (v_assign rfl) (dd rfl) ?_
        refine o_nil ?_
        refine c_ret3 Tryz.func91 rfl rfl rfl rfl fun w O hS => ?_
        exact ⟨(), by rw [hno]; rfl, trivial, trivial⟩
      · have hat := num9_at (fun h => hp (.inl h)) hfi (by omega)
        have hTl : ((leftB B at0).take (k - at0)).length = k - at0 := by rw [List.length_take, leftB_len]; omega
        refine c_skip ?_
        refine c_seq ?_
        refine c_region ?_
        refine o_val (v_assign rfl) (dd rfl) ?_
        refine o_nil ?_
        refine c_seq ?_
        refine c_seq ?_
        refine c_region ?_
        refine o_val (v_fieldAddrC 1 Tryz.underlying48 rfl ti3 (by decide) rfl) (dd rfl) ?_
        refine o_val (v_load lone3 rfl (hX (by repeat constructor)) rfl) (dd rfl) ?_
        refine o_val (v_assign rfl) (dd rfl) ?_
        refine o_nil ?_
        refine c_block ?_
        refine c_loopR (γ := Nat × Int) [(2, _), (4, _), (5, _), (6, _), (7, _)] (fun g => k - g.1) (fun g => at0 ≤ g.1 ∧ g.1 ≤ k ∧ g.2 = valR ((leftB B at0).take (g.1 - at0))) (fun g => [(9, .int .i64 g.1), (8, .int .i64 g.2)]) (fun _ => [Blk b2 48 [.string B, .int .i64 at0, .bool bad]]) ((at0, 0)) (⟨Nat.le_refl _, hk1, by simp [valR]⟩) (by repeat (first | exact trivial | refine ⟨rfl, ?_⟩)) (eX (by repeat constructor)) ?_
        rintro ⟨j, n⟩ ⟨hj1, hj2, hn⟩ IH2
        dsimp only at hj1 hj2 hn ⊢
        try dsimp only [List.cons_append, List.nil_append]
        refine c_seq ?_
        refine c_seq ?_
        refine c_region ?_
        refine o_val (v_move rfl) (dd rfl) ?_
        refine o_val (v_move rfl) (dd rfl) ?_
        refine o_val (v_lt rfl rfl) (dd rfl) ?_
        refine o_nil ?_
        refine c_cond_p rfl (fun hlj => ?_) (fun hlj => ?_)
        · have hjk : j < k := by omega
          have hsj := sAt_get (B := B) (k := j) (by omega)
          have hgj := leftB_get (B := B) (a := at0) (j := j - at0) (by omega)
          refine c_skip ?_
          refine c_seq ?_
          refine c_block ?_
          refine c_seq ?_
          have htk : (leftB B at0).take (j + 1 - at0) = (leftB B at0).take (j - at0 + 1) := by rw [show j + 1 - at0 = j - at0 + 1 by omega]
          have hjl : j - at0 < (leftB B at0).length := by rw [leftB_len]; omega
          have hnx := valR_next hjl
          have hbd := val_small (s := (leftB B at0).take (j - at0)) (by rw [List.length_take]; omega)
          rw [← hn] at hbd hnx
          have hsl : sAt B j = (((leftB B at0)[j - at0]'hjl).toNat : Int) := by
            have hix : at0 + (j - at0) = j := by omega
            rw [List.getElem?_eq_getElem hjl] at hgj
            have hgi := Option.some.inj hgj
            rw [hsj, hgi]
            simp only [hix]
          have hc256 := UInt8.toNat_lt ((leftB B at0)[j - at0]'hjl)
          refine c_env (env' := [(2, _), (4, _), (5, _), (6, _), (7, _), (8, _), (9, _), (51, _), (52, _), (53, _)]) (by repeat (first | exact trivial | refine ⟨rfl, ?_⟩)) ?_
          refine c_joinb (d := 67) (decide (48 ≤ ((leftB B at0)[j - at0]'hjl).toNat ∧ ((leftB B at0)[j - at0]'hjl).toNat ≤ 57)) ?_ ?_
          rotate_left
          · intro J
            refine c_region ?_
            refine o_val (v_fieldAddrC 0 Tryz.underlying48 rfl ti9 (by decide) rfl) (dd rfl) ?_
            refine o_val (v_load lone9 rfl (hX (by repeat constructor)) rfl) (dd rfl) ?_
            refine o_val (v_move rfl) (dd rfl) ?_
            refine o_val (v_index_str Tryz.underlying9 rfl rfl (by omega)) (dd rfl) ?_
            refine o_val (v_ge rfl rfl) (dd rfl) ?_
            refine o_val (v_move rfl) (dd rfl) ?_
            first | refine o_guard_t rfl rfl (fun g61 => ?_) (fun g61 => ?_) | refine o_guard rfl rfl (fun g61 => ?_) (fun g61 => ?_)
            · refine o_val (v_fieldAddrC 0 Tryz.underlying48 rfl ti9 (by decide) rfl) (dd rfl) ?_
              refine o_on rfl rfl ?_
              refine o_val (v_load lone9 rfl (hX (by repeat constructor)) rfl) (dd rfl) ?_
              refine o_on rfl rfl ?_
              refine o_val (v_move rfl) (dd rfl) ?_
              refine o_on rfl rfl ?_
              refine o_val (v_index_str Tryz.underlying9 rfl rfl (by omega)) (dd rfl) ?_
              refine o_on rfl rfl ?_
              refine o_val (v_le rfl rfl) (dd rfl) ?_
              refine o_val (v_pick_t rfl rfl) (dd rfl) ?_
              refine o_nil ?_
              exact c_use J ⟨Env.as rfl (congrArg Value.bool (by clear IH IH2 hk3 hfi heq hne hsa hat hnx htk hgj hsj; rw [hsl] at *; first | rfl | (simp_all; done) | (simp_all; omega) | exact decide_eq_decide.2 ⟨fun h => ⟨by omega, by omega⟩, fun h => by omega⟩)), (by repeat (first | exact trivial | refine ⟨rfl, ?_⟩))⟩ (by first | exact Ent.refl _ | exact eX (by repeat constructor))
            · refine o_off rfl rfl rfl (dd rfl) ?_
              refine o_off rfl rfl rfl (dd rfl) ?_
              refine o_off rfl rfl rfl (dd rfl) ?_
              refine o_off rfl rfl rfl (dd rfl) ?_
              refine o_off rfl rfl rfl (dd rfl) ?_
              refine o_val (v_pick_f rfl rfl) (dd rfl) ?_
              refine o_nil ?_
              exact c_use J ⟨Env.as rfl (congrArg Value.bool (by clear IH IH2 hk3 hfi heq hne hsa hat hnx htk hgj hsj; rw [hsl] at *; first | rfl | (simp_all; done) | (simp_all; omega) | exact decide_eq_decide.2 ⟨fun h => ⟨by omega, by omega⟩, fun h => by omega⟩)), (by repeat (first | exact trivial | refine ⟨rfl, ?_⟩))⟩ (by first | exact Ent.refl _ | exact eX (by repeat constructor))
          refine c_cond_p rfl (fun hd => ?_) (fun hd => ?_)
          · have hcv : IntKind.i64.wrap (sAt B j) = (((leftB B at0)[j - at0]'hjl).toNat : Int) := by rw [IntKind.wrap_i64, hsl]; omega
            refine c_region ?_
            refine o_val (v_move rfl) (dd rfl) ?_
            refine o_val ((by first | exact v_mul64 rfl rfl (by omega) | exact v_mul rfl rfl)) (dd rfl) ?_
            refine o_val (v_fieldAddrC 0 Tryz.underlying48 rfl ti9 (by decide) rfl) (dd rfl) ?_
            refine o_val (v_load lone9 rfl (hX (by repeat constructor)) rfl) (dd rfl) ?_
            refine o_val (v_move rfl) (dd rfl) ?_
            refine o_val (v_index_str Tryz.underlying9 rfl rfl (by omega)) (dd rfl) ?_
            refine o_val (v_conv_int Tryz.underlying5 Tryz.underlying3 rfl) (dd rfl) ?_
            refine o_val ((by first | exact v_add64 rfl rfl (by omega) | exact v_add rfl rfl)) (dd rfl) ?_
            refine o_val ((by first | exact v_sub64 rfl rfl (by omega) | exact v_sub rfl rfl)) (dd rfl) ?_
            refine o_val (v_assign rfl) (dd rfl) ?_
            refine o_nil ?_
            refine c_inBlock ?_
            refine c_region ?_
            refine o_val (v_move rfl) (dd rfl) ?_
            refine o_val ((by first | exact v_add64 rfl rfl (by omega) | exact v_add rfl rfl)) (dd rfl) ?_
            refine o_val (v_assign rfl) (dd rfl) ?_
            refine o_nil ?_
            rw [hcv]
            refine c_use (IH2 ((j + 1, 10 * n + (((leftB B at0)[j - at0]'hjl).toNat : Int) - 48)) (by first | omega | (dsimp only; omega)) (⟨by dsimp only; omega, by dsimp only; omega, by dsimp only; rw [htk, hnx]; exact (if_pos hd).symm⟩)) (by repeat (first | exact trivial | refine ⟨rfl, ?_⟩)) (eX (by repeat constructor))
          · refine c_skip ?_
            refine c_inBlock ?_
            refine c_region ?_
            refine o_val (v_move rfl) (dd rfl) ?_
            refine o_val ((by first | exact v_add64 rfl rfl (by omega) | exact v_add rfl rfl)) (dd rfl) ?_
            refine o_val (v_assign rfl) (dd rfl) ?_
            refine o_nil ?_
            refine c_use (IH2 ((j + 1, n)) (by first | omega | (dsimp only; omega)) (⟨by dsimp only; omega, by dsimp only; omega, by dsimp only; rw [htk, hnx]; exact (if_neg hd).symm⟩)) (by repeat (first | exact trivial | refine ⟨rfl, ?_⟩)) (eX (by repeat constructor))
        · have hje : j = k := by omega
          subst hje
          have hkl : j - at0 ≠ 0 ∧ ¬ 14 < j - at0 := by omega
          have hbd := val_small (s := (leftB B at0).take (j - at0)) (by omega)
          have hs0 := sAt_get (B := B) (k := at0) (by omega)
          have hhd : ((leftB B at0).take (j - at0)).head? = some (B.data.toList[at0]'(by omega)) := by
            rw [List.head?_take, if_neg hkl.1, List.head?_eq_getElem?]
            exact leftB_get (B := B) (a := at0) (j := 0) (by omega)
          rw [← hn] at hbd
          have hex : B.extract ((at0 : Int).toNat) ((j : Int).toNat) = sB ((leftB B at0).take (j - at0)) := extract_left B at0 j
          refine c_exit rfl ?_
          refine c_seq ?_
          refine c_seq ?_
          refine c_region ?_
          refine o_val (v_fieldAddrC 0 Tryz.underlying48 rfl ti9 (by decide) rfl) (dd rfl) ?_
          refine o_val (v_load lone9 rfl (hX (by repeat constructor)) rfl) (dd rfl) ?_
          refine o_val (v_fieldAddrC 1 Tryz.underlying48 rfl ti3 (by decide) rfl) (dd rfl) ?_
          refine o_val (v_load lone3 rfl (hX (by repeat constructor)) rfl) (dd rfl) ?_
          refine o_val (v_index_str Tryz.underlying9 rfl rfl (by omega)) (dd rfl) ?_
          refine o_val (v_eq rfl rfl) (dd rfl) ?_
          refine o_nil ?_
          refine c_cond_p rfl (fun h45 => ?_) (fun h45 => ?_)
          · have hvS : valS ((leftB B at0).take (j - at0)) = 0 - n := by
              unfold valS
              rw [hhd, if_pos (congrArg some (UInt8.toNat_inj.1 (by rw [hs0] at h45; exact Int.ofNat.inj h45))), hn]
            refine c_region ?_
            refine o_val (v_move rfl) (dd rfl) ?_
            refine o_val ((by first | exact v_sub64 rfl rfl (by omega) | exact v_sub rfl rfl)) (dd rfl) ?_
            refine o_val (v_assign rfl) (dd rfl) ?_
            refine o_nil ?_
            refine c_seq ?_
            refine c_seq ?_
            refine c_held [BlkR b2 48 [.string B, .int .i64 at0, .bool bad]] rfl ?_
            refine a_take 0 rfl (by kernel_rfl) (by kernel_rfl) (by kernel_rfl) (v_move rfl) (eX (by repeat constructor)) (dd rfl) ?_
            refine a_take 2 rfl (by kernel_rfl) (by kernel_rfl) (by kernel_rfl) (v_fieldAddrC 0 Tryz.underlying48 rfl ti9 (by decide) rfl) (eX (by repeat constructor)) (dd rfl) ?_
            refine a_take 3 rfl (by kernel_rfl) (by kernel_rfl) (by kernel_rfl) (v_load lone9 rfl (hX (by repeat constructor)) rfl) (eX (by repeat constructor)) (dd rfl) ?_
            refine a_take 4 rfl (by kernel_rfl) (by kernel_rfl) (by kernel_rfl) (v_fieldAddrC 1 Tryz.underlying48 rfl ti3 (by decide) rfl) (eX (by repeat constructor)) (dd rfl) ?_
            refine a_take 5 rfl (by kernel_rfl) (by kernel_rfl) (by kernel_rfl) (v_load lone3 rfl (hX (by repeat constructor)) rfl) (eX (by repeat constructor)) (dd rfl) ?_
            refine a_take 6 rfl (by kernel_rfl) (by kernel_rfl) (by kernel_rfl) (v_move rfl) (eX (by repeat constructor)) (dd rfl) ?_
            refine a_take 7 rfl (by kernel_rfl) (by kernel_rfl) (by kernel_rfl) (v_cut Tryz.underlying9 rfl rfl rfl (by omega)) (eX (by repeat constructor)) (dd rfl) ?_
            refine a_one 1 rfl (by kernel_rfl) (s_callf_keep cl84 (digits_con (((0 - n)).natAbs + 2) (0 - n) (by split <;> omega) (by omega) (by omega)) rfl (dd rfl) (rX (by repeat constructor)) (fun _ => sX) (fun _ _ => a_on (eX (by repeat constructor)) ?_))
            refine a_take 8 rfl (by kernel_rfl) (by kernel_rfl) (by kernel_rfl) (v_sne rfl rfl) (eX (by repeat constructor)) (dd rfl) ?_
            refine a_done (by kernel_rfl) ?_ _
            rw [hex]
            refine c_cond_p rfl (fun hq => ?_) (fun hq => ?_)
            · have hno : numS ((leftB B at0).take (j - at0)) = none := by
                unfold numS
                rw [hvS, if_neg fun k => hq (by rw [k])]
              refine c_seq ?_
              refine c_region ?_
              refine o_val (v_assign rfl) (dd rfl) ?_
              refine o_val (v_assign rfl) (dd rfl) ?_
              refine o_val (v_assign rfl) (dd rfl) ?_
              refine o_nil ?_
              refine c_ret3 Tryz.func91 rfl rfl rfl rfl fun w O hS => ?_
              exact ⟨(), by rw [hat, hno]; rfl, trivial, trivial⟩
            · have hyes : numS ((leftB B at0).take (j - at0)) = some ((0 - n)) := by
                unfold numS
                rw [hvS, if_pos (sB_inj (Classical.not_not.1 hq))]
              have hki : (at0 : Int) + ((j - at0 + 1 : Nat) : Int) = (j : Int) + 1 := by omega
              refine c_skip ?_
              refine c_seq ?_
              refine c_region ?_
              refine o_val (v_move rfl) (dd rfl) ?_
              refine o_val (v_move rfl) (dd rfl) ?_
              refine o_val ((by first | exact v_add64 rfl rfl (by omega) | exact v_add rfl rfl)) (dd rfl) ?_
              refine o_val (v_assign rfl) (dd rfl) ?_
              refine o_val (v_assign rfl) (dd rfl) ?_
              refine o_val (v_assign rfl) (dd rfl) ?_
              refine o_nil ?_
              refine c_ret3 Tryz.func91 rfl rfl rfl rfl fun w O hS => ?_
              refine ⟨(), ?_, trivial, trivial⟩
              rw [hat, hyes]
              simp only [Option.map_some, Option.getD_some, Option.isSome_some, hki]
          · have hvS : valS ((leftB B at0).take (j - at0)) = n := by
              unfold valS
              rw [hhd, if_neg (fun k => h45 (by rw [hs0, Option.some.inj k]; rfl)), hn]
            refine c_skip ?_
            refine c_seq ?_
            refine c_seq ?_
            refine c_held [BlkR b2 48 [.string B, .int .i64 at0, .bool bad]] rfl ?_
            refine a_take 0 rfl (by kernel_rfl) (by kernel_rfl) (by kernel_rfl) (v_move rfl) (eX (by repeat constructor)) (dd rfl) ?_
            refine a_take 2 rfl (by kernel_rfl) (by kernel_rfl) (by kernel_rfl) (v_fieldAddrC 0 Tryz.underlying48 rfl ti9 (by decide) rfl) (eX (by repeat constructor)) (dd rfl) ?_
            refine a_take 3 rfl (by kernel_rfl) (by kernel_rfl) (by kernel_rfl) (v_load lone9 rfl (hX (by repeat constructor)) rfl) (eX (by repeat constructor)) (dd rfl) ?_
            refine a_take 4 rfl (by kernel_rfl) (by kernel_rfl) (by kernel_rfl) (v_fieldAddrC 1 Tryz.underlying48 rfl ti3 (by decide) rfl) (eX (by repeat constructor)) (dd rfl) ?_
            refine a_take 5 rfl (by kernel_rfl) (by kernel_rfl) (by kernel_rfl) (v_load lone3 rfl (hX (by repeat constructor)) rfl) (eX (by repeat constructor)) (dd rfl) ?_
            refine a_take 6 rfl (by kernel_rfl) (by kernel_rfl) (by kernel_rfl) (v_move rfl) (eX (by repeat constructor)) (dd rfl) ?_
            refine a_take 7 rfl (by kernel_rfl) (by kernel_rfl) (by kernel_rfl) (v_cut Tryz.underlying9 rfl rfl rfl (by omega)) (eX (by repeat constructor)) (dd rfl) ?_
            refine a_one 1 rfl (by kernel_rfl) (s_callf_keep cl84 (digits_con ((n).natAbs + 2) n (by split <;> omega) (by omega) (by omega)) rfl (dd rfl) (rX (by repeat constructor)) (fun _ => sX) (fun _ _ => a_on (eX (by repeat constructor)) ?_))
            refine a_take 8 rfl (by kernel_rfl) (by kernel_rfl) (by kernel_rfl) (v_sne rfl rfl) (eX (by repeat constructor)) (dd rfl) ?_
            refine a_done (by kernel_rfl) ?_ _
            rw [hex]
            refine c_cond_p rfl (fun hq => ?_) (fun hq => ?_)
            · have hno : numS ((leftB B at0).take (j - at0)) = none := by
                unfold numS
                rw [hvS, if_neg fun k => hq (by rw [k])]
              refine c_seq ?_
              refine c_region ?_
              refine o_val (v_assign rfl) (dd rfl) ?_
              refine o_val (v_assign rfl) (dd rfl) ?_
              refine o_val (v_assign rfl) (dd rfl) ?_
              refine o_nil ?_
              refine c_ret3 Tryz.func91 rfl rfl rfl rfl fun w O hS => ?_
              exact ⟨(), by rw [hat, hno]; rfl, trivial, trivial⟩
            · have hyes : numS ((leftB B at0).take (j - at0)) = some (n) := by
                unfold numS
                rw [hvS, if_pos (sB_inj (Classical.not_not.1 hq))]
              have hki : (at0 : Int) + ((j - at0 + 1 : Nat) : Int) = (j : Int) + 1 := by omega
              refine c_skip ?_
              refine c_seq ?_
              refine c_region ?_
              refine o_val (v_move rfl) (dd rfl) ?_
              refine o_val (v_move rfl) (dd rfl) ?_
              refine o_val ((by first | exact v_add64 rfl rfl (by omega) | exact v_add rfl rfl)) (dd rfl) ?_
              refine o_val (v_assign rfl) (dd rfl) ?_
              refine o_val (v_assign rfl) (dd rfl) ?_
              refine o_val (v_assign rfl) (dd rfl) ?_
              refine o_nil ?_
              refine c_ret3 Tryz.func91 rfl rfl rfl rfl fun w O hS => ?_
              refine ⟨(), ?_, trivial, trivial⟩
              rw [hat, hyes]
              simp only [Option.map_some, Option.getD_some, Option.isSome_some, hki]
  · have hke : k = B.size := by have := of_decide_eq_false g; omega
    have hno : num9 e (leftB B at0, bad) = none := num9_none (find_nowhere fun j h h1 => hk3 j h h1 (by omega))
    refine o_off rfl rfl rfl (dd rfl) ?_
    refine o_off rfl rfl rfl (dd rfl) ?_
    refine o_off rfl rfl rfl (dd rfl) ?_
    refine o_off rfl rfl rfl (dd rfl) ?_
    refine o_off rfl rfl rfl (dd rfl) ?_
    refine o_off rfl rfl rfl (dd rfl) ?_
    refine o_val (v_pick_f rfl rfl) (dd rfl) ?_
    refine o_nil ?_
    refine c_cond_f rfl ?_
    refine c_exit rfl ?_
    refine c_seq ?_
    refine c_seq ?_
    refine c_env (env' := [(2, _), (4, _), (5, _), (6, _), (7, _)]) (by repeat (first | exact trivial | refine ⟨rfl, ?_⟩)) ?_
    refine c_joinb (d := 48) (decide (True)) ?_ ?_
    rotate_left
    · intro J
      refine c_region ?_
      refine o_val (v_fieldAddrC 2 Tryz.underlying48 rfl ti4 (by decide) rfl) (dd rfl) ?_
      refine o_val (v_load lone4 rfl (hX (by repeat constructor)) rfl) (dd rfl) ?_
      refine o_val (v_move rfl) (dd rfl) ?_
      first | refine o_guard_f rfl rfl (fun g29 => ?_) (fun g29 => ?_) | refine o_guard rfl rfl (fun g29 => ?_) (fun g29 => ?_)
      · refine o_val (v_move rfl) (dd rfl) ?_
        refine o_on rfl rfl ?_
        refine o_val (v_fieldAddrC 0 Tryz.underlying48 rfl ti9 (by decide) rfl) (dd rfl) ?_
        refine o_on rfl rfl ?_
        refine o_val (v_load lone9 rfl (hX (by repeat constructor)) rfl) (dd rfl) ?_
        refine o_on rfl rfl ?_
        refine o_val (v_len_str Tryz.underlying9 rfl) (dd rfl) ?_
        refine o_on rfl rfl ?_
        refine o_val (v_eq rfl rfl) (dd rfl) ?_
        refine o_val (v_pick_f rfl rfl) (dd rfl) ?_
        refine o_val (v_move rfl) (dd rfl) ?_
        first | refine o_guard_f rfl rfl (fun g36 => ?_) (fun g36 => ?_) | refine o_guard rfl rfl (fun g36 => ?_) (fun g36 => ?_)
        · refine o_val (v_move rfl) (dd rfl) ?_
          refine o_on rfl rfl ?_
          refine o_val (v_fieldAddrC 1 Tryz.underlying48 rfl ti3 (by decide) rfl) (dd rfl) ?_
          refine o_on rfl rfl ?_
          refine o_val (v_load lone3 rfl (hX (by repeat constructor)) rfl) (dd rfl) ?_
          refine o_on rfl rfl ?_
          refine o_val (v_eq rfl rfl) (dd rfl) ?_
          refine o_val (v_pick_f rfl rfl) (dd rfl) ?_
          refine o_val (v_move rfl) (dd rfl) ?_
          first | refine o_guard_f rfl rfl (fun g42 => ?_) (fun g42 => ?_) | refine o_guard rfl rfl (fun g42 => ?_) (fun g42 => ?_)
          · refine o_val (v_move rfl) (dd rfl) ?_
            refine o_on rfl rfl ?_
            refine o_val (v_fieldAddrC 1 Tryz.underlying48 rfl ti3 (by decide) rfl) (dd rfl) ?_
            refine o_on rfl rfl ?_
            refine o_val (v_load lone3 rfl (hX (by repeat constructor)) rfl) (dd rfl) ?_
            refine o_on rfl rfl ?_
            refine o_val ((by first | exact v_add64 rfl rfl (by omega) | exact v_add rfl rfl)) (dd rfl) ?_
            refine o_on rfl rfl ?_
            refine o_val (v_gt rfl rfl) (dd rfl) ?_
            refine o_val (v_pick_f rfl rfl) (dd rfl) ?_
            refine o_nil ?_
            exact c_use J ⟨Env.as rfl (congrArg Value.bool (by first | rfl | (simp_all; done) | (simp_all; omega) | (simp; omega))), (by repeat (first | exact trivial | refine ⟨rfl, ?_⟩))⟩ (by first | exact Ent.refl _ | exact eX (by repeat constructor))
          · refine o_off rfl rfl rfl (dd rfl) ?_
            refine o_off rfl rfl rfl (dd rfl) ?_
            refine o_off rfl rfl rfl (dd rfl) ?_
            refine o_off rfl rfl rfl (dd rfl) ?_
            refine o_off rfl rfl rfl (dd rfl) ?_
            refine o_val (v_pick_t rfl rfl) (dd rfl) ?_
            refine o_nil ?_
            exact c_use J ⟨Env.as rfl (congrArg Value.bool (by first | rfl | (simp_all; done) | (simp_all; omega) | (simp; omega))), (by repeat (first | exact trivial | refine ⟨rfl, ?_⟩))⟩ (by first | exact Ent.refl _ | exact eX (by repeat constructor))
        · refine o_off rfl rfl rfl (dd rfl) ?_
          refine o_off rfl rfl rfl (dd rfl) ?_
          refine o_off rfl rfl rfl (dd rfl) ?_
          refine o_off rfl rfl rfl (dd rfl) ?_
          refine o_val (v_pick_t rfl rfl) (dd rfl) ?_
          refine o_val (v_move rfl) (dd rfl) ?_
          refine o_off rfl rfl rfl (dd rfl) ?_
          refine o_off rfl rfl rfl (dd rfl) ?_
          refine o_off rfl rfl rfl (dd rfl) ?_
          refine o_off rfl rfl rfl (dd rfl) ?_
          refine o_off rfl rfl rfl (dd rfl) ?_
          refine o_val (v_pick_t rfl rfl) (dd rfl) ?_
          refine o_nil ?_
          exact c_use J ⟨Env.as rfl (congrArg Value.bool (by first | rfl | (simp_all; done) | (simp_all; omega) | (simp; omega))), (by repeat (first | exact trivial | refine ⟨rfl, ?_⟩))⟩ (by first | exact Ent.refl _ | exact eX (by repeat constructor))
      · refine o_off rfl rfl rfl (dd rfl) ?_
        refine o_off rfl rfl rfl (dd rfl) ?_
        refine o_off rfl rfl rfl (dd rfl) ?_
        refine o_off rfl rfl rfl (dd rfl) ?_
        refine o_off rfl rfl rfl (dd rfl) ?_
        refine o_val (v_pick_t rfl rfl) (dd rfl) ?_
        refine o_val (v_move rfl) (dd rfl) ?_
        refine o_off rfl rfl rfl (dd rfl) ?_
        refine o_off rfl rfl rfl (dd rfl) ?_
        refine o_off rfl rfl rfl (dd rfl) ?_
        refine o_off rfl rfl rfl (dd rfl) ?_
        refine o_val (v_pick_t rfl rfl) (dd rfl) ?_
        refine o_val (v_move rfl) (dd rfl) ?_
        refine o_off rfl rfl rfl (dd rfl) ?_
        refine o_off rfl rfl rfl (dd rfl) ?_
        refine o_off rfl rfl rfl (dd rfl) ?_
        refine o_off rfl rfl rfl (dd rfl) ?_
        refine o_off rfl rfl rfl (dd rfl) ?_
        refine o_val (v_pick_t rfl rfl) (dd rfl) ?_
        refine o_nil ?_
        exact c_use J ⟨Env.as rfl (congrArg Value.bool (by first | rfl | (simp_all; done) | (simp_all; omega) | (simp; omega))), (by repeat (first | exact trivial | refine ⟨rfl, ?_⟩))⟩ (by first | exact Ent.refl _ | exact eX (by repeat constructor))
    refine c_cond_p rfl (fun hp => ?_) (fun hp => ?_)
    · refine c_seq ?_
      refine c_region ?_
      refine o_val (v_assign rfl) (dd rfl) ?_
      refine o_val (v_assign rfl) (dd rfl) ?_
      refine o_val (v_assign rfl) (dd rfl) ?_
      refine o_nil ?_
      refine c_ret3 Tryz.func91 rfl rfl rfl rfl fun w O hS => ?_
      exact ⟨(), by rw [hno]; rfl, trivial, trivial⟩
    · exact absurd trivial hp
end Go.Proofs.YtmgkeippepeggaaGreatDoor
/- Chapter 09: the document's readers: numbers, flags, texts. -/
namespace Go.Proofs.YtmgkeippepeggaaGreatDoor
open Go Go.SL Go.Lib
def inS (B : ByteArray) (s : St9) : Value := inV B (plc B s) s.2
attribute [local irreducible] Cfg Kont StepK Val Con Qops Any Sl Own Blk BlkR Rd Pu ExA AllA Has Pick Ent Elem Beside Callable TI Lone OwnO AndA
set_option maxRecDepth 100000 in
theorem spoilRef_con (B : ByteArray) (s : St9) : Con Tryz.prog 92 [.agg #[.string B, .int .i64 (plc B s), .bool s.2]] [] (γ := Unit) (fun _ => inS B (spoil9 s)) (fun _ => True) (fun _ => []) := by
  refine con_of Tryz.func92 rfl (dd rfl) fun w0 O0 => ?_
  refine c_seq ?_
  refine c_region ?_
  refine o_step (s_box rfl (dd rfl) (fun b1 => ?_))
  refine o_step (s_alloc ti48 (dd rfl) (fun b2 => ?_))
  refine o_nil ?_
  refine c_seq ?_
  refine c_region ?_
  refine o_val (v_fieldAddrC 2 Tryz.underlying48 rfl ti4 (by decide) rfl) (dd rfl) ?_
  refine o_step (s_store1 ti4 rfl rfl (by first | exact OneC.lit rfl | exact OneC.sl (hX (by repeat constructor)) ) (pB (by repeat constructor)) (by first | decide | exact Nat.le_of_ble_eq_true rfl | simp) (by first | (dsimp only [List.set_cons_succ, List.set_cons_zero]; first | done | exact rfl) | rfl) (?_))
  refine o_nil ?_
  refine c_seq ?_
  refine c_region ?_
  refine o_val (v_load_all ⟨_, Tryz.underlying48⟩ ti48 rfl (hX (by repeat constructor)) rfl) (dd rfl) ?_
  refine o_step (s_store_all ti48 rfl rfl (by first | exact CellsV.lit rfl | exact CellsV.one (by first | exact OneC.lit rfl | exact OneC.sl (hX (by repeat constructor)) )) (by repeat (first | exact OneAll.nil | (refine OneAll.cons ?_ ?_; · first | exact OneC.lit rfl | exact OneC.sl (hX (by repeat constructor)) ) | exact OneAll.rd (hX (by repeat constructor)))) rfl (pB (by repeat constructor)) rfl (?_))
  refine o_nil ?_
  refine c_ret_cell Tryz.func92 rfl ⟨_, Tryz.underlying48⟩ ti48 rfl (hX (by repeat constructor)) fun w O hS => ?_
  exact ⟨(), rfl, trivial, trivial⟩
theorem upto_s (B : ByteArray) (s : St9) (e : UInt8) (hB : B.size ≤ 4611686018427387904) (h : EndsB B s) : ∃ (n : Int) (x : Nat) (is : Bool),
    Con Tryz.prog 91 [.agg #[.string B, .int .i64 (plc B s), .bool s.2], .int .u8 e.toNat] [] (γ := Unit) (fun _ => .tuple #[.int .i64 n, .int .i64 x, .bool is]) (fun _ => True) (fun _ => [])
    ∧ num9 e s = (if is = false then none else some (n, x - plc B s)) ∧ (is = true → plc B s < x ∧ x ≤ B.size ∧ x - plc B s ≤ s.1.length) ∧ x ≤ B.size ∧ -100000000000000 < n ∧ n < 100000000000000 := by
  have hc := upto_con B (plc B s) s.2 e hB h.at.1
  rw [← h.eta] at hc
  have hl := h.at.2.2
  have hp := h.at.1
  cases hn : num9 e s with
  | none =>
    rw [hn] at hc
    exact ⟨0, 0, false, hc, rfl, fun k => (Bool.noConfusion k), Nat.zero_le _, by decide, by decide⟩
  | some p =>
    obtain ⟨n, m⟩ := p
    rw [hn] at hc
    obtain ⟨h1, h2, h3, h4, _⟩ := num9_bound hn
    exact ⟨n, plc B s + m, true, hc, by rw [if_neg (by decide)]; congr 2; omega, fun _ => ⟨by omega, by omega, by omega⟩, by omega, h3, h4⟩
set_option maxRecDepth 100000 in
theorem takeNumRef_con (B : ByteArray) (s : St9) (hB : B.size ≤ 4611686018427387904) (h : EndsB B s) : Con Tryz.prog 59 [inS B s] [] (γ := Unit)
    (fun _ => .tuple #[inS B (takeNum s).1, .int .i64 (takeNum s).2]) (fun _ => True) (fun _ => []) := by
  obtain ⟨n, x, is, hc, hn, hx, hxB, hb⟩ := upto_s B s 59 hB h
  have hT : takeNum s = if is = false ∨ n < -1099511627776 ∨ 1099511627776 < n then (spoil9 s, 0) else ((s.1.drop (x - plc B s), false), n) := by
    unfold takeNum
    rw [hn]
    cases is with
    | false => rfl
    | true =>
      rw [if_neg (by decide)]
      dsimp only
      unfold far9
      by_cases hq : n < -1099511627776 ∨ 1099511627776 < n
      · rw [if_neg (by omega), if_pos (.inr hq)]
      · rw [if_pos (by omega), if_neg (by rintro (k | k); cases k; exact hq k)]
  have hS := spoilRef_con B s
  unfold inS inV at *
  refine con_of Tryz.func59 rfl (dd rfl) fun w0 O0 => ?_
  refine c_seq ?_
  refine c_region ?_
  refine o_step (s_box rfl (dd rfl) (fun b1 => ?_))
  refine o_step (s_alloc ti48 (dd rfl) (fun b2 => ?_))
  refine o_val (v_assign rfl) (dd rfl) ?_
  refine o_nil ?_
  refine c_seq ?_
  refine c_region ?_
  refine o_val (v_load_all ⟨_, Tryz.underlying48⟩ ti48 rfl (hX (by repeat constructor)) rfl) (dd rfl) ?_
  refine o_step (s_callf cl91 (hc) rfl (dd rfl) (pXs (by repeat constructor)) fun _ _ => ?_)
  refine o_val (v_move rfl) (dd rfl) ?_
  refine o_val (v_extract rfl rfl) (dd rfl) ?_
  refine o_val (v_extract rfl rfl) (dd rfl) ?_
  refine o_val (v_extract rfl rfl) (dd rfl) ?_
  refine o_val (v_assign rfl) (dd rfl) ?_
  refine o_val (v_assign rfl) (dd rfl) ?_
  refine o_val (v_assign rfl) (dd rfl) ?_
  refine o_nil ?_
  refine c_seq ?_
  refine c_seq ?_
  refine c_env (env' := [(1, _), (2, _), (3, _), (4, _), (5, _), (6, _)]) (by repeat (first | exact trivial | refine ⟨rfl, ?_⟩)) ?_
  refine c_joinb (d := 22) (decide (is = false ∨ n < -1099511627776 ∨ 1099511627776 < n)) ?_ ?_
  rotate_left
  · intro J
    refine c_region ?_
    refine o_val (v_move rfl) (dd rfl) ?_
    refine o_val (v_not rfl) (dd rfl) ?_
    refine o_val (v_move rfl) (dd rfl) ?_
    first | refine o_guard_f rfl rfl (fun g15 => ?_) (fun g15 => ?_) | refine o_guard rfl rfl (fun g15 => ?_) (fun g15 => ?_)
    · refine o_val (v_move rfl) (dd rfl) ?_
      refine o_on rfl rfl ?_
      refine o_val (v_lt rfl rfl) (dd rfl) ?_
      refine o_val (v_pick_f rfl rfl) (dd rfl) ?_
      refine o_val (v_move rfl) (dd rfl) ?_
      first | refine o_guard_f rfl rfl (fun g19 => ?_) (fun g19 => ?_) | refine o_guard rfl rfl (fun g19 => ?_) (fun g19 => ?_)
      · refine o_val (v_move rfl) (dd rfl) ?_
        refine o_on rfl rfl ?_
        refine o_val (v_gt rfl rfl) (dd rfl) ?_
        refine o_val (v_pick_f rfl rfl) (dd rfl) ?_
        refine o_nil ?_
        exact c_use J ⟨Env.as rfl (congrArg Value.bool (by first | rfl | (simp_all; done) | (simp_all; omega) | (simp; omega))), (by repeat (first | exact trivial | refine ⟨rfl, ?_⟩))⟩ (by first | exact Ent.refl _ | exact eX (by repeat constructor))
      · refine o_off rfl rfl rfl (dd rfl) ?_
        refine o_off rfl rfl rfl (dd rfl) ?_
        refine o_val (v_pick_t rfl rfl) (dd rfl) ?_
        refine o_nil ?_
        exact c_use J ⟨Env.as rfl (congrArg Value.bool (by first | rfl | (simp_all; done) | (simp_all; omega) | (simp; omega))), (by repeat (first | exact trivial | refine ⟨rfl, ?_⟩))⟩ (by first | exact Ent.refl _ | exact eX (by repeat constructor))
    · refine o_off rfl rfl rfl (dd rfl) ?_
      refine o_off rfl rfl rfl (dd rfl) ?_
      refine o_val (v_pick_t rfl rfl) (dd rfl) ?_
      refine o_val (v_move rfl) (dd rfl) ?_
      refine o_off rfl rfl rfl (dd rfl) ?_
      refine o_off rfl rfl rfl (dd rfl) ?_
      refine o_val (v_pick_t rfl rfl) (dd rfl) ?_
      refine o_nil ?_
      exact c_use J ⟨Env.as rfl (congrArg Value.bool (by first | rfl | (simp_all; done) | (simp_all; omega) | (simp; omega))), (by repeat (first | exact trivial | refine ⟨rfl, ?_⟩))⟩ (by first | exact Ent.refl _ | exact eX (by repeat constructor))
  refine c_cond_p rfl (fun hq => ?_) (fun hq => ?_)
  · refine c_seq ?_
    refine c_region ?_
    refine o_val (v_load_all ⟨_, Tryz.underlying48⟩ ti48 rfl (hX (by repeat constructor)) rfl) (dd rfl) ?_
    refine o_step (s_callf cl92 (hS) rfl (dd rfl) (pXs (by repeat constructor)) fun _ _ => ?_)
    refine o_step (s_store_all ti48 rfl rfl (by first | exact CellsV.lit rfl | exact CellsV.one (by first | exact OneC.lit rfl | exact OneC.sl (hX (by repeat constructor)) )) (by repeat (first | exact OneAll.nil | (refine OneAll.cons ?_ ?_; · first | exact OneC.lit rfl | exact OneC.sl (hX (by repeat constructor)) ) | exact OneAll.rd (hX (by repeat constructor)))) rfl (pB (by repeat constructor)) rfl (?_))
    refine o_val (v_assign rfl) (dd rfl) ?_
    refine o_nil ?_
    refine c_ret_ct Tryz.func59 rfl ⟨_, Tryz.underlying48⟩ ti48 rfl rfl (hX (by repeat constructor)) fun w O hS => ?_
    exact ⟨(), by rw [hT, if_pos hq]; rfl, trivial, trivial⟩
  · have hi : is = true := by cases is; exact absurd (.inl rfl) hq; rfl
    have hd := h.drop (hx hi).2.2 false
    have hxx : plc B s + (x - plc B s) = x := by have := hx hi; omega
    refine c_skip ?_
    refine c_seq ?_
    refine c_region ?_
    refine o_val (v_move rfl) (dd rfl) ?_
    refine o_val (v_fieldAddrC 1 Tryz.underlying48 rfl ti3 (by decide) rfl) (dd rfl) ?_
    refine o_step (s_store1 ti3 rfl rfl (by first | exact OneC.lit rfl | exact OneC.sl (hX (by repeat constructor)) ) (pB (by repeat constructor)) (by first | decide | exact Nat.le_of_ble_eq_true rfl | simp) (by first | (dsimp only [List.set_cons_succ, List.set_cons_zero]; first | done | exact rfl) | rfl) (?_))
    refine o_nil ?_
    refine c_seq ?_
    refine c_region ?_
    refine o_val (v_load_all ⟨_, Tryz.underlying48⟩ ti48 rfl (hX (by repeat constructor)) rfl) (dd rfl) ?_
    refine o_val (v_move rfl) (dd rfl) ?_
    refine o_step (s_store_all ti48 rfl rfl (by first | exact CellsV.lit rfl | exact CellsV.one (by first | exact OneC.lit rfl | exact OneC.sl (hX (by repeat constructor)) )) (by repeat (first | exact OneAll.nil | (refine OneAll.cons ?_ ?_; · first | exact OneC.lit rfl | exact OneC.sl (hX (by repeat constructor)) ) | exact OneAll.rd (hX (by repeat constructor)))) rfl (pB (by repeat constructor)) rfl (?_))
    refine o_val (v_assign rfl) (dd rfl) ?_
    refine o_nil ?_
    refine c_ret_ct Tryz.func59 rfl ⟨_, Tryz.underlying48⟩ ti48 rfl rfl (hX (by repeat constructor)) fun w O hS => ?_
    exact ⟨(), by rw [hT, if_neg hq]; dsimp only; rw [hd.2, hxx]; have hs2 : s.2 = false := (num9_bound (hn.trans (by rw [hi]; exact if_neg (by decide)))).2.2.2.2; rw [hs2]; rfl, trivial, trivial⟩
set_option maxRecDepth 100000 in
theorem takeFlagRef_con (B : ByteArray) (s : St9) (hB : B.size ≤ 4611686018427387904) (h : EndsB B s) : Con Tryz.prog 60 [inS B s] [] (γ := Unit)
    (fun _ => .tuple #[inS B (takeFlag s).1, .bool (takeFlag s).2]) (fun _ => True) (fun _ => []) := by
  obtain ⟨n, x, is, hc, hn, hx, hxB, hb⟩ := upto_s B s 59 hB h
  have hT : takeFlag s = if is = false ∨ n < 0 ∨ 1 < n then (spoil9 s, false) else ((s.1.drop (x - plc B s), false), decide (n = 1)) := by
    unfold takeFlag
    rw [hn]
    cases is with
    | false => rfl
    | true =>
      rw [if_neg (by decide)]
      dsimp only
      by_cases hq : n < 0 ∨ 1 < n
      · rw [if_neg (by omega), if_pos (.inr hq)]
      · rw [if_pos (by omega), if_neg (by rintro (k | k); cases k; exact hq k)]
  have hS := spoilRef_con B s
  unfold inS inV at *
  refine con_of Tryz.func60 rfl (dd rfl) fun w0 O0 => ?_
  refine c_seq ?_
  refine c_region ?_
  refine o_step (s_box rfl (dd rfl) (fun b1 => ?_))
  refine o_step (s_alloc ti48 (dd rfl) (fun b2 => ?_))
  refine o_val (v_assign rfl) (dd rfl) ?_
  refine o_nil ?_
  refine c_seq ?_
  refine c_region ?_
  refine o_val (v_load_all ⟨_, Tryz.underlying48⟩ ti48 rfl (hX (by repeat constructor)) rfl) (dd rfl) ?_
  refine o_step (s_callf cl91 (hc) rfl (dd rfl) (pXs (by repeat constructor)) fun _ _ => ?_)
  refine o_val (v_move rfl) (dd rfl) ?_
  refine o_val (v_extract rfl rfl) (dd rfl) ?_
  refine o_val (v_extract rfl rfl) (dd rfl) ?_
  refine o_val (v_extract rfl rfl) (dd rfl) ?_
  refine o_val (v_assign rfl) (dd rfl) ?_
  refine o_val (v_assign rfl) (dd rfl) ?_
  refine o_val (v_assign rfl) (dd rfl) ?_
  refine o_nil ?_
  refine c_seq ?_
  refine c_seq ?_
  refine c_env (env' := [(1, _), (2, _), (3, _), (4, _), (5, _), (6, _)]) (by repeat (first | exact trivial | refine ⟨rfl, ?_⟩)) ?_
  refine c_joinb (d := 22) (decide (is = false ∨ n < 0 ∨ 1 < n)) ?_ ?_
  rotate_left
  · intro J
    refine c_region ?_
    refine o_val (v_move rfl) (dd rfl) ?_
    refine o_val (v_not rfl) (dd rfl) ?_
    refine o_val (v_move rfl) (dd rfl) ?_
    first | refine o_guard_f rfl rfl (fun g15 => ?_) (fun g15 => ?_) | refine o_guard rfl rfl (fun g15 => ?_) (fun g15 => ?_)
    · refine o_val (v_move rfl) (dd rfl) ?_
      refine o_on rfl rfl ?_
      refine o_val (v_lt rfl rfl) (dd rfl) ?_
      refine o_val (v_pick_f rfl rfl) (dd rfl) ?_
      refine o_val (v_move rfl) (dd rfl) ?_
      first | refine o_guard_f rfl rfl (fun g19 => ?_) (fun g19 => ?_) | refine o_guard rfl rfl (fun g19 => ?_) (fun g19 => ?_)
      · refine o_val (v_move rfl) (dd rfl) ?_
        refine o_on rfl rfl ?_
        refine o_val (v_gt rfl rfl) (dd rfl) ?_
        refine o_val (v_pick_f rfl rfl) (dd rfl) ?_
        refine o_nil ?_
        exact c_use J ⟨Env.as rfl (congrArg Value.bool (by first | rfl | (simp_all; done) | (simp_all; omega) | (simp; omega))), (by repeat (first | exact trivial | refine ⟨rfl, ?_⟩))⟩ (by first | exact Ent.refl _ | exact eX (by repeat constructor))
      · refine o_off rfl rfl rfl (dd rfl) ?_
        refine o_off rfl rfl rfl (dd rfl) ?_
        refine o_val (v_pick_t rfl rfl) (dd rfl) ?_
        refine o_nil ?_
        exact c_use J ⟨Env.as rfl (congrArg Value.bool (by first | rfl | (simp_all; done) | (simp_all; omega) | (simp; omega))), (by repeat (first | exact trivial | refine ⟨rfl, ?_⟩))⟩ (by first | exact Ent.refl _ | exact eX (by repeat constructor))
    · refine o_off rfl rfl rfl (dd rfl) ?_
      refine o_off rfl rfl rfl (dd rfl) ?_
      refine o_val (v_pick_t rfl rfl) (dd rfl) ?_
      refine o_val (v_move rfl) (dd rfl) ?_
      refine o_off rfl rfl rfl (dd rfl) ?_
      refine o_off rfl rfl rfl (dd rfl) ?_
      refine o_val (v_pick_t rfl rfl) (dd rfl) ?_
      refine o_nil ?_
      exact c_use J ⟨Env.as rfl (congrArg Value.bool (by first | rfl | (simp_all; done) | (simp_all; omega) | (simp; omega))), (by repeat (first | exact trivial | refine ⟨rfl, ?_⟩))⟩ (by first | exact Ent.refl _ | exact eX (by repeat constructor))
  refine c_cond_p rfl (fun hq => ?_) (fun hq => ?_)
  · refine c_seq ?_
    refine c_region ?_
    refine o_val (v_load_all ⟨_, Tryz.underlying48⟩ ti48 rfl (hX (by repeat constructor)) rfl) (dd rfl) ?_
    refine o_step (s_callf cl92 (hS) rfl (dd rfl) (pXs (by repeat constructor)) fun _ _ => ?_)
    refine o_step (s_store_all ti48 rfl rfl (by first | exact CellsV.lit rfl | exact CellsV.one (by first | exact OneC.lit rfl | exact OneC.sl (hX (by repeat constructor)) )) (by repeat (first | exact OneAll.nil | (refine OneAll.cons ?_ ?_; · first | exact OneC.lit rfl | exact OneC.sl (hX (by repeat constructor)) ) | exact OneAll.rd (hX (by repeat constructor)))) rfl (pB (by repeat constructor)) rfl (?_))
    refine o_val (v_assign rfl) (dd rfl) ?_
    refine o_nil ?_
    refine c_ret_ct Tryz.func60 rfl ⟨_, Tryz.underlying48⟩ ti48 rfl rfl (hX (by repeat constructor)) fun w O hS => ?_
    exact ⟨(), by rw [hT, if_pos hq]; rfl, trivial, trivial⟩
  · have hi : is = true := by cases is; exact absurd (.inl rfl) hq; rfl
    have hd := h.drop (hx hi).2.2 false
    have hxx : plc B s + (x - plc B s) = x := by have := hx hi; omega
    have hs2 : s.2 = false := (num9_bound (hn.trans (by rw [hi]; exact if_neg (by decide)))).2.2.2.2
    refine c_skip ?_
    refine c_seq ?_
    refine c_region ?_
    refine o_val (v_move rfl) (dd rfl) ?_
    refine o_val (v_fieldAddrC 1 Tryz.underlying48 rfl ti3 (by decide) rfl) (dd rfl) ?_
    refine o_step (s_store1 ti3 rfl rfl (by first | exact OneC.lit rfl | exact OneC.sl (hX (by repeat constructor)) ) (pB (by repeat constructor)) (by first | decide | exact Nat.le_of_ble_eq_true rfl | simp) (by first | (dsimp only [List.set_cons_succ, List.set_cons_zero]; first | done | exact rfl) | rfl) (?_))
    refine o_nil ?_
    refine c_seq ?_
    refine c_region ?_
    refine o_val (v_load_all ⟨_, Tryz.underlying48⟩ ti48 rfl (hX (by repeat constructor)) rfl) (dd rfl) ?_
    refine o_val (v_move rfl) (dd rfl) ?_
    refine o_val (v_eq rfl rfl) (dd rfl) ?_
    refine o_step (s_store_all ti48 rfl rfl (by first | exact CellsV.lit rfl | exact CellsV.one (by first | exact OneC.lit rfl | exact OneC.sl (hX (by repeat constructor)) )) (by repeat (first | exact OneAll.nil | (refine OneAll.cons ?_ ?_; · first | exact OneC.lit rfl | exact OneC.sl (hX (by repeat constructor)) ) | exact OneAll.rd (hX (by repeat constructor)))) rfl (pB (by repeat constructor)) rfl (?_))
    refine o_val (v_assign rfl) (dd rfl) ?_
    refine o_nil ?_
    refine c_ret_ct Tryz.func60 rfl ⟨_, Tryz.underlying48⟩ ti48 rfl rfl (hX (by repeat constructor)) fun w O hS => ?_
    exact ⟨(), by rw [hT, if_neg hq]; dsimp only; rw [hd.2, hxx, hs2]; rfl, trivial, trivial⟩
set_option maxRecDepth 100000 in
theorem takeTextRef_con (B : ByteArray) (s : St9) (most : Int) (hB : B.size ≤ 4611686018427387904) (h : EndsB B s) : Con Tryz.prog 61 [inS B s, .int .i64 most] [] (γ := Unit)
    (fun _ => .tuple #[inS B (takeText most s).1, .string (takeText most s).2]) (fun _ => True) (fun _ => []) := by
  obtain ⟨n, x, is, hc, hn, hx, hxB, hb⟩ := upto_s B s 58 hB h
  have hl := h.at.2.2
  have hp := h.at.1
  have hT : takeText most s = if is = false ∨ n < 0 ∨ most < n ∨ (B.size : Int) - x < n + 1 ∨ sAt B ((x : Int) + n) ≠ 44 then (spoil9 s, ⟨#[]⟩) else ((s.1.drop (x - plc B s + n.toNat + 1), false), B.extract x (x + n.toNat)) := by
    unfold takeText
    rw [hn]
    cases is with
    | false => rfl
    | true =>
      have hxx := hx rfl
      rw [if_neg (by decide)]
      dsimp only
      by_cases hq : n < 0 ∨ most < n ∨ (B.size : Int) - x < n + 1
      · rw [if_neg (by omega), if_pos (by omega)]
      · have hi : x - plc B s + n.toNat < s.1.length := by omega
        have hg : s.1[x - plc B s + n.toNat]? = some (B.data.toList[x + n.toNat]'(by rw [ba_len]; omega)) := by
          rw [h.at.2.1, leftB_get (by rw [ba_len]; omega)]
          congr 2; omega
        have hs := sAt_get (B := B) (k := x + n.toNat) (by rw [ba_len]; omega)
        rw [show (x : Int) + n = ((x + n.toNat : Nat) : Int) by omega, hs, hg]
        have he : (B.data.toList[x + n.toNat]'(by rw [ba_len]; omega) = 44) ↔ ((B.data.toList[x + n.toNat]'(by rw [ba_len]; omega)).toNat : Int) = 44 := ⟨fun k => by rw [k]; rfl, fun k => UInt8.toNat_inj.1 (Int.ofNat.inj k)⟩
        by_cases hq2 : B.data.toList[x + n.toNat]'(by rw [ba_len]; omega) = 44
        · rw [if_pos ⟨by omega, by omega, by omega, congrArg some hq2⟩, if_neg (by have := he.1 hq2; rintro (k | k | k | k | k) <;> first | cases k; done | omega)]
          congr 1
          rw [extract_left, h.at.2.1]
          unfold leftB sB
          rw [List.drop_drop, show plc B s + (x - plc B s) = x by omega, show x + n.toNat - x = n.toNat by omega]
        · rw [if_neg (fun k => hq2 (Option.some.inj k.2.2.2)), if_pos (by have := mt he.2 hq2; omega)]
  have hS := spoilRef_con B s
  unfold inS inV at *
  refine con_of Tryz.func61 rfl (dd rfl) fun w0 O0 => ?_
  refine c_seq ?_
  refine c_region ?_
  refine o_step (s_box rfl (dd rfl) (fun b2 => ?_))
  refine o_step (s_alloc ti48 (dd rfl) (fun b4 => ?_))
  refine o_val (v_assign rfl) (dd rfl) ?_
  refine o_nil ?_
  refine c_seq ?_
  refine c_region ?_
  refine o_val (v_load_all ⟨_, Tryz.underlying48⟩ ti48 rfl (hX (by repeat constructor)) rfl) (dd rfl) ?_
  refine o_step (s_callf cl91 (hc) rfl (dd rfl) (pXs (by repeat constructor)) fun _ _ => ?_)
  refine o_val (v_move rfl) (dd rfl) ?_
  refine o_val (v_extract rfl rfl) (dd rfl) ?_
  refine o_val (v_extract rfl rfl) (dd rfl) ?_
  refine o_val (v_extract rfl rfl) (dd rfl) ?_
  refine o_val (v_assign rfl) (dd rfl) ?_
  refine o_val (v_assign rfl) (dd rfl) ?_
  refine o_val (v_assign rfl) (dd rfl) ?_
  refine o_nil ?_
  refine c_seq ?_
  refine c_seq ?_
  refine c_env (env' := [(1, _), (2, _), (4, _), (5, _), (6, _), (7, _), (8, _)]) (by repeat (first | exact trivial | refine ⟨rfl, ?_⟩)) ?_
  refine c_joinb (d := 44) (decide (is = false ∨ n < 0 ∨ most < n ∨ (B.size : Int) - x < n + 1 ∨ sAt B ((x : Int) + n) ≠ 44)) ?_ ?_
  rotate_left
  · intro J
    refine c_region ?_
    refine o_val (v_move rfl) (dd rfl) ?_
    refine o_val (v_not rfl) (dd rfl) ?_
    refine o_val (v_move rfl) (dd rfl) ?_
    first | refine o_guard_f rfl rfl (fun g17 => ?_) (fun g17 => ?_) | refine o_guard rfl rfl (fun g17 => ?_) (fun g17 => ?_)
    · refine o_val (v_move rfl) (dd rfl) ?_
      refine o_on rfl rfl ?_
      refine o_val (v_lt rfl rfl) (dd rfl) ?_
      refine o_val (v_pick_f rfl rfl) (dd rfl) ?_
      refine o_val (v_move rfl) (dd rfl) ?_
      first | refine o_guard_f rfl rfl (fun g21 => ?_) (fun g21 => ?_) | refine o_guard rfl rfl (fun g21 => ?_) (fun g21 => ?_)
      · refine o_val (v_move rfl) (dd rfl) ?_
        refine o_on rfl rfl ?_
        refine o_val (v_move rfl) (dd rfl) ?_
        refine o_on rfl rfl ?_
        refine o_val (v_gt rfl rfl) (dd rfl) ?_
        refine o_val (v_pick_f rfl rfl) (dd rfl) ?_
        refine o_val (v_move rfl) (dd rfl) ?_
        first | refine o_guard_f rfl rfl (fun g26 => ?_) (fun g26 => ?_) | refine o_guard rfl rfl (fun g26 => ?_) (fun g26 => ?_)
        · refine o_val (v_move rfl) (dd rfl) ?_
          refine o_on rfl rfl ?_
          refine o_val ((by first | exact v_add64 rfl rfl (by omega) | exact v_add rfl rfl)) (dd rfl) ?_
          refine o_on rfl rfl ?_
          refine o_val (v_fieldAddrC 0 Tryz.underlying48 rfl ti9 (by decide) rfl) (dd rfl) ?_
          refine o_on rfl rfl ?_
          refine o_val (v_load lone9 rfl (hX (by repeat constructor)) rfl) (dd rfl) ?_
          refine o_on rfl rfl ?_
          refine o_val (v_len_str Tryz.underlying9 rfl) (dd rfl) ?_
          refine o_on rfl rfl ?_
          refine o_val (v_move rfl) (dd rfl) ?_
          refine o_on rfl rfl ?_
          refine o_val ((by first | exact v_sub64 rfl rfl (by omega) | exact v_sub rfl rfl)) (dd rfl) ?_
          refine o_on rfl rfl ?_
          refine o_val (v_gt rfl rfl) (dd rfl) ?_
          refine o_val (v_pick_f rfl rfl) (dd rfl) ?_
          refine o_val (v_move rfl) (dd rfl) ?_
          first | refine o_guard_f rfl rfl (fun g36 => ?_) (fun g36 => ?_) | refine o_guard rfl rfl (fun g36 => ?_) (fun g36 => ?_)
          · refine o_val (v_fieldAddrC 0 Tryz.underlying48 rfl ti9 (by decide) rfl) (dd rfl) ?_
            refine o_on rfl rfl ?_
            refine o_val (v_load lone9 rfl (hX (by repeat constructor)) rfl) (dd rfl) ?_
            refine o_on rfl rfl ?_
            refine o_val (v_move rfl) (dd rfl) ?_
            refine o_on rfl rfl ?_
            refine o_val (v_move rfl) (dd rfl) ?_
            refine o_on rfl rfl ?_
            refine o_val ((by first | exact v_add64 rfl rfl (by omega) | exact v_add rfl rfl)) (dd rfl) ?_
            refine o_on rfl rfl ?_
            refine o_val (v_index_str Tryz.underlying9 rfl rfl (by omega)) (dd rfl) ?_
            refine o_on rfl rfl ?_
            refine o_val (v_ne rfl rfl) (dd rfl) ?_
            refine o_val (v_pick_f rfl rfl) (dd rfl) ?_
            refine o_nil ?_
            exact c_use J ⟨Env.as rfl (congrArg Value.bool (by first | rfl | (simp_all; done) | (simp_all; omega) | exact decide_eq_decide.2 ⟨fun h => .inr (.inr (.inr (.inr h))), by rintro (h | h | h | h | h) <;> first | exact h | omega | simp_all⟩)), (by repeat (first | exact trivial | refine ⟨rfl, ?_⟩))⟩ (by first | exact Ent.refl _ | exact eX (by repeat constructor))
          · refine o_off rfl rfl rfl (dd rfl) ?_
            refine o_off rfl rfl rfl (dd rfl) ?_
            refine o_off rfl rfl rfl (dd rfl) ?_
            refine o_off rfl rfl rfl (dd rfl) ?_
            refine o_off rfl rfl rfl (dd rfl) ?_
            refine o_off rfl rfl rfl (dd rfl) ?_
            refine o_off rfl rfl rfl (dd rfl) ?_
            refine o_val (v_pick_t rfl rfl) (dd rfl) ?_
            refine o_nil ?_
            exact c_use J ⟨Env.as rfl (congrArg Value.bool (by first | rfl | (simp_all; done) | (simp_all; omega) | exact decide_eq_decide.2 ⟨fun h => .inr (.inr (.inr (.inr h))), by rintro (h | h | h | h | h) <;> first | exact h | omega | simp_all⟩)), (by repeat (first | exact trivial | refine ⟨rfl, ?_⟩))⟩ (by first | exact Ent.refl _ | exact eX (by repeat constructor))
        · refine o_off rfl rfl rfl (dd rfl) ?_
          refine o_off rfl rfl rfl (dd rfl) ?_
          refine o_off rfl rfl rfl (dd rfl) ?_
          refine o_off rfl rfl rfl (dd rfl) ?_
          refine o_off rfl rfl rfl (dd rfl) ?_
          refine o_off rfl rfl rfl (dd rfl) ?_
          refine o_off rfl rfl rfl (dd rfl) ?_
          refine o_off rfl rfl rfl (dd rfl) ?_
          refine o_val (v_pick_t rfl rfl) (dd rfl) ?_
          refine o_val (v_move rfl) (dd rfl) ?_
          refine o_off rfl rfl rfl (dd rfl) ?_
          refine o_off rfl rfl rfl (dd rfl) ?_
          refine o_off rfl rfl rfl (dd rfl) ?_
          refine o_off rfl rfl rfl (dd rfl) ?_
          refine o_off rfl rfl rfl (dd rfl) ?_
          refine o_off rfl rfl rfl (dd rfl) ?_
          refine o_off rfl rfl rfl (dd rfl) ?_
          refine o_val (v_pick_t rfl rfl) (dd rfl) ?_
          refine o_nil ?_
          exact c_use J ⟨Env.as rfl (congrArg Value.bool (by first | rfl | (simp_all; done) | (simp_all; omega) | exact decide_eq_decide.2 ⟨fun h => .inr (.inr (.inr (.inr h))), by rintro (h | h | h | h | h) <;> first | exact h | omega | simp_all⟩)), (by repeat (first | exact trivial | refine ⟨rfl, ?_⟩))⟩ (by first | exact Ent.refl _ | exact eX (by repeat constructor))
      · refine o_off rfl rfl rfl (dd rfl) ?_
        refine o_off rfl rfl rfl (dd rfl) ?_
        refine o_off rfl rfl rfl (dd rfl) ?_
        refine o_val (v_pick_t rfl rfl) (dd rfl) ?_
        refine o_val (v_move rfl) (dd rfl) ?_
        refine o_off rfl rfl rfl (dd rfl) ?_
        refine o_off rfl rfl rfl (dd rfl) ?_
        refine o_off rfl rfl rfl (dd rfl) ?_
        refine o_off rfl rfl rfl (dd rfl) ?_
        refine o_off rfl rfl rfl (dd rfl) ?_
        refine o_off rfl rfl rfl (dd rfl) ?_
        refine o_off rfl rfl rfl (dd rfl) ?_
        refine o_off rfl rfl rfl (dd rfl) ?_
        refine o_val (v_pick_t rfl rfl) (dd rfl) ?_
        refine o_val (v_move rfl) (dd rfl) ?_
        refine o_off rfl rfl rfl (dd rfl) ?_
        refine o_off rfl rfl rfl (dd rfl) ?_
        refine o_off rfl rfl rfl (dd rfl) ?_
        refine o_off rfl rfl rfl (dd rfl) ?_
        refine o_off rfl rfl rfl (dd rfl) ?_
        refine o_off rfl rfl rfl (dd rfl) ?_
        refine o_off rfl rfl rfl (dd rfl) ?_
        refine o_val (v_pick_t rfl rfl) (dd rfl) ?_
        refine o_nil ?_
        exact c_use J ⟨Env.as rfl (congrArg Value.bool (by first | rfl | (simp_all; done) | (simp_all; omega) | exact decide_eq_decide.2 ⟨fun h => .inr (.inr (.inr (.inr h))), by rintro (h | h | h | h | h) <;> first | exact h | omega | simp_all⟩)), (by repeat (first | exact trivial | refine ⟨rfl, ?_⟩))⟩ (by first | exact Ent.refl _ | exact eX (by repeat constructor))
    · refine o_off rfl rfl rfl (dd rfl) ?_
      refine o_off rfl rfl rfl (dd rfl) ?_
      refine o_val (v_pick_t rfl rfl) (dd rfl) ?_
      refine o_val (v_move rfl) (dd rfl) ?_
      refine o_off rfl rfl rfl (dd rfl) ?_
      refine o_off rfl rfl rfl (dd rfl) ?_
      refine o_off rfl rfl rfl (dd rfl) ?_
      refine o_val (v_pick_t rfl rfl) (dd rfl) ?_
      refine o_val (v_move rfl) (dd rfl) ?_
      refine o_off rfl rfl rfl (dd rfl) ?_
      refine o_off rfl rfl rfl (dd rfl) ?_
      refine o_off rfl rfl rfl (dd rfl) ?_
      refine o_off rfl rfl rfl (dd rfl) ?_
      refine o_off rfl rfl rfl (dd rfl) ?_
      refine o_off rfl rfl rfl (dd rfl) ?_
      refine o_off rfl rfl rfl (dd rfl) ?_
      refine o_off rfl rfl rfl (dd rfl) ?_
      refine o_val (v_pick_t rfl rfl) (dd rfl) ?_
      refine o_val (v_move rfl) (dd rfl) ?_
      refine o_off rfl rfl rfl (dd rfl) ?_
      refine o_off rfl rfl rfl (dd rfl) ?_
      refine o_off rfl rfl rfl (dd rfl) ?_
      refine o_off rfl rfl rfl (dd rfl) ?_
      refine o_off rfl rfl rfl (dd rfl) ?_
      refine o_off rfl rfl rfl (dd rfl) ?_
      refine o_off rfl rfl rfl (dd rfl) ?_
      refine o_val (v_pick_t rfl rfl) (dd rfl) ?_
      refine o_nil ?_
      exact c_use J ⟨Env.as rfl (congrArg Value.bool (by first | rfl | (simp_all; done) | (simp_all; omega) | exact decide_eq_decide.2 ⟨fun h => .inr (.inr (.inr (.inr h))), by rintro (h | h | h | h | h) <;> first | exact h | omega | simp_all⟩)), (by repeat (first | exact trivial | refine ⟨rfl, ?_⟩))⟩ (by first | exact Ent.refl _ | exact eX (by repeat constructor))
  refine c_cond_p rfl (fun hq => ?_) (fun hq => ?_)
  · refine c_seq ?_
    refine c_region ?_
    refine o_val (v_load_all ⟨_, Tryz.underlying48⟩ ti48 rfl (hX (by repeat constructor)) rfl) (dd rfl) ?_
    refine o_step (s_callf cl92 (hS) rfl (dd rfl) (pXs (by repeat constructor)) fun _ _ => ?_)
    refine o_step (s_store_all ti48 rfl rfl (by first | exact CellsV.lit rfl | exact CellsV.one (by first | exact OneC.lit rfl | exact OneC.sl (hX (by repeat constructor)) )) (by repeat (first | exact OneAll.nil | (refine OneAll.cons ?_ ?_; · first | exact OneC.lit rfl | exact OneC.sl (hX (by repeat constructor)) ) | exact OneAll.rd (hX (by repeat constructor)))) rfl (pB (by repeat constructor)) rfl (?_))
    refine o_val (v_assign rfl) (dd rfl) ?_
    refine o_nil ?_
    refine c_ret_ct Tryz.func61 rfl ⟨_, Tryz.underlying48⟩ ti48 rfl rfl (hX (by repeat constructor)) fun w O hS => ?_
    exact ⟨(), by rw [hT, if_pos hq]; rfl, trivial, trivial⟩
  · have hi : is = true := by cases is; exact absurd (.inl rfl) hq; rfl
    have hxi := hx hi
    have hd := h.drop (m := x - plc B s + n.toNat + 1) (by omega) false
    have hxx : plc B s + (x - plc B s + n.toNat + 1) = x + n.toNat + 1 := by omega
    have hs2 : s.2 = false := (num9_bound (hn.trans (by rw [hi]; exact if_neg (by decide)))).2.2.2.2
    refine c_skip ?_
    refine c_seq ?_
    refine c_region ?_
    refine o_val (v_move rfl) (dd rfl) ?_
    refine o_val (v_move rfl) (dd rfl) ?_
    refine o_val ((by first | exact v_add64 rfl rfl (by omega) | exact v_add rfl rfl)) (dd rfl) ?_
    refine o_val ((by first | exact v_add64 rfl rfl (by omega) | exact v_add rfl rfl)) (dd rfl) ?_
    refine o_val (v_fieldAddrC 1 Tryz.underlying48 rfl ti3 (by decide) rfl) (dd rfl) ?_
    refine o_step (s_store1 ti3 rfl rfl (by first | exact OneC.lit rfl | exact OneC.sl (hX (by repeat constructor)) ) (pB (by repeat constructor)) (by first | decide | exact Nat.le_of_ble_eq_true rfl | simp) (by first | (dsimp only [List.set_cons_succ, List.set_cons_zero]; first | done | exact rfl) | rfl) (?_))
    refine o_nil ?_
    refine c_seq ?_
    refine c_held [BlkR b2 48 [.string B, .int .i64 (x + n + 1), .bool s.2]] rfl ?_
    refine a_take 0 rfl (by kernel_rfl) (by kernel_rfl) (by kernel_rfl) (v_load_all ⟨_, Tryz.underlying48⟩ ti48 rfl (hX (by repeat constructor)) rfl) (eX (by repeat constructor)) (dd rfl) ?_
    refine a_take 1 rfl (by kernel_rfl) (by kernel_rfl) (by kernel_rfl) (v_fieldAddrC 0 Tryz.underlying48 rfl ti9 (by decide) rfl) (eX (by repeat constructor)) (dd rfl) ?_
    refine a_take 2 rfl (by kernel_rfl) (by kernel_rfl) (by kernel_rfl) (v_load lone9 rfl (hX (by repeat constructor)) rfl) (eX (by repeat constructor)) (dd rfl) ?_
    refine a_take 3 rfl (by kernel_rfl) (by kernel_rfl) (by kernel_rfl) (v_move rfl) (eX (by repeat constructor)) (dd rfl) ?_
    refine a_take 4 rfl (by kernel_rfl) (by kernel_rfl) (by kernel_rfl) (v_move rfl) (eX (by repeat constructor)) (dd rfl) ?_
    refine a_take 5 rfl (by kernel_rfl) (by kernel_rfl) (by kernel_rfl) (v_move rfl) (eX (by repeat constructor)) (dd rfl) ?_
    refine a_take 6 rfl (by kernel_rfl) (by kernel_rfl) (by kernel_rfl) ((by first | exact v_add64 rfl rfl (by omega) | exact v_add rfl rfl)) (eX (by repeat constructor)) (dd rfl) ?_
    refine a_take 7 rfl (by kernel_rfl) (by kernel_rfl) (by kernel_rfl) (v_cut Tryz.underlying9 rfl rfl rfl (by omega)) (eX (by repeat constructor)) (dd rfl) ?_
    refine a_one 8 rfl (by kernel_rfl) (s_store_all ti48 rfl rfl (by first | exact CellsV.lit rfl | exact CellsV.one (by first | exact OneC.lit rfl | exact OneC.sl (hX (by repeat constructor)) )) (by repeat (first | exact OneAll.nil | (refine OneAll.cons ?_ ?_; · first | exact OneC.lit rfl | exact OneC.sl (hX (by repeat constructor)) ) | exact OneAll.rd (hX (by repeat constructor)))) rfl (pB (by repeat constructor)) rfl (a_on (eX (by repeat constructor)) ?_))
    refine a_take 9 rfl (by kernel_rfl) (by kernel_rfl) (by kernel_rfl) (v_assign rfl) (eX (by repeat constructor)) (dd rfl) ?_
    refine a_done (by kernel_rfl) ?_ _
    refine c_ret_ct Tryz.func61 rfl ⟨_, Tryz.underlying48⟩ ti48 rfl rfl (hX (by repeat constructor)) fun w O hS => ?_
    refine ⟨(), ?_, trivial, trivial⟩
    rw [hT, if_neg hq]
    dsimp only
    rw [hd.2, hxx, hs2, show ((x + n.toNat + 1 : Nat) : Int) = x + n + 1 by omega, show B.extract x (x + n.toNat) = B.extract (x : Int).toNat ((x : Int) + n).toNat by congr 1; omega]
    rfl
end Go.Proofs.YtmgkeippepeggaaGreatDoor
/- Chapter 09: the document's readers: rows of texts. -/
namespace Go.Proofs.YtmgkeippepeggaaGreatDoor
open Go Go.SL Go.Lib
theorem takeMany_step {α : Type} (take : St9 → St9 × α) {n k : Nat} {s : St9} {out : List α} (hk : k < n) (hb : s.2 = false) : takeMany take (n - k) s out = takeMany take (n - (k + 1)) (take s).1 (out ++ [(take s).2]) := by
  obtain ⟨m, rfl⟩ : ∃ m, n = k + 1 + m := ⟨n - (k + 1), by omega⟩
  rw [show k + 1 + m - k = m + 1 by omega, show k + 1 + m - (k + 1) = m by omega, takeMany, if_neg (by rw [hb]; decide)]
theorem takeMany_end {α : Type} (take : St9 → St9 × α) {n k : Nat} {s : St9} {out : List α} (hk : n ≤ k) : takeMany take (n - k) s out = (s, out) := by
  rw [show n - k = 0 by omega]; rfl
theorem num_far {s : St9} : -far9 ≤ (takeNum s).2 ∧ (takeNum s).2 ≤ far9 := by
  unfold takeNum
  split
  · split
    · assumption
    · exact ⟨show -far9 ≤ 0 by decide, show 0 ≤ far9 by decide⟩
  · exact ⟨show -far9 ≤ 0 by decide, show 0 ≤ far9 by decide⟩
attribute [local irreducible] Cfg Kont StepK Val Con Qops Any Sl Own Blk BlkR Rd Pu ExA AllA Has Pick Ent Elem Beside Callable TI Lone OwnO AndA
set_option maxRecDepth 100000 in
theorem takeTextsRef_con (B : ByteArray) (s : St9) (most each : Int) (hB : B.size ≤ 4611686018427387904) (h : EndsB B s) : Con Tryz.prog 62 [inS B s, .int .i64 most, .int .i64 each] [] (γ := Value)
    (fun g => .tuple #[inS B (takeTexts most each s).1, g]) (fun _ => True) (fun g => [Sl eStr g (takeTexts most each s).2]) := by
  have hgn := h.goes goes_num
  have hfar := num_far (s := s)
  have hN := takeNumRef_con B s hB h
  have hS := spoilRef_con B s
  obtain ⟨n, hn⟩ : ∃ n, n = (takeNum s).2 := ⟨_, rfl⟩
  obtain ⟨s1, hs1⟩ : ∃ s1, s1 = (takeNum s).1 := ⟨_, rfl⟩
  rw [← hn, ← hs1] at hN
  rw [← hn] at hfar
  rw [← hs1] at hgn
  unfold far9 at hfar
  unfold takeTexts takeSome
  rw [← hn, ← hs1]
  unfold inS inV at *
  refine con_of Tryz.func62 rfl (dd rfl) fun w0 O0 => ?_
  refine c_seq ?_
  refine c_region ?_
  refine o_step (s_box rfl (dd rfl) (fun b3 => ?_))
  refine o_step (s_alloc ti48 (dd rfl) (fun b6 => ?_))
  refine o_val (v_assign rfl) (dd rfl) ?_
  refine o_nil ?_
  refine c_seq ?_
  refine c_region ?_
  refine o_val (v_load_all ⟨_, Tryz.underlying48⟩ ti48 rfl (hX (by repeat constructor)) rfl) (dd rfl) ?_
  refine o_step (s_callf cl59 (hN) rfl (dd rfl) (pXs (by repeat constructor)) fun _ _ => ?_)
  refine o_val (v_move rfl) (dd rfl) ?_
  refine o_val (v_extract rfl rfl) (dd rfl) ?_
  refine o_val (v_extract rfl rfl) (dd rfl) ?_
  refine o_step (s_alloc ti48 (dd rfl) (fun b8 => ?_))
  refine o_step (s_store_all ti48 rfl rfl (by first | exact CellsV.lit rfl | exact CellsV.one (by first | exact OneC.lit rfl | exact OneC.sl (hX (by repeat constructor)) )) (by repeat (first | exact OneAll.nil | (refine OneAll.cons ?_ ?_; · first | exact OneC.lit rfl | exact OneC.sl (hX (by repeat constructor)) ) | exact OneAll.rd (hX (by repeat constructor)))) rfl (pB (by repeat constructor)) rfl (?_))
  refine o_val (v_assign rfl) (dd rfl) ?_
  refine o_nil ?_
  refine c_seq ?_
  refine c_seq ?_
  refine c_env (env' := [(1, _), (2, _), (3, _), (6, _), (7, _), (8, _), (9, _)]) (by repeat (first | exact trivial | refine ⟨rfl, ?_⟩)) ?_
  refine c_joinb (d := 29) (decide (s1.2 = true ∨ n < 0 ∨ most < n)) ?_ ?_
  rotate_left
  · intro J
    refine c_region ?_
    refine o_val (v_fieldAddrC 2 Tryz.underlying48 rfl ti4 (by decide) rfl) (dd rfl) ?_
    refine o_val (v_load lone4 rfl (hX (by repeat constructor)) rfl) (dd rfl) ?_
    refine o_val (v_move rfl) (dd rfl) ?_
    first | refine o_guard_f rfl rfl (fun g21 => ?_) (fun g21 => ?_) | refine o_guard rfl rfl (fun g21 => ?_) (fun g21 => ?_)
    · refine o_val (v_move rfl) (dd rfl) ?_
      refine o_on rfl rfl ?_
      refine o_val (v_lt rfl rfl) (dd rfl) ?_
      refine o_val (v_pick_f rfl rfl) (dd rfl) ?_
      refine o_val (v_move rfl) (dd rfl) ?_
      first | refine o_guard_f rfl rfl (fun g25 => ?_) (fun g25 => ?_) | refine o_guard rfl rfl (fun g25 => ?_) (fun g25 => ?_)
      · refine o_val (v_move rfl) (dd rfl) ?_
        refine o_on rfl rfl ?_
        refine o_val (v_move rfl) (dd rfl) ?_
        refine o_on rfl rfl ?_
        refine o_val (v_gt rfl rfl) (dd rfl) ?_
        refine o_val (v_pick_f rfl rfl) (dd rfl) ?_
        refine o_nil ?_
        exact c_use J ⟨Env.as rfl (congrArg Value.bool (by first | rfl | (simp_all; done) | (simp_all; omega) | (simp; omega))), (by repeat (first | exact trivial | refine ⟨rfl, ?_⟩))⟩ (by first | exact Ent.refl _ | exact eX (by repeat constructor))
      · refine o_off rfl rfl rfl (dd rfl) ?_
        refine o_off rfl rfl rfl (dd rfl) ?_
        refine o_off rfl rfl rfl (dd rfl) ?_
        refine o_val (v_pick_t rfl rfl) (dd rfl) ?_
        refine o_nil ?_
        exact c_use J ⟨Env.as rfl (congrArg Value.bool (by first | rfl | (simp_all; done) | (simp_all; omega) | (simp; omega))), (by repeat (first | exact trivial | refine ⟨rfl, ?_⟩))⟩ (by first | exact Ent.refl _ | exact eX (by repeat constructor))
    · refine o_off rfl rfl rfl (dd rfl) ?_
      refine o_off rfl rfl rfl (dd rfl) ?_
      refine o_val (v_pick_t rfl rfl) (dd rfl) ?_
      refine o_val (v_move rfl) (dd rfl) ?_
      refine o_off rfl rfl rfl (dd rfl) ?_
      refine o_off rfl rfl rfl (dd rfl) ?_
      refine o_off rfl rfl rfl (dd rfl) ?_
      refine o_val (v_pick_t rfl rfl) (dd rfl) ?_
      refine o_nil ?_
      exact c_use J ⟨Env.as rfl (congrArg Value.bool (by first | rfl | (simp_all; done) | (simp_all; omega) | (simp; omega))), (by repeat (first | exact trivial | refine ⟨rfl, ?_⟩))⟩ (by first | exact Ent.refl _ | exact eX (by repeat constructor))
  refine c_cond_p rfl (fun hq => ?_) (fun hq => ?_)
  · rw [if_pos hq]
    refine c_seq ?_
    refine c_region ?_
    refine o_val (v_load_all ⟨_, Tryz.underlying48⟩ ti48 rfl (hX (by repeat constructor)) rfl) (dd rfl) ?_
    refine o_step (s_callf cl92 (hS) rfl (dd rfl) (pXs (by repeat constructor)) fun _ _ => ?_)
    refine o_step (s_store_all ti48 rfl rfl (by first | exact CellsV.lit rfl | exact CellsV.one (by first | exact OneC.lit rfl | exact OneC.sl (hX (by repeat constructor)) )) (by repeat (first | exact OneAll.nil | (refine OneAll.cons ?_ ?_; · first | exact OneC.lit rfl | exact OneC.sl (hX (by repeat constructor)) ) | exact OneAll.rd (hX (by repeat constructor)))) rfl (pB (by repeat constructor)) rfl (?_))
    refine o_val (v_assign rfl) (dd rfl) ?_
    refine o_nil ?_
    refine c_ret_ct Tryz.func62 rfl ⟨_, Tryz.underlying48⟩ ti48 rfl rfl (hX (by repeat constructor)) fun w O hS => ?_
    exact ⟨.slice none 0 0, rfl, trivial, Ent.get hS (eX (by repeat constructor))⟩
  · rw [if_neg hq]
    have hb1 : s1.2 = false := by cases e : s1.2 with | false => rfl | true => exact absurd (.inl e) hq
    refine c_skip ?_
    refine c_seq ?_
    refine c_region ?_
    refine o_val (v_assign rfl) (dd rfl) ?_
    refine o_nil ?_
    refine c_seq ?_
    refine c_seq ?_
    refine c_region ?_
    refine o_val (v_assign rfl) (dd rfl) ?_
    refine o_nil ?_
    refine c_block ?_
    refine c_loopR (γ := Nat × St9 × List ByteArray × Value) [(2, _), (3, _), (6, _), (7, _), (8, _), (9, _)] (fun g => n.toNat - g.1) (fun g => g.1 ≤ n.toNat ∧ g.2.1.2 = false ∧ EndsB B g.2.1 ∧ g.2.2.1.length = g.1 ∧ takeMany (takeText each) (n.toNat - g.1) g.2.1 g.2.2.1 = takeMany (takeText each) n.toNat s1 []) (fun g => [(11, .int .i64 g.1), (10, g.2.2.2)]) (fun g => [Blk b3 48 [.string B, .int .i64 (plc B s), .bool s.2], Blk b6 48 [.string ⟨#[]⟩, .int .i64 0, .bool false], Blk b8 48 [.string B, .int .i64 (plc B g.2.1), .bool g.2.1.2], Own eStr 9 g.2.2.2 g.2.2.1]) ((0, s1, [], .slice none 0 0)) (⟨Nat.zero_le _, hb1, hgn, rfl, rfl⟩) (by repeat (first | exact trivial | refine ⟨rfl, ?_⟩)) (eX (by repeat constructor)) ?_
    rintro ⟨k, sk, out, v⟩ ⟨hk, hbk, hEk, hlk, hTk⟩ IH
    dsimp only at hk hbk hEk hlk hTk ⊢
    have hTT := takeTextRef_con B sk each hB hEk
    unfold inS inV at hTT
    try dsimp only [List.cons_append, List.nil_append]
    refine c_seq ?_
    refine c_seq ?_
    refine c_region ?_
    refine o_val (v_move rfl) (dd rfl) ?_
    refine o_val (v_move rfl) (dd rfl) ?_
    refine o_val (v_lt rfl rfl) (dd rfl) ?_
    refine o_nil ?_
    refine c_cond_p rfl (fun hlt => ?_) (fun hlt => ?_)
    · have hkn : k < n.toNat := by omega
      have hst := takeMany_step (takeText each) (out := out) hkn hbk
      refine c_skip ?_
      refine c_seq ?_
      refine c_block ?_
      refine c_seq ?_
      refine c_region ?_
      refine o_val (v_load_all ⟨_, Tryz.underlying48⟩ ti48 rfl (hX (by repeat constructor)) rfl) (dd rfl) ?_
      refine o_val (v_move rfl) (dd rfl) ?_
      refine o_step (s_callf cl61 (hTT) rfl (dd rfl) (pXs (by repeat constructor)) fun _ _ => ?_)
      refine o_val (v_move rfl) (dd rfl) ?_
      refine o_val (v_extract rfl rfl) (dd rfl) ?_
      refine o_val (v_extract rfl rfl) (dd rfl) ?_
      refine o_step (s_alloc ti48 (dd rfl) (fun b12 => ?_))
      refine o_step (s_store_all ti48 rfl rfl (by first | exact CellsV.lit rfl | exact CellsV.one (by first | exact OneC.lit rfl | exact OneC.sl (hX (by repeat constructor)) )) (by repeat (first | exact OneAll.nil | (refine OneAll.cons ?_ ?_; · first | exact OneC.lit rfl | exact OneC.sl (hX (by repeat constructor)) ) | exact OneAll.rd (hX (by repeat constructor)))) rfl (pB (by repeat constructor)) rfl (?_))
      refine o_val (v_assign rfl) (dd rfl) ?_
      refine o_nil ?_
      refine c_seq ?_
      refine c_seq ?_
      refine c_region ?_
      refine o_val (v_fieldAddrC 2 Tryz.underlying48 rfl ti4 (by decide) rfl) (dd rfl) ?_
      refine o_val (v_load lone4 rfl (hX (by repeat constructor)) rfl) (dd rfl) ?_
      refine o_nil ?_
      refine c_cond rfl (fun hb => ?_) (fun hb => ?_)
      · have hbad := takeMany_bad (takeText each) (n.toNat - (k + 1)) (takeText each sk).1 (out ++ [(takeText each sk).2]) hb
        refine c_seq ?_
        refine c_region ?_
        refine o_val (v_load_all ⟨_, Tryz.underlying48⟩ ti48 rfl (hX (by repeat constructor)) rfl) (dd rfl) ?_
        refine o_step (s_callf cl92 (hS) rfl (dd rfl) (pXs (by repeat constructor)) fun _ _ => ?_)
        refine o_step (s_store_all ti48 rfl rfl (by first | exact CellsV.lit rfl | exact CellsV.one (by first | exact OneC.lit rfl | exact OneC.sl (hX (by repeat constructor)) )) (by repeat (first | exact OneAll.nil | (refine OneAll.cons ?_ ?_; · first | exact OneC.lit rfl | exact OneC.sl (hX (by repeat constructor)) ) | exact OneAll.rd (hX (by repeat constructor)))) rfl (pB (by repeat constructor)) rfl (?_))
        refine o_val (v_assign rfl) (dd rfl) ?_
        refine o_nil ?_
        refine c_ret_ct Tryz.func62 rfl ⟨_, Tryz.underlying48⟩ ti48 rfl rfl (hX (by repeat constructor)) fun w O hS => ?_
        exact ⟨.slice none 0 0, by rw [← hTk, hst, hbad, if_pos hb]; rfl, trivial, by rw [← hTk, hst, hbad, if_pos hb]; exact Ent.get hS (eX (by repeat constructor))⟩
      · refine c_skip ?_
        refine c_seq ?_
        refine c_region ?_
        refine o_val (v_load_all ⟨_, Tryz.underlying48⟩ ti48 rfl (hX (by repeat constructor)) rfl) (dd rfl) ?_
        refine o_step (s_store_all ti48 rfl rfl (by first | exact CellsV.lit rfl | exact CellsV.one (by first | exact OneC.lit rfl | exact OneC.sl (hX (by repeat constructor)) )) (by repeat (first | exact OneAll.nil | (refine OneAll.cons ?_ ?_; · first | exact OneC.lit rfl | exact OneC.sl (hX (by repeat constructor)) ) | exact OneAll.rd (hX (by repeat constructor)))) rfl (pB (by repeat constructor)) rfl (?_))
        refine o_nil ?_
        refine c_region ?_
        refine o_val (v_move rfl) (dd rfl) ?_
        refine o_val (v_move rfl) (dd rfl) ?_
        refine o_step (s_buildSlice Tryz.underlying28 ti9 rfl rfl rfl (by decide) (by decide) (beside_str [(takeText each sk).2]) rfl rfl (dd rfl) fun v1 => ?_)
        refine o_step (s_append Tryz.underlying28 ti9 rfl (by decide) rfl rfl (dd rfl) (pB (by repeat constructor)) (pX (by repeat constructor)) rfl (by (first | omega | (simp only [maxLen, List.length_append, List.length_drop, List.length_take, List.length_nil, List.length_cons]; omega))) (by (first | omega | (simp only [maxLen, List.length_append, List.length_drop, List.length_take, List.length_nil, List.length_cons]; omega))) fun v2 => ?_)
        refine o_val (v_assign rfl) (dd rfl) ?_
        refine o_nil ?_
        refine c_inBlock ?_
        refine c_region ?_
        refine o_val (v_move rfl) (dd rfl) ?_
        refine o_val ((by first | exact v_add64 rfl rfl (by omega) | exact v_add rfl rfl)) (dd rfl) ?_
        refine o_val (v_assign rfl) (dd rfl) ?_
        refine o_nil ?_
        refine c_use (IH ((k + 1, (takeText each sk).1, out ++ [(takeText each sk).2], v2)) (by first | omega | (dsimp only; omega)) (⟨by dsimp only; omega, hb, hEk.goes (goes_text each), by simp [hlk], hst.symm.trans hTk⟩)) (by repeat (first | exact trivial | refine ⟨rfl, ?_⟩)) (eX (by repeat constructor))
    · have hend := takeMany_end (takeText each) (n := n.toNat) (k := k) (s := sk) (out := out) (by omega)
      refine c_exit rfl ?_
      refine c_seq ?_
      refine c_region ?_
      refine o_val (v_load_all ⟨_, Tryz.underlying48⟩ ti48 rfl (hX (by repeat constructor)) rfl) (dd rfl) ?_
      refine o_val (v_move rfl) (dd rfl) ?_
      refine o_step (s_store_all ti48 rfl rfl (by first | exact CellsV.lit rfl | exact CellsV.one (by first | exact OneC.lit rfl | exact OneC.sl (hX (by repeat constructor)) )) (by repeat (first | exact OneAll.nil | (refine OneAll.cons ?_ ?_; · first | exact OneC.lit rfl | exact OneC.sl (hX (by repeat constructor)) ) | exact OneAll.rd (hX (by repeat constructor)))) rfl (pB (by repeat constructor)) rfl (?_))
      refine o_val (v_assign rfl) (dd rfl) ?_
      refine o_nil ?_
      refine c_ret_ct Tryz.func62 rfl ⟨_, Tryz.underlying48⟩ ti48 rfl rfl (hX (by repeat constructor)) fun w O hS => ?_
      exact ⟨v, by rw [← hTk, hend, if_neg (by rw [hbk]; decide)]; rfl, trivial, by rw [← hTk, hend, if_neg (by rw [hbk]; decide)]; exact Ent.get hS (eX (by repeat constructor))⟩
end Go.Proofs.YtmgkeippepeggaaGreatDoor
/- Chapter 09: the program's reader: texts. -/
namespace Go.Proofs.YtmgkeippepeggaaGreatDoor
open Go Go.SL Go.Lib
/-- What 'some' reads ahead of 'whole'. -/
def somR {α : Type} (take : St9 → St9 × α) (most : Int) (s : St9) : St9 × List α := takeMany take (takeNum s).2.toNat (if (takeNum s).2 < 0 ∨ most < (takeNum s).2 then spoil9 (takeNum s).1 else (takeNum s).1) []
theorem some_as {α : Type} (take : St9 → St9 × α) (most : Int) (s : St9) : takeSome take most s = if (somR take most s).1.2 = true then (spoil9 s, []) else somR take most s := by
  unfold takeSome somR
  by_cases h : (takeNum s).2 < 0 ∨ most < (takeNum s).2
  · rw [if_pos (.inr h), if_pos h, takeMany_bad take _ _ _ rfl]; exact (if_pos rfl).symm
  · rw [if_neg h]
    by_cases hb : (takeNum s).1.2 = true
    · rw [if_pos (.inl hb), takeMany_bad take _ _ _ hb, if_pos hb]
    · rw [if_neg (by rintro (q | q); exact hb q; exact h q)]
attribute [local irreducible] Cfg Kont StepK Val Con Qops Any Sl Own Blk BlkR Rd Pu ExA AllA Has Pick Ent Elem Beside Callable TI Lone OwnO AndA
set_option maxRecDepth 100000 in
theorem inEach_con (i bi be : Nat) (bv : Value) (s : St9) (each : Int) (te : TypeId) (pe : Value) : Con Tryz.prog 58 [ptr bi, ptr be] [BlkR bi 40 [ptr i], BlkR be 3 [.int .i64 each], Blk i 92 [bv, .bool s.2], Sl eByte bv s.1, G1 te pe, G3] (γ := Value) (fun _ => .string (takeText each s).2) (fun _ => True) (fun g => [Blk i 92 [g, .bool (takeText each s).1.2], Sl eByte g (takeText each s).1.1]) := by
  have h := inText_con i bv s each te pe
  refine con_of Tryz.func58 rfl (dd rfl) fun w0 O0 => ?_
  refine c_seq ?_
  refine c_region ?_
  refine o_val (v_assign rfl) (dd rfl) ?_
  refine o_nil ?_
  refine c_seq ?_
  refine c_region ?_
  refine o_val (v_load lone40 rfl (hX (by repeat constructor)) rfl) (dd rfl) ?_
  refine o_val (v_load lone3 rfl (hX (by repeat constructor)) rfl) (dd rfl) ?_
  refine o_step (s_callf cl16 (h) rfl (dd rfl) (pXs (by repeat constructor)) fun g _ => ?_)
  refine o_val (v_assign rfl) (dd rfl) ?_
  refine o_nil ?_
  refine c_ret1 Tryz.func58 rfl rfl fun w O hS => ?_
  exact ⟨g, rfl, trivial, Ent.get hS (eX (by repeat constructor))⟩
set_option maxRecDepth 100000 in
theorem someS1_con (i b3 b4 b5 b7 : Nat) (bv : Value) (s : St9) (most : Int) (bi be : Nat) (each : Int) (te : TypeId) (pe : Value) : Con Tryz.prog 88 [ptr b3, ptr b4, ptr b7, ptr b5] [BlkR b3 40 [ptr i], BlkR b4 3 [.int .i64 most], Blk b7 28 [.slice none 0 0], BlkR b5 99 [.func (.func 58) #[] #[ptr bi, ptr be]], Blk i 92 [bv, .bool s.2], Sl eByte bv s.1, G1 te pe, G3, BlkR bi 40 [ptr i], BlkR be 3 [.int .i64 each]] (γ := Value × Value) (fun g => g.2) (fun _ => True) (fun g => [Blk i 92 [g.1, .bool (somR (takeText each) most s).1.2], Sl eByte g.1 (somR (takeText each) most s).1.1, Own eStr 9 g.2 (somR (takeText each) most s).2]) := by
  have hfar := num_far (s := s)
  have hN := inNum_con i bv s te pe
  unfold somR
  obtain ⟨s1, n, hn⟩ : ∃ s1 n, takeNum s = (s1, n) := ⟨_, _, rfl⟩
  rw [hn] at hN hfar ⊢
  dsimp only at hN hfar ⊢
  unfold far9 at hfar
  refine con_of Tryz.func88 rfl (dd rfl) fun w0 O0 => ?_
  refine c_seq ?_
  refine c_region ?_
  refine o_val (v_assign rfl) (dd rfl) ?_
  refine o_nil ?_
  refine c_seq ?_
  refine c_region ?_
  refine o_val (v_load lone40 rfl (hX (by repeat constructor)) rfl) (dd rfl) ?_
  refine o_step (s_callf cl14 (hN) rfl (dd rfl) (pXs (by repeat constructor)) fun v1 _ => ?_)
  refine o_val (v_assign rfl) (dd rfl) ?_
  refine o_nil ?_
  refine c_seq ?_
  refine c_seq ?_
  refine c_env (env' := [(0, _), (1, _), (2, _), (3, _), (4, _), (5, _)]) (by repeat (first | exact trivial | refine ⟨rfl, ?_⟩)) ?_
  refine c_joinb (d := 15) (decide (n < 0 ∨ most < n)) ?_ ?_
  rotate_left
  · intro J
    refine c_region ?_
    refine o_val (v_move rfl) (dd rfl) ?_
    refine o_val (v_lt rfl rfl) (dd rfl) ?_
    refine o_val (v_move rfl) (dd rfl) ?_
    first | refine o_guard_f rfl rfl (fun g11 => ?_) (fun g11 => ?_) | refine o_guard rfl rfl (fun g11 => ?_) (fun g11 => ?_)
    · refine o_val (v_move rfl) (dd rfl) ?_
      refine o_on rfl rfl ?_
      refine o_val (v_load lone3 rfl (hX (by repeat constructor)) rfl) (dd rfl) ?_
      refine o_on rfl rfl ?_
      refine o_val (v_gt rfl rfl) (dd rfl) ?_
      refine o_val (v_pick_f rfl rfl) (dd rfl) ?_
      refine o_nil ?_
      exact c_use J ⟨Env.as rfl (congrArg Value.bool (by first | rfl | (simp_all; done) | (simp_all; omega) | (simp; omega))), (by repeat (first | exact trivial | refine ⟨rfl, ?_⟩))⟩ (by first | exact Ent.refl _ | exact eX (by repeat constructor))
    · refine o_off rfl rfl rfl (dd rfl) ?_
      refine o_off rfl rfl rfl (dd rfl) ?_
      refine o_off rfl rfl rfl (dd rfl) ?_
      refine o_val (v_pick_t rfl rfl) (dd rfl) ?_
      refine o_nil ?_
      exact c_use J ⟨Env.as rfl (congrArg Value.bool (by first | rfl | (simp_all; done) | (simp_all; omega) | (simp; omega))), (by repeat (first | exact trivial | refine ⟨rfl, ?_⟩))⟩ (by first | exact Ent.refl _ | exact eX (by repeat constructor))
  obtain ⟨s2, hs2⟩ : ∃ s2, s2 = (if n < 0 ∨ most < n then spoil9 s1 else s1) := ⟨_, rfl⟩
  rw [← hs2]
  refine c_joinR (γ := Unit) [(0, _), (2, _), (3, _), (4, _), (5, _)] (fun _ => True) (fun _ => []) (fun _ => [BlkR b3 40 [ptr i], BlkR b4 3 [.int .i64 most], Blk b7 28 [.slice none 0 0], BlkR b5 99 [.func (.func 58) #[] #[ptr bi, ptr be]], Blk i 92 [v1, .bool s2.2], Sl eByte v1 s2.1, G1 te pe, G3, BlkR bi 40 [ptr i], BlkR be 3 [.int .i64 each]]) (by repeat (first | exact trivial | refine ⟨rfl, ?_⟩)) ?_ ?_
  rotate_left
  · intro MEET
    skip
    refine c_cond_p rfl (fun hq => ?_) (fun hq => ?_)
    · have e2 : s2 = (s1.1, true) := by rw [hs2, if_pos hq]; rfl
      subst e2
      refine c_region ?_
      refine o_val (v_load lone40 rfl (hX (by repeat constructor)) rfl) (dd rfl) ?_
      refine o_val (v_nilCheck rfl) (dd rfl) ?_
      refine o_val (v_fieldAddrC 1 Tryz.underlying92 rfl ti4 (by decide) rfl) (dd rfl) ?_
      refine o_step (s_store1 ti4 rfl rfl (by first | exact OneC.lit rfl | exact OneC.sl (hX (by repeat constructor)) ) (pB (by repeat constructor)) (by first | decide | exact Nat.le_of_ble_eq_true rfl | simp) (by first | (dsimp only [List.set_cons_succ, List.set_cons_zero]; first | done | exact rfl) | rfl) (?_))
      refine o_nil ?_
      refine c_use (MEET (()) (trivial)) (by repeat (first | exact trivial | refine ⟨rfl, ?_⟩)) (eX (by repeat constructor))
    · have e2 : s2 = s1 := by rw [hs2, if_neg hq]
      subst e2
      refine c_skip ?_
      refine c_use (MEET (()) (trivial)) (by repeat (first | exact trivial | refine ⟨rfl, ?_⟩)) (eX (by repeat constructor))
  rintro ⟨⟩ -
  dsimp only [List.cons_append, List.nil_append]
  refine c_seq ?_
  refine c_seq ?_
  refine c_region ?_
  refine o_val (v_assign rfl) (dd rfl) ?_
  refine o_nil ?_
  refine c_block ?_
  refine c_loopR (γ := Nat × St9 × List ByteArray × Value × Value) [(0, _), (2, _), (3, _), (4, _), (5, _)] (fun g => n.toNat - g.1) (fun g => g.1 ≤ n.toNat ∧ g.2.2.1.length ≤ g.1 ∧ takeMany (takeText each) (n.toNat - g.1) g.2.1 g.2.2.1 = takeMany (takeText each) n.toNat s2 []) (fun g => [(6, .int .i64 g.1)]) (fun g => [BlkR b3 40 [ptr i], BlkR b5 99 [.func (.func 58) #[] #[ptr bi, ptr be]], Blk b7 28 [g.2.2.2.2], Own eStr 9 g.2.2.2.2 g.2.2.1, Blk i 92 [g.2.2.2.1, .bool g.2.1.2], Sl eByte g.2.2.2.1 g.2.1.1, G1 te pe, G3, BlkR bi 40 [ptr i], BlkR be 3 [.int .i64 each]]) ((0, s2, [], v1, .slice none 0 0)) (⟨Nat.zero_le _, Nat.le_refl _, rfl⟩) (by repeat (first | exact trivial | refine ⟨rfl, ?_⟩)) (eX (by repeat constructor)) ?_
  rintro ⟨k, sk, out, r, v⟩ ⟨hk, hlk, hTk⟩ IH
  dsimp only at hk hlk hTk ⊢
  try dsimp only [List.cons_append, List.nil_append]
  refine c_seq ?_
  refine c_seq ?_
  refine c_env (env' := [(0, _), (2, _), (3, _), (4, _), (5, _), (6, _)]) (by repeat (first | exact trivial | refine ⟨rfl, ?_⟩)) ?_
  refine c_joinb (d := 28) (decide ((k : Int) < n ∧ sk.2 = false)) ?_ ?_
  rotate_left
  · intro J
    refine c_region ?_
    refine o_val (v_move rfl) (dd rfl) ?_
    refine o_val (v_move rfl) (dd rfl) ?_
    refine o_val (v_lt rfl rfl) (dd rfl) ?_
    refine o_val (v_move rfl) (dd rfl) ?_
    first | refine o_guard_t rfl rfl (fun g22 => ?_) (fun g22 => ?_) | refine o_guard rfl rfl (fun g22 => ?_) (fun g22 => ?_)
    · refine o_val (v_load lone40 rfl (hX (by repeat constructor)) rfl) (dd rfl) ?_
      refine o_on rfl rfl ?_
      refine o_val (v_nilCheck rfl) (dd rfl) ?_
      refine o_on rfl rfl ?_
      refine o_val (v_fieldAddrC 1 Tryz.underlying92 rfl ti4 (by decide) rfl) (dd rfl) ?_
      refine o_on rfl rfl ?_
      refine o_val (v_load lone4 rfl (hX (by repeat constructor)) rfl) (dd rfl) ?_
      refine o_on rfl rfl ?_
      refine o_val (v_not rfl) (dd rfl) ?_
      refine o_val (v_pick_t rfl rfl) (dd rfl) ?_
      refine o_nil ?_
      exact c_use J ⟨Env.as rfl (congrArg Value.bool (by first | rfl | (simp_all; done) | (simp_all; omega))), (by repeat (first | exact trivial | refine ⟨rfl, ?_⟩))⟩ (by first | exact Ent.refl _ | exact eX (by repeat constructor))
    · refine o_off rfl rfl rfl (dd rfl) ?_
      refine o_off rfl rfl rfl (dd rfl) ?_
      refine o_off rfl rfl rfl (dd rfl) ?_
      refine o_off rfl rfl rfl (dd rfl) ?_
      refine o_off rfl rfl rfl (dd rfl) ?_
      refine o_val (v_pick_f rfl rfl) (dd rfl) ?_
      refine o_nil ?_
      exact c_use J ⟨Env.as rfl (congrArg Value.bool (by first | rfl | (simp_all; done) | (simp_all; omega))), (by repeat (first | exact trivial | refine ⟨rfl, ?_⟩))⟩ (by first | exact Ent.refl _ | exact eX (by repeat constructor))
  refine c_cond_p rfl (fun hlt => ?_) (fun hlt => ?_)
  · have hst := takeMany_step (takeText each) (n := n.toNat) (k := k) (out := out) (by omega) hlt.2
    refine c_skip ?_
    refine c_seq ?_
    refine c_block ?_
    refine c_heldk 5 [Blk b7 28 [v], BlkR b5 99 [.func (.func 58) #[] #[ptr bi, ptr be]]] rfl ?_
    refine k_take 0 rfl (by kernel_rfl) (by kernel_rfl) (by kernel_rfl) rfl (by kernel_rfl) (v_load lone28 rfl (hX (by repeat constructor)) rfl) (eX (by repeat constructor)) (dd rfl) ?_
    refine k_take 1 rfl (by kernel_rfl) (by kernel_rfl) (by kernel_rfl) rfl (by kernel_rfl) (v_load lone99 rfl (hX (by repeat constructor)) rfl) (eX (by repeat constructor)) (dd rfl) ?_
    refine k_one 2 rfl (by kernel_rfl) fun hc_ => (s_call cl58 (inEach_con i bi be r sk each te pe) (first := []) (cap := [ptr bi, ptr be]) rfl rfl (by rfl) (dd rfl) (pXs (by repeat constructor)) (fun w2 _ => k_on hc_ (eX (by repeat constructor)) ?_))
    refine k_one 3 rfl (by kernel_rfl) fun hc_ => (s_buildSlice Tryz.underlying28 ti9 rfl rfl rfl (by decide) (by decide) (beside_str [(takeText each sk).2]) rfl rfl (dd rfl) (fun v2 => k_on hc_ (eX (by repeat constructor)) ?_))
    refine k_one 4 rfl (by kernel_rfl) fun hc_ => (s_append Tryz.underlying28 ti9 rfl (by decide) rfl rfl (dd rfl) (pB (by repeat constructor)) (pX (by repeat constructor)) rfl (by (first | omega | (simp only [maxLen, List.length_append, List.length_drop, List.length_take, List.length_nil, List.length_cons]; omega))) (by (first | omega | (simp only [maxLen, List.length_append, List.length_drop, List.length_take, List.length_nil, List.length_cons]; omega))) (fun v3 => k_on hc_ (eX (by repeat constructor)) ?_))
    refine k_one 5 rfl (by kernel_rfl) fun hc_ => (s_store1 ti28 rfl rfl (by first | exact OneC.lit rfl | exact OneC.sl (hX (by repeat constructor)) ) (pB (by repeat constructor)) (by first | decide | exact Nat.le_of_ble_eq_true rfl | simp) (by first | (dsimp only [List.set_cons_succ, List.set_cons_zero]; first | done | exact rfl) | rfl) (k_last hc_ (by kernel_rfl) ?_))
    refine k_done (by kernel_rfl) ?_ _
    refine c_inBlock ?_
    refine c_region ?_
    refine o_val (v_move rfl) (dd rfl) ?_
    refine o_val ((by first | exact v_add64 rfl rfl (by omega) | exact v_add rfl rfl)) (dd rfl) ?_
    refine o_val (v_assign rfl) (dd rfl) ?_
    refine o_nil ?_
    refine c_use (IH ((k + 1, ((takeText each) sk).1, out ++ [((takeText each) sk).2], w2, v3)) (by first | omega | (dsimp only; omega)) (⟨by dsimp only; omega, by simp; omega, hst.symm.trans hTk⟩)) (by repeat (first | exact trivial | refine ⟨rfl, ?_⟩)) (eX (by repeat constructor))
  · have hend : takeMany (takeText each) (n.toNat - k) sk out = (sk, out) := by
      cases hb : sk.2 with
      | true => exact takeMany_bad _ _ _ _ hb
      | false => exact takeMany_end _ (by have : ¬ (k : Int) < n := fun q => hlt ⟨q, hb⟩; omega)
    refine c_exit rfl ?_
    refine c_seq ?_
    refine c_region ?_
    refine o_val (v_load lone28 rfl (hX (by repeat constructor)) rfl) (dd rfl) ?_
    refine o_val (v_assign rfl) (dd rfl) ?_
    refine o_nil ?_
    refine c_ret1 Tryz.func88 rfl rfl fun w O hS => ?_
    exact ⟨(r, v), rfl, trivial, by rw [← hTk, hend]; exact Ent.get hS (eX (by repeat constructor))⟩
set_option maxRecDepth 100000 in
theorem alwaysS_con (v : Value) : Con Tryz.prog 90 [v] [] (γ := Unit) (fun _ => .bool true) (fun _ => True) (fun _ => []) := by
  refine con_of Tryz.func90 rfl (dd rfl) fun w0 O0 => ?_
  refine c_seq ?_
  refine c_region ?_
  refine o_val (v_assign rfl) (dd rfl) ?_
  refine o_nil ?_
  refine c_seq ?_
  refine c_region ?_
  refine o_val (v_assign rfl) (dd rfl) ?_
  refine o_nil ?_
  refine c_ret1 Tryz.func90 rfl rfl fun w O hS => ?_
  exact ⟨(), rfl, trivial, trivial⟩
set_option maxRecDepth 100000 in
theorem wholeS_con (i b3 b4 b5 b7 : Nat) (bv : Value) (s : St9) (most : Int) (bi be : Nat) (each : Int) (te : TypeId) (pe : Value) : Con Tryz.prog 89 [ptr i, .func (.func 88) #[] #[ptr b3, ptr b4, ptr b7, ptr b5], .func (.func 90) #[] #[]] [BlkR b3 40 [ptr i], BlkR b4 3 [.int .i64 most], Blk b7 28 [.slice none 0 0], BlkR b5 99 [.func (.func 58) #[] #[ptr bi, ptr be]], Blk i 92 [bv, .bool s.2], Sl eByte bv s.1, G1 te pe, G3, BlkR bi 40 [ptr i], BlkR be 3 [.int .i64 each]] (γ := Value × Value) (fun g => g.2) (fun _ => True) (fun g => [Blk i 92 [g.1, .bool (takeSome (takeText each) most s).1.2], Sl eByte g.1 (takeSome (takeText each) most s).1.1, Own eStr 9 g.2 (takeSome (takeText each) most s).2]) := by
  have h1 := someS1_con i b3 b4 b5 b7 bv s most bi be each te pe
  have h2 := fun v => alwaysS_con v
  rw [some_as]
  refine con_of Tryz.func89 rfl (dd rfl) fun w0 O0 => ?_
  refine c_seq ?_
  refine c_region ?_
  refine o_val (v_assign rfl) (dd rfl) ?_
  refine o_nil ?_
  refine c_seq ?_
  refine c_region ?_
  refine o_val (v_move rfl) (dd rfl) ?_
  refine o_val (v_nilCheck rfl) (dd rfl) ?_
  refine o_val (v_fieldAddrC 0 Tryz.underlying92 rfl ti25 (by decide) rfl) (dd rfl) ?_
  refine o_val (v_load lone25 rfl (hX (by repeat constructor)) rfl) (dd rfl) ?_
  refine o_val (v_assign rfl) (dd rfl) ?_
  refine o_nil ?_
  refine c_seq ?_
  refine c_region ?_
  refine o_val (v_move rfl) (dd rfl) ?_
  refine o_step (s_call cl88 (h1) (first := []) (cap := [ptr b3, ptr b4, ptr b7, ptr b5]) rfl rfl (by rfl) (dd rfl) (pXs (by repeat constructor)) fun g _ => ?_)
  refine o_val (v_assign rfl) (dd rfl) ?_
  refine o_nil ?_
  refine c_seq ?_
  refine c_seq ?_
  refine c_region ?_
  refine o_val (v_move rfl) (dd rfl) ?_
  refine o_val (v_nilCheck rfl) (dd rfl) ?_
  refine o_val (v_fieldAddrC 1 Tryz.underlying92 rfl ti4 (by decide) rfl) (dd rfl) ?_
  refine o_val (v_load lone4 rfl (hX (by repeat constructor)) rfl) (dd rfl) ?_
  refine o_val (v_not rfl) (dd rfl) ?_
  refine o_val (v_move rfl) (dd rfl) ?_
  refine o_guard rfl rfl (fun hb => ?_) (fun hb => ?_)
  · have hb2 : (somR (takeText each) most s).1.2 = false := by simpa using hb
    rw [if_neg (by rw [hb2]; decide)]
    refine o_val (v_move rfl) (dd rfl) ?_
    refine o_on rfl rfl ?_
    refine o_val (v_move rfl) (dd rfl) ?_
    refine o_on rfl rfl ?_
    refine o_step (s_call cl90 (h2 g.2) (first := []) (cap := []) rfl rfl (by rfl) (dd rfl) (pXs (by repeat constructor)) fun _ _ => ?_)
    refine o_val (v_pick_t rfl rfl) (dd rfl) ?_
    refine o_nil ?_
    refine c_cond_t rfl ?_
    refine c_seq ?_
    refine c_region ?_
    refine o_val (v_move rfl) (dd rfl) ?_
    refine o_val (v_assign rfl) (dd rfl) ?_
    refine o_nil ?_
    refine c_ret1 Tryz.func89 rfl rfl fun w O hS => ?_
    exact ⟨g, rfl, trivial, Ent.get hS (eX (by repeat constructor))⟩
  · have hb2 : (somR (takeText each) most s).1.2 = true := by simpa using hb
    rw [if_pos hb2]
    refine o_off rfl rfl rfl (dd rfl) ?_
    refine o_off rfl rfl rfl (dd rfl) ?_
    refine o_off rfl rfl rfl (dd rfl) ?_
    refine o_val (v_pick_f rfl rfl) (dd rfl) ?_
    refine o_nil ?_
    refine c_cond_f rfl ?_
    refine c_skip ?_
    refine c_seq ?_
    refine c_region ?_
    refine o_val (v_assign rfl) (dd rfl) ?_
    refine o_nil ?_
    refine c_seq ?_
    refine c_region ?_
    refine o_val (v_move rfl) (dd rfl) ?_
    refine o_val (v_move rfl) (dd rfl) ?_
    refine o_val (v_move rfl) (dd rfl) ?_
    refine o_val (v_nilCheck rfl) (dd rfl) ?_
    refine o_val (v_fieldAddrC 0 Tryz.underlying92 rfl ti25 (by decide) rfl) (dd rfl) ?_
    refine o_step (s_store1 ti25 rfl rfl (by first | exact OneC.lit rfl | exact OneC.sl (hX (by repeat constructor)) ) (pB (by repeat constructor)) (by first | decide | exact Nat.le_of_ble_eq_true rfl | simp) (by first | (dsimp only [List.set_cons_succ, List.set_cons_zero]; first | done | exact rfl) | rfl) (?_))
    refine o_val (v_nilCheck rfl) (dd rfl) ?_
    refine o_val (v_fieldAddrC 1 Tryz.underlying92 rfl ti4 (by decide) rfl) (dd rfl) ?_
    refine o_step (s_store1 ti4 rfl rfl (by first | exact OneC.lit rfl | exact OneC.sl (hX (by repeat constructor)) ) (pB (by repeat constructor)) (by first | decide | exact Nat.le_of_ble_eq_true rfl | simp) (by first | (dsimp only [List.set_cons_succ, List.set_cons_zero]; first | done | exact rfl) | rfl) (?_))
    refine o_nil ?_
    refine c_seq ?_
    refine c_region ?_
    refine o_val (v_move rfl) (dd rfl) ?_
    refine o_val (v_assign rfl) (dd rfl) ?_
    refine o_nil ?_
    refine c_ret1 Tryz.func89 rfl rfl fun w O hS => ?_
    exact ⟨(bv, .slice none 0 0), rfl, trivial, Ent.get hS (eX (by repeat constructor))⟩
set_option maxRecDepth 100000 in
theorem someS_con (i : Nat) (bv : Value) (s : St9) (most : Int) (bi be : Nat) (each : Int) (te : TypeId) (pe : Value) : Con Tryz.prog 57 [ptr i, .int .i64 most, .func (.func 58) #[] #[ptr bi, ptr be]] [Blk i 92 [bv, .bool s.2], Sl eByte bv s.1, G1 te pe, G3, BlkR bi 40 [ptr i], BlkR be 3 [.int .i64 each]] (γ := Value × Value) (fun g => g.2) (fun _ => True) (fun g => [Blk i 92 [g.1, .bool (takeSome (takeText each) most s).1.2], Sl eByte g.1 (takeSome (takeText each) most s).1.1, Own eStr 9 g.2 (takeSome (takeText each) most s).2]) := by
  refine con_of Tryz.func57 rfl (dd rfl) fun w0 O0 => ?_
  refine c_seq ?_
  refine c_region ?_
  refine o_step (s_box rfl (dd rfl) (fun b3 => ?_))
  refine o_step (s_box rfl (dd rfl) (fun b4 => ?_))
  refine o_step (s_box rfl (dd rfl) (fun b5 => ?_))
  refine o_val (v_assign rfl) (dd rfl) ?_
  refine o_nil ?_
  refine c_seq ?_
  refine c_region ?_
  refine o_step (s_alloc ti28 (dd rfl) (fun b7 => ?_))
  refine o_nil ?_
  refine c_seq ?_
  refine c_region ?_
  refine o_val (v_makeFunc rfl rfl) (dd rfl) ?_
  refine o_val (v_assign rfl) (dd rfl) ?_
  refine o_nil ?_
  refine c_seq ?_
  refine c_region ?_
  refine o_val (v_load lone40 rfl (hX (by repeat constructor)) rfl) (dd rfl) ?_
  refine o_val (v_move rfl) (dd rfl) ?_
  have h := wholeS_con i b3 b4 b5 b7 bv s most bi be each te pe
  refine o_step (s_callf cl89 (h) rfl (dd rfl) (pXs (by repeat constructor)) fun g _ => ?_)
  refine o_val (v_assign rfl) (dd rfl) ?_
  refine o_nil ?_
  refine c_ret1 Tryz.func57 rfl rfl fun w O hS => ?_
  exact ⟨g, rfl, trivial, Ent.get hS (eX (by repeat constructor))⟩
set_option maxRecDepth 100000 in
theorem inTexts_con (i : Nat) (bv : Value) (s : St9) (most each : Int) (te : TypeId) (pe : Value) : Con Tryz.prog 17 [ptr i, .int .i64 most, .int .i64 each] [Blk i 92 [bv, .bool s.2], Sl eByte bv s.1, G1 te pe, G3] (γ := Value × Value) (fun g => g.2) (fun _ => True) (fun g => [Blk i 92 [g.1, .bool (takeTexts most each s).1.2], Sl eByte g.1 (takeTexts most each s).1.1, Own eStr 9 g.2 (takeTexts most each s).2]) := by
  unfold takeTexts
  refine con_of Tryz.func17 rfl (dd rfl) fun w0 O0 => ?_
  refine c_seq ?_
  refine c_region ?_
  refine o_step (s_box rfl (dd rfl) (fun b3 => ?_))
  refine o_step (s_box rfl (dd rfl) (fun b5 => ?_))
  refine o_val (v_assign rfl) (dd rfl) ?_
  refine o_nil ?_
  refine c_seq ?_
  refine c_region ?_
  refine o_val (v_load lone40 rfl (hX (by repeat constructor)) rfl) (dd rfl) ?_
  refine o_val (v_move rfl) (dd rfl) ?_
  refine o_val (v_makeFunc rfl rfl) (dd rfl) ?_
  have h := someS_con i bv s most b3 b5 each te pe
  refine o_step (s_callf cl57 (h) rfl (dd rfl) (pXs (by repeat constructor)) fun g _ => ?_)
  refine o_val (v_assign rfl) (dd rfl) ?_
  refine o_nil ?_
  refine c_ret1 Tryz.func17 rfl rfl fun w O hS => ?_
  exact ⟨g, rfl, trivial, Ent.get hS (eX (by repeat constructor))⟩
end Go.Proofs.YtmgkeippepeggaaGreatDoor
/- Chapter 1's plain laws: what lines, texts and rows of lines come to. No program. -/
namespace L01
abbrev Ls := List ByteArray

def bytesOf : List Ls → Nat
  | [] => 0
  | l :: r => (l.map (·.size)).sum + bytesOf r
def linesOf : List Ls → Nat
  | [] => 0
  | l :: r => l.length + linesOf r
def Stands (xs : Ls) (k : Int) (ps : Ls) : Prop := 0 ≤ k ∧ k.toNat + ps.length ≤ xs.length ∧ (xs.drop k.toNat).take ps.length = ps
instance (xs : Ls) (k : Int) (ps : Ls) : Decidable (Stands xs k ps) := by unfold Stands; infer_instance
def IsFind (xs ps : Ls) (fr r : Int) : Prop := (r = -1 ∧ ∀ a, fr ≤ a → ¬ Stands xs a ps) ∨ (fr ≤ r ∧ Stands xs r ps ∧ ∀ a, fr ≤ a → a < r → ¬ Stands xs a ps)
def IsHead (a b : Ls) (n : Nat) : Prop := n ≤ a.length ∧ n ≤ b.length ∧ a.take n = b.take n ∧ ∀ k, k ≤ a.length → k ≤ b.length → a.take k = b.take k → k ≤ n
def IsTail (a b : Ls) (n : Nat) : Prop := n ≤ a.length ∧ n ≤ b.length ∧ a.drop (a.length - n) = b.drop (b.length - n) ∧ ∀ k, k ≤ a.length → k ≤ b.length → a.drop (a.length - k) = b.drop (b.length - k) → k ≤ n
def RightS (s : ByteArray) : Prop := 10 ∉ s.data.toList ∧ s.size ≤ 60
instance (s : ByteArray) : Decidable (RightS s) := by unfold RightS; infer_instance
def nl : ByteArray := ⟨#[10]⟩
def textS : Ls → ByteArray
  | [] => ByteArray.empty
  | x :: l => x ++ nl ++ textS l
/-- The pieces of a text: a piece ends at each byte 10; what is left behind the last one is one, too, if there is something. -/
def cutGo : List UInt8 → List UInt8 → List (List UInt8)
  | cur, [] => if cur = [] then [] else [cur]
  | cur, b :: l => if b = 10 then cur :: cutGo [] l else cutGo (cur ++ [b]) l
def cutS (s : ByteArray) : Ls := (cutGo [] s.data.toList).map fun l => ⟨l.toArray⟩
end L01
/- Chapter 09: lines: which may be, and which rows are the same (turned from chapter 01's walks). -/
namespace Go.Proofs.YtmgkeippepeggaaGreatDoor
open Go Go.SL L01
attribute [local irreducible] Cfg Kont StepK Val Con Qops Any Sl Own Blk BlkR Rd Pu ExA AllA Has Pick Ent Elem Beside Callable TI Lone OwnO AndA
set_option maxRecDepth 100000 in
/-- slices.Equal and the document's Same. -/
theorem equal_con (v u : Value) (xs ys : Ls) (hx : xs.length ≤ 1000000) (hy : ys.length ≤ 1000000) :
    Con Tryz.prog 104 [v, u] [Sl eStr v xs, Sl eStr u ys] (γ := Unit) (fun _ => .bool (decide (xs = ys))) (fun _ => True) (fun _ => []) := by
  refine con_of Tryz.func104 rfl (dd rfl) fun w0 O0 => ?_
  refine c_seq ?_
  refine c_region ?_
  refine o_val (v_assign rfl) (dd rfl) ?_
  refine o_nil ?_
  refine c_seq ?_
  refine c_seq ?_
  refine c_region ?_
  refine o_val (v_move rfl) (dd rfl) ?_
  refine o_val ((by first | exact v_len_form Tryz.underlying28 rfl | exact v_len_sl Tryz.underlying28 rfl (hX (by repeat constructor)))) (dd rfl) ?_
  refine o_val (v_move rfl) (dd rfl) ?_
  refine o_val ((by first | exact v_len_form Tryz.underlying28 rfl | exact v_len_sl Tryz.underlying28 rfl (hX (by repeat constructor)))) (dd rfl) ?_
  refine o_val (v_ne rfl rfl) (dd rfl) ?_
  refine o_nil ?_
  refine c_cond_p rfl (fun h => ?_) (fun h => ?_)
  · refine c_seq ?_
    refine c_region ?_
    refine o_val (v_assign rfl) (dd rfl) ?_
    refine o_nil ?_
    refine c_ret1 Tryz.func104 rfl rfl fun w O hS => ?_
    exact ⟨(), by rw [decide_eq_false (fun e => h (by rw [e]))], trivial, trivial⟩
  · refine c_skip ?_
    refine c_seq ?_
    refine c_seq ?_
    refine c_region ?_
    refine o_val (v_move rfl) (dd rfl) ?_
    refine o_val ((by first | exact v_len_form Tryz.underlying28 rfl | exact v_len_sl Tryz.underlying28 rfl (hX (by repeat constructor)))) (dd rfl) ?_
    refine o_val (v_move rfl) (dd rfl) ?_
    refine o_nil ?_
    refine c_block ?_
    refine c_loop (γ := Nat) (fun k => xs.length - k) (fun k => k ≤ xs.length ∧ xs.take k = ys.take k) (fun k => [(13, .int .i64 k), (12, .int .i64 xs.length), (0, v), (1, u)]) (fun _ => [Sl eStr v xs, Sl eStr u ys]) 0 ⟨Nat.zero_le _, rfl⟩ ⟨rfl, rfl, rfl, rfl, trivial⟩ (Ent.refl _) ?_
    intro k ⟨hk, he⟩ IH
    try dsimp only [List.cons_append, List.nil_append]
    refine c_seq ?_
    refine c_region ?_
    refine o_val (v_lt rfl rfl) (dd rfl) ?_
    refine o_nil ?_
    refine c_seq ?_
    refine c_cond_p rfl (fun hlt => ?_) (fun hlt => ?_)
    · refine c_skip ?_
      refine c_seq ?_
      refine c_block ?_
      refine c_seq ?_
      refine c_region ?_
      refine o_val (v_move rfl) (dd rfl) ?_
      refine o_val (v_assign rfl) (dd rfl) ?_
      refine o_nil ?_
      refine c_seq ?_
      refine c_quiet rfl (by kernel_rfl) ?_
      refine q_val (v_move rfl) (dd rfl) ?_
      refine q_val (v_move rfl) (dd rfl) ?_
      refine q_val ((by first | exact v_indexAddrN Tryz.underlying28 ti9 rfl rfl (hX (by repeat constructor)) (by omega) | exact v_indexAddr Tryz.underlying28 ti9 rfl rfl (hX (by repeat constructor)) (by omega))) (dd rfl) ?_
      refine q_val (v_load_str lone9 rfl (by repeat (first | exact Elem.sl (List.getElem?_eq_getElem (by omega)) | exact Elem.own (List.getElem?_eq_getElem (by omega)) | exact Elem.ownO (List.getElem?_eq_getElem (by omega)) | apply Elem.there))) (dd rfl) ?_
      refine q_val (v_move rfl) (dd rfl) ?_
      refine q_val (v_move rfl) (dd rfl) ?_
      refine q_val ((by first | exact v_indexAddrN Tryz.underlying28 ti9 rfl rfl (hX (by repeat constructor)) (by omega) | exact v_indexAddr Tryz.underlying28 ti9 rfl rfl (hX (by repeat constructor)) (by omega))) (dd rfl) ?_
      refine q_val (v_load_str lone9 rfl (by repeat (first | exact Elem.sl (List.getElem?_eq_getElem (by omega)) | exact Elem.own (List.getElem?_eq_getElem (by omega)) | exact Elem.ownO (List.getElem?_eq_getElem (by omega)) | apply Elem.there))) (dd rfl) ?_
      refine q_val (v_sne rfl rfl) (dd rfl) ?_
      refine q_nil ?_
      refine c_cond_p rfl (fun hne => ?_) (fun hne => ?_)
      · refine c_seq ?_
        refine c_region ?_
        refine o_val (v_assign rfl) (dd rfl) ?_
        refine o_nil ?_
        refine c_ret1 Tryz.func104 rfl rfl fun w O hS => ?_
        exact ⟨(), by rw [decide_eq_false]; intro e; subst e; exact hne rfl, trivial, trivial⟩
      · refine c_skip ?_
        refine c_inBlock ?_
        refine c_region ?_
        refine o_val ((by first | exact v_add64 rfl rfl (by omega) | exact v_add rfl rfl)) (dd rfl) ?_
        refine o_val (v_move rfl) (dd rfl) ?_
        refine o_nil ?_
        refine c_use (IH (k + 1) (by omega) ⟨by omega, ?_⟩) ⟨rfl, rfl, rfl, rfl, trivial⟩ (Ent.refl _)
        rw [List.take_succ_eq_append_getElem (by omega), List.take_succ_eq_append_getElem (by omega), he, Decidable.not_not.1 hne]
    · refine c_exit rfl ?_
      refine c_seq ?_
      refine c_region ?_
      refine o_val (v_assign rfl) (dd rfl) ?_
      refine o_nil ?_
      refine c_ret1 Tryz.func104 rfl rfl fun w O hS => ?_
      refine ⟨(), ?_, trivial, trivial⟩
      rw [List.take_of_length_le (by omega), List.take_of_length_le (by omega)] at he
      rw [decide_eq_true he]
set_option maxRecDepth 100000 in
theorem same_ref_con (v u : Value) (xs ys : Ls) (hx : xs.length ≤ 1000000) (hy : ys.length ≤ 1000000) :
    Con Tryz.prog 23 [v, u] [Sl eStr v xs, Sl eStr u ys] (γ := Unit) (fun _ => .bool (decide (xs = ys))) (fun _ => True) (fun _ => []) := by
  refine con_of Tryz.func23 rfl (dd rfl) fun w0 O0 => ?_
  refine c_seq ?_
  refine c_region ?_
  refine o_val (v_assign rfl) (dd rfl) ?_
  refine o_nil ?_
  refine c_seq ?_
  refine c_seq ?_
  refine c_region ?_
  refine o_val (v_move rfl) (dd rfl) ?_
  refine o_val ((by first | exact v_len_form Tryz.underlying28 rfl | exact v_len_sl Tryz.underlying28 rfl (hX (by repeat constructor)))) (dd rfl) ?_
  refine o_val (v_move rfl) (dd rfl) ?_
  refine o_val ((by first | exact v_len_form Tryz.underlying28 rfl | exact v_len_sl Tryz.underlying28 rfl (hX (by repeat constructor)))) (dd rfl) ?_
  refine o_val (v_ne rfl rfl) (dd rfl) ?_
  refine o_nil ?_
  refine c_cond_p rfl (fun h => ?_) (fun h => ?_)
  · refine c_seq ?_
    refine c_region ?_
    refine o_val (v_assign rfl) (dd rfl) ?_
    refine o_nil ?_
    refine c_ret1 Tryz.func23 rfl rfl fun w O hS => ?_
    exact ⟨(), by rw [decide_eq_false (fun e => h (by rw [e]))], trivial, trivial⟩
  · refine c_skip ?_
    refine c_seq ?_
    refine c_seq ?_
    refine c_region ?_
    refine o_val (v_assign rfl) (dd rfl) ?_
    refine o_nil ?_
    refine c_block ?_
    refine c_loop (γ := Nat) (fun k => xs.length - k) (fun k => k ≤ xs.length ∧ xs.take k = ys.take k) (fun k => [(5, .int .i64 k), (0, v), (1, u)]) (fun _ => [Sl eStr v xs, Sl eStr u ys]) 0 ⟨Nat.zero_le _, rfl⟩ ⟨rfl, rfl, rfl, trivial⟩ (Ent.refl _) ?_
    intro k ⟨hk, he⟩ IH
    try dsimp only [List.cons_append, List.nil_append]
    refine c_seq ?_
    refine c_seq ?_
    refine c_region ?_
    refine o_val (v_move rfl) (dd rfl) ?_
    refine o_val (v_move rfl) (dd rfl) ?_
    refine o_val ((by first | exact v_len_form Tryz.underlying28 rfl | exact v_len_sl Tryz.underlying28 rfl (hX (by repeat constructor)))) (dd rfl) ?_
    refine o_val (v_lt rfl rfl) (dd rfl) ?_
    refine o_nil ?_
    refine c_cond_p rfl (fun hlt => ?_) (fun hlt => ?_)
    · refine c_skip ?_
      refine c_seq ?_
      refine c_block ?_
      refine c_seq ?_
      refine c_quiet rfl (by kernel_rfl) ?_
      refine q_val (v_move rfl) (dd rfl) ?_
      refine q_val (v_move rfl) (dd rfl) ?_
      refine q_val ((by first | exact v_indexAddrN Tryz.underlying28 ti9 rfl rfl (hX (by repeat constructor)) (by omega) | exact v_indexAddr Tryz.underlying28 ti9 rfl rfl (hX (by repeat constructor)) (by omega))) (dd rfl) ?_
      refine q_val (v_load_str lone9 rfl (by repeat (first | exact Elem.sl (List.getElem?_eq_getElem (by omega)) | exact Elem.own (List.getElem?_eq_getElem (by omega)) | exact Elem.ownO (List.getElem?_eq_getElem (by omega)) | apply Elem.there))) (dd rfl) ?_
      refine q_val (v_move rfl) (dd rfl) ?_
      refine q_val (v_move rfl) (dd rfl) ?_
      refine q_val ((by first | exact v_indexAddrN Tryz.underlying28 ti9 rfl rfl (hX (by repeat constructor)) (by omega) | exact v_indexAddr Tryz.underlying28 ti9 rfl rfl (hX (by repeat constructor)) (by omega))) (dd rfl) ?_
      refine q_val (v_load_str lone9 rfl (by repeat (first | exact Elem.sl (List.getElem?_eq_getElem (by omega)) | exact Elem.own (List.getElem?_eq_getElem (by omega)) | exact Elem.ownO (List.getElem?_eq_getElem (by omega)) | apply Elem.there))) (dd rfl) ?_
      refine q_val (v_sne rfl rfl) (dd rfl) ?_
      refine q_nil ?_
      refine c_cond_p rfl (fun hne => ?_) (fun hne => ?_)
      · refine c_seq ?_
        refine c_region ?_
        refine o_val (v_assign rfl) (dd rfl) ?_
        refine o_nil ?_
        refine c_ret1 Tryz.func23 rfl rfl fun w O hS => ?_
        exact ⟨(), by rw [decide_eq_false]; intro e; subst e; exact hne rfl, trivial, trivial⟩
      · refine c_skip ?_
        refine c_inBlock ?_
        refine c_region ?_
        refine o_val (v_move rfl) (dd rfl) ?_
        refine o_val ((by first | exact v_add64 rfl rfl (by omega) | exact v_add rfl rfl)) (dd rfl) ?_
        refine o_val (v_assign rfl) (dd rfl) ?_
        refine o_nil ?_
        refine c_use (IH (k + 1) (by omega) ⟨by omega, ?_⟩) ⟨rfl, rfl, rfl, trivial⟩ (Ent.refl _)
        rw [List.take_succ_eq_append_getElem (by omega), List.take_succ_eq_append_getElem (by omega), he, Decidable.not_not.1 hne]
    · refine c_exit rfl ?_
      refine c_seq ?_
      refine c_region ?_
      refine o_val (v_assign rfl) (dd rfl) ?_
      refine o_nil ?_
      refine c_ret1 Tryz.func23 rfl rfl fun w O hS => ?_
      refine ⟨(), ?_, trivial, trivial⟩
      rw [List.take_of_length_le (by omega), List.take_of_length_le (by omega)] at he
      rw [decide_eq_true he]
set_option maxRecDepth 100000 in
theorem same_con (v u : Value) (xs ys : Ls) (hx : xs.length ≤ 1000000) (hy : ys.length ≤ 1000000) :
    Con Tryz.prog 81 [v, u] [Sl eStr v xs, Sl eStr u ys] (γ := Unit) (fun _ => .bool (decide (xs = ys))) (fun _ => True) (fun _ => []) := by
  refine con_of Tryz.func81 rfl (dd rfl) fun w0 O0 => ?_
  refine c_seq ?_
  refine c_region ?_
  refine o_val (v_assign rfl) (dd rfl) ?_
  refine o_nil ?_
  refine c_seq ?_
  refine c_region ?_
  refine o_val (v_move rfl) (dd rfl) ?_
  refine o_val (v_move rfl) (dd rfl) ?_
  refine o_step (s_callf cl104 (equal_con v u xs ys hx hy) rfl (dd rfl) (pXs (by repeat constructor)) fun _ _ => ?_)
  refine o_val (v_assign rfl) (dd rfl) ?_
  refine o_nil ?_
  refine c_ret1 Tryz.func81 rfl rfl fun w O hS => ?_
  exact ⟨(), rfl, trivial, trivial⟩
set_option maxRecDepth 100000 in
theorem right_ref_con (s : ByteArray) (hs : s.size ≤ 1000000) :
    Con Tryz.prog 68 [.string s] [] (γ := Unit) (fun _ => .bool (decide (RightS s))) (fun _ => True) (fun _ => []) := by
  refine con_of Tryz.func68 rfl (dd rfl) fun w0 O0 => ?_
  refine c_seq ?_
  refine c_region ?_
  refine o_val (v_assign rfl) (dd rfl) ?_
  refine o_nil ?_
  refine c_seq ?_
  refine c_seq ?_
  refine c_region ?_
  refine o_val (v_assign rfl) (dd rfl) ?_
  refine o_nil ?_
  refine c_block ?_
  refine c_loop (γ := Nat) (fun k => s.size - k) (fun k => k ≤ s.size ∧ 10 ∉ s.data.toList.take k) (fun k => [(3, .int .i64 k), (0, .string s)]) (fun _ => []) 0 ⟨Nat.zero_le _, by simp⟩ ⟨rfl, rfl, trivial⟩ (Ent.refl _) ?_
  intro k ⟨hk, hn⟩ IH
  try dsimp only [List.cons_append, List.nil_append]
  refine c_seq ?_
  refine c_seq ?_
  refine c_region ?_
  refine o_val (v_move rfl) (dd rfl) ?_
  refine o_val (v_move rfl) (dd rfl) ?_
  refine o_val (v_len_str Tryz.underlying9 rfl) (dd rfl) ?_
  refine o_val (v_lt rfl rfl) (dd rfl) ?_
  refine o_nil ?_
  refine c_cond_p rfl (fun hlt => ?_) (fun hlt => ?_)
  · refine c_skip ?_
    refine c_seq ?_
    refine c_block ?_
    refine c_seq ?_
    refine c_region ?_
    refine o_val (v_move rfl) (dd rfl) ?_
    refine o_val (v_move rfl) (dd rfl) ?_
    refine o_val (v_index_str Tryz.underlying9 rfl rfl (by omega)) (dd rfl) ?_
    refine o_val (v_eq rfl rfl) (dd rfl) ?_
    refine o_nil ?_
    refine c_cond_p rfl (fun h10 => ?_) (fun h10 => ?_)
    · refine c_seq ?_
      refine c_region ?_
      refine o_val (v_assign rfl) (dd rfl) ?_
      refine o_nil ?_
      refine c_ret1 Tryz.func68 rfl rfl fun w O hS => ?_
      refine ⟨(), ?_, trivial, trivial⟩
      rw [decide_eq_false]
      rintro ⟨g, _⟩
      rw [sAt_nat _ _ (by omega)] at h10
      have e10 : s.data.toList[k]'(by rw [← Lib.size_eq]; omega) = 10 := byte_of (n := 10) h10 (by omega)
      exact g (by rw [← e10]; exact List.getElem_mem _)
    · refine c_skip ?_
      refine c_inBlock ?_
      refine c_region ?_
      refine o_val (v_move rfl) (dd rfl) ?_
      refine o_val ((by first | exact v_add64 rfl rfl (by omega) | exact v_add rfl rfl)) (dd rfl) ?_
      refine o_val (v_assign rfl) (dd rfl) ?_
      refine o_nil ?_
      refine c_use (IH (k + 1) (by omega) ⟨by omega, ?_⟩) ⟨rfl, rfl, trivial⟩ (Ent.refl _)
      have hk2 : k < s.data.toList.length := by rw [← Lib.size_eq]; omega
      rw [List.take_succ_eq_append_getElem hk2]
      intro hm
      rcases List.mem_append.1 hm with h | h
      · exact hn h
      · simp only [List.mem_singleton] at h
        rw [sAt_nat _ _ (by omega), ← h] at h10
        exact h10 rfl
  · refine c_exit rfl ?_
    refine c_seq ?_
    refine c_region ?_
    refine o_val (v_move rfl) (dd rfl) ?_
    refine o_val (v_len_str Tryz.underlying9 rfl) (dd rfl) ?_
    refine o_val (v_le rfl rfl) (dd rfl) ?_
    refine o_val (v_assign rfl) (dd rfl) ?_
    refine o_nil ?_
    refine c_ret1 Tryz.func68 rfl rfl fun w O hS => ?_
    refine ⟨(), ?_, trivial, trivial⟩
    rw [List.take_of_length_le (by rw [← Lib.size_eq]; omega)] at hn
    congr 1
    rw [decide_eq_decide]
    exact ⟨fun h => ⟨hn, by omega⟩, fun h => by have := h.2; omega⟩
set_option maxRecDepth 100000 in
theorem all_ref_con (v : Value) (xs : Ls) (hx : xs.length ≤ 1000000) (hs : ∀ x ∈ xs, x.size ≤ 1000000) :
    Con Tryz.prog 67 [v] [Sl eStr v xs] (γ := Unit) (fun _ => .bool (decide (∀ x ∈ xs, RightS x))) (fun _ => True) (fun _ => []) := by
  refine con_of Tryz.func67 rfl (dd rfl) fun w0 O0 => ?_
  refine c_seq ?_
  refine c_region ?_
  refine o_val (v_assign rfl) (dd rfl) ?_
  refine o_nil ?_
  refine c_seq ?_
  refine c_seq ?_
  refine c_region ?_
  refine o_val (v_assign rfl) (dd rfl) ?_
  refine o_nil ?_
  refine c_block ?_
  refine c_loop (γ := Nat) (fun k => xs.length - k) (fun k => k ≤ xs.length ∧ ∀ x ∈ xs.take k, RightS x) (fun k => [(3, .int .i64 k), (0, v)]) (fun _ => [Sl eStr v xs]) 0 ⟨Nat.zero_le _, by simp⟩ ⟨rfl, rfl, trivial⟩ (Ent.refl _) ?_
  intro k ⟨hk, hn⟩ IH
  try dsimp only [List.cons_append, List.nil_append]
  refine c_seq ?_
  refine c_seq ?_
  refine c_region ?_
  refine o_val (v_move rfl) (dd rfl) ?_
  refine o_val (v_move rfl) (dd rfl) ?_
  refine o_val ((by first | exact v_len_form Tryz.underlying28 rfl | exact v_len_sl Tryz.underlying28 rfl (hX (by repeat constructor)))) (dd rfl) ?_
  refine o_val (v_lt rfl rfl) (dd rfl) ?_
  refine o_nil ?_
  refine c_cond_p rfl (fun hlt => ?_) (fun hlt => ?_)
  · refine c_skip ?_
    refine c_seq ?_
    refine c_block ?_
    refine c_seq ?_
    refine c_region ?_
    refine o_val (v_move rfl) (dd rfl) ?_
    refine o_val (v_move rfl) (dd rfl) ?_
    refine o_val ((by first | exact v_indexAddrN Tryz.underlying28 ti9 rfl rfl (hX (by repeat constructor)) (by omega) | exact v_indexAddr Tryz.underlying28 ti9 rfl rfl (hX (by repeat constructor)) (by omega))) (dd rfl) ?_
    refine o_val (v_load_str lone9 rfl (by repeat (first | exact Elem.sl (List.getElem?_eq_getElem (by omega)) | exact Elem.own (List.getElem?_eq_getElem (by omega)) | exact Elem.ownO (List.getElem?_eq_getElem (by omega)) | apply Elem.there))) (dd rfl) ?_
    refine o_step (s_callf cl68 (right_ref_con _ (hs _ (List.getElem_mem _))) rfl (dd rfl) (pXs (by repeat constructor)) fun _ _ => ?_)
    refine o_val (v_not rfl) (dd rfl) ?_
    refine o_nil ?_
    refine c_cond rfl (fun hr => ?_) (fun hr => ?_)
    · refine c_seq ?_
      refine c_region ?_
      refine o_val (v_assign rfl) (dd rfl) ?_
      refine o_nil ?_
      refine c_ret1 Tryz.func67 rfl rfl fun w O hS => ?_
      refine ⟨(), ?_, trivial, trivial⟩
      rw [decide_eq_false]
      intro hall
      have := hall _ (List.getElem_mem (l := xs) (n := k) (by omega))
      simp [this] at hr
    · refine c_skip ?_
      refine c_inBlock ?_
      refine c_region ?_
      refine o_val (v_move rfl) (dd rfl) ?_
      refine o_val ((by first | exact v_add64 rfl rfl (by omega) | exact v_add rfl rfl)) (dd rfl) ?_
      refine o_val (v_assign rfl) (dd rfl) ?_
      refine o_nil ?_
      refine c_use (IH (k + 1) (by omega) ⟨by omega, ?_⟩) ⟨rfl, rfl, trivial⟩ (Ent.refl _)
      rw [List.take_succ_eq_append_getElem (by omega)]
      intro x hx'
      rcases List.mem_append.1 hx' with h | h
      · exact hn x h
      · simp at h; subst h; simpa using hr
  · refine c_exit rfl ?_
    refine c_seq ?_
    refine c_region ?_
    refine o_val (v_assign rfl) (dd rfl) ?_
    refine o_nil ?_
    refine c_ret1 Tryz.func67 rfl rfl fun w O hS => ?_
    refine ⟨(), ?_, trivial, trivial⟩
    rw [List.take_of_length_le (by omega)] at hn
    rw [decide_eq_true hn]
end Go.Proofs.YtmgkeippepeggaaGreatDoor
/- Chapter 09: lines: which may be, and which rows are the same (turned from chapter 01's walks). -/
namespace Go.Proofs.YtmgkeippepeggaaGreatDoor
open Go Go.SL L01
attribute [local irreducible] Cfg Kont StepK Val Con Qops Any Sl Own Blk BlkR Rd Pu ExA AllA Has Pick Ent Elem Beside Callable TI Lone OwnO AndA
theorem indexByte_mem (l : List UInt8) (c : UInt8) : 0 ≤ Lib.indexByte l c ↔ c ∈ l := by
  have := Lib.contains_iff_indexByte l c
  rw [← List.contains_iff_mem, this, decide_eq_true_iff]
theorem contains_con (s : ByteArray) : Con Tryz.prog 116 [.string s, .string nl] [] (γ := Unit) (fun _ => .bool (decide (10 ∈ s.data.toList))) (fun _ => True) (fun _ => []) :=
  con_pure fun w _ _ => (Tryz.strings_Contains_one s 10 w).mono fun e w' ⟨he, hw⟩ => ⟨by rw [he]; congr 2; exact decide_eq_decide.2 (indexByte_mem _ _), hw⟩
set_option maxRecDepth 100000 in
theorem right_con (s : ByteArray) :
    Con Tryz.prog 100 [.string s] [] (γ := Unit) (fun _ => .bool (decide (RightS s))) (fun _ => True) (fun _ => []) := by
  refine con_of Tryz.func100 rfl (dd rfl) fun w0 O0 => ?_
  refine c_seq ?_
  refine c_region ?_
  refine o_val (v_assign rfl) (dd rfl) ?_
  refine o_nil ?_
  refine c_seq ?_
  refine c_region ?_
  refine o_val (v_move rfl) (dd rfl) ?_
  refine o_val (v_len_str Tryz.underlying9 rfl) (dd rfl) ?_
  refine o_val (v_le rfl rfl) (dd rfl) ?_
  refine o_val (v_move rfl) (dd rfl) ?_
  refine o_guard_t rfl rfl (fun h => ?_) (fun h => ?_)
  · refine o_val (v_move rfl) (dd rfl) ?_
    refine o_on rfl rfl ?_
    refine o_step (s_callf cl116 (contains_con s) rfl (dd rfl) (pXs (by repeat constructor)) fun _ _ => ?_)
    refine o_on rfl rfl ?_
    refine o_val (v_not rfl) (dd rfl) ?_
    refine o_val (v_pick_t rfl rfl) (dd rfl) ?_
    refine o_val (v_assign rfl) (dd rfl) ?_
    refine o_nil ?_
    refine c_ret1 Tryz.func100 rfl rfl fun w O hS => ?_
    refine ⟨(), ?_, trivial, trivial⟩
    have : decide (RightS s) = !decide (10 ∈ s.data.toList) := by
      rw [← decide_not]
      exact decide_eq_decide.2 ⟨fun h => h.1, fun g => ⟨g, by omega⟩⟩
    rw [this]
  · refine o_off rfl rfl rfl (dd rfl) ?_
    refine o_off rfl rfl rfl (dd rfl) ?_
    refine o_off rfl rfl rfl (dd rfl) ?_
    refine o_val (v_pick_f rfl rfl) (dd rfl) ?_
    refine o_val (v_assign rfl) (dd rfl) ?_
    refine o_nil ?_
    refine c_ret1 Tryz.func100 rfl rfl fun w O hS => ?_
    refine ⟨(), ?_, trivial, trivial⟩
    rw [decide_eq_false (fun g : RightS s => h (by have := g.2; omega))]
set_option maxRecDepth 100000 in
theorem notright_con (s : ByteArray) :
    Con Tryz.prog 112 [.string s] [] (γ := Unit) (fun _ => .bool (!decide (RightS s))) (fun _ => True) (fun _ => []) := by
  refine con_of Tryz.func112 rfl (dd rfl) fun w0 O0 => ?_
  refine c_seq ?_
  refine c_region ?_
  refine o_val (v_assign rfl) (dd rfl) ?_
  refine o_nil ?_
  refine c_seq ?_
  refine c_region ?_
  refine o_val (v_move rfl) (dd rfl) ?_
  refine o_step (s_callf cl100 (right_con s) rfl (dd rfl) (pXs (by repeat constructor)) fun _ _ => ?_)
  refine o_val (v_not rfl) (dd rfl) ?_
  refine o_val (v_assign rfl) (dd rfl) ?_
  refine o_nil ?_
  refine c_ret1 Tryz.func112 rfl rfl fun w O hS => ?_
  exact ⟨(), rfl, trivial, trivial⟩
set_option maxRecDepth 100000 in
theorem indexf_con (v : Value) (xs : Ls) (hx : xs.length ≤ 1000000) :
    Con Tryz.prog 134 [v, .func (.func 112) #[] #[]] [Sl eStr v xs] (γ := Int) (fun r => .int .i64 r) (fun r => 0 ≤ r ↔ ∃ x ∈ xs, ¬ RightS x) (fun _ => []) := by
  refine con_of Tryz.func134 rfl (dd rfl) fun w0 O0 => ?_
  refine c_seq ?_
  refine c_region ?_
  refine o_val (v_assign rfl) (dd rfl) ?_
  refine o_nil ?_
  refine c_seq ?_
  refine c_seq ?_
  refine c_region ?_
  refine o_val (v_move rfl) (dd rfl) ?_
  refine o_val ((by first | exact v_len_form Tryz.underlying28 rfl | exact v_len_sl Tryz.underlying28 rfl (hX (by repeat constructor)))) (dd rfl) ?_
  refine o_val (v_move rfl) (dd rfl) ?_
  refine o_nil ?_
  refine c_block ?_
  refine c_loop (γ := Nat) (fun i => xs.length - i) (fun i => i ≤ xs.length ∧ ∀ x ∈ xs.take i, RightS x) (fun i => [(8, .int .i64 i), (7, .int .i64 xs.length), (0, v), (1, .func (.func 112) #[] #[])]) (fun _ => [Sl eStr v xs]) 0 ⟨Nat.zero_le _, by simp⟩ ⟨rfl, rfl, rfl, rfl, trivial⟩ (Ent.refl _) ?_
  intro i ⟨hi, hr⟩ IH
  try dsimp only [List.cons_append, List.nil_append]
  refine c_seq ?_
  refine c_region ?_
  refine o_val (v_lt rfl rfl) (dd rfl) ?_
  refine o_nil ?_
  refine c_seq ?_
  refine c_cond_p rfl (fun hlt => ?_) (fun hlt => ?_)
  · refine c_skip ?_
    refine c_seq ?_
    refine c_block ?_
    refine c_seq ?_
    refine c_region ?_
    refine o_val (v_move rfl) (dd rfl) ?_
    refine o_val (v_assign rfl) (dd rfl) ?_
    refine o_nil ?_
    refine c_seq ?_
    refine c_region ?_
    refine o_val (v_move rfl) (dd rfl) ?_
    refine o_val (v_move rfl) (dd rfl) ?_
    refine o_val (v_move rfl) (dd rfl) ?_
    refine o_val ((by first | exact v_indexAddrN Tryz.underlying28 ti9 rfl rfl (hX (by repeat constructor)) (by omega) | exact v_indexAddr Tryz.underlying28 ti9 rfl rfl (hX (by repeat constructor)) (by omega))) (dd rfl) ?_
    refine o_val (v_load_str lone9 rfl (by repeat (first | exact Elem.sl (List.getElem?_eq_getElem (by omega)) | exact Elem.own (List.getElem?_eq_getElem (by omega)) | exact Elem.ownO (List.getElem?_eq_getElem (by omega)) | apply Elem.there))) (dd rfl) ?_
    refine o_step (s_call cl112 (notright_con (xs[i]'(by omega))) (first := []) (cap := []) rfl rfl (by rfl) (dd rfl) (pXs (by repeat constructor)) fun _ _ => ?_)
    refine o_nil ?_
    refine c_cond rfl (fun hb => ?_) (fun hb => ?_)
    · refine c_seq ?_
      refine c_region ?_
      refine o_val (v_move rfl) (dd rfl) ?_
      refine o_val (v_assign rfl) (dd rfl) ?_
      refine o_nil ?_
      refine c_ret1 Tryz.func134 rfl rfl fun w O hS => ?_
      have hn : ¬ RightS (xs[i]'(by omega)) := by simpa using hb
      exact ⟨i, rfl, ⟨fun _ => ⟨_, List.getElem_mem (by omega), hn⟩, fun _ => by omega⟩, trivial⟩
    · refine c_skip ?_
      refine c_inBlock ?_
      refine c_region ?_
      refine o_val ((by first | exact v_add64 rfl rfl (by omega) | exact v_add rfl rfl)) (dd rfl) ?_
      refine o_val (v_move rfl) (dd rfl) ?_
      refine o_nil ?_
      have hn : RightS (xs[i]'(by omega)) := by simpa using hb
      refine c_use (IH (i + 1) (by omega) ⟨by omega, fun x hx => ?_⟩) ⟨rfl, rfl, rfl, rfl, trivial⟩ (eX (by repeat constructor))
      rw [List.take_succ_eq_append_getElem (by omega)] at hx
      rcases List.mem_append.1 hx with hx | hx
      · exact hr x hx
      · rw [List.mem_singleton.1 hx]; exact hn
  · refine c_exit rfl ?_
    refine c_seq ?_
    refine c_region ?_
    refine o_val (v_assign rfl) (dd rfl) ?_
    refine o_nil ?_
    refine c_ret1 Tryz.func134 rfl rfl fun w O hS => ?_
    rw [List.take_of_length_le (by omega)] at hr
    exact ⟨-1, rfl, ⟨fun h => by omega, fun ⟨x, hx, hn⟩ => absurd (hr x hx) hn⟩, trivial⟩
set_option maxRecDepth 100000 in
theorem containsf_con (v : Value) (xs : Ls) (hx : xs.length ≤ 1000000) :
    Con Tryz.prog 111 [v, .func (.func 112) #[] #[]] [Sl eStr v xs] (γ := Unit) (fun _ => .bool (!decide (∀ x ∈ xs, RightS x))) (fun _ => True) (fun _ => []) := by
  refine con_of Tryz.func111 rfl (dd rfl) fun w0 O0 => ?_
  refine c_seq ?_
  refine c_region ?_
  refine o_val (v_assign rfl) (dd rfl) ?_
  refine o_nil ?_
  refine c_seq ?_
  refine c_region ?_
  refine o_val (v_move rfl) (dd rfl) ?_
  refine o_val (v_move rfl) (dd rfl) ?_
  refine o_step (s_callf cl134 (indexf_con v xs hx) rfl (dd rfl) (pXs (by repeat constructor)) fun r hr => ?_)
  refine o_val (v_ge rfl rfl) (dd rfl) ?_
  refine o_val (v_assign rfl) (dd rfl) ?_
  refine o_nil ?_
  refine c_ret1 Tryz.func111 rfl rfl fun w O hS => ?_
  refine ⟨(), ?_, trivial, trivial⟩
  congr 1
  rw [← decide_not]
  refine decide_eq_decide.2 (Iff.trans ?_ (hr.trans ?_))
  · exact Iff.rfl
  · exact ⟨fun ⟨x, h1, h2⟩ h => h2 (h x h1), fun h => Classical.byContradiction fun g => h fun x hx => Classical.byContradiction fun k => g ⟨x, hx, k⟩⟩
set_option maxRecDepth 100000 in
theorem all_con (v : Value) (xs : Ls) (hx : xs.length ≤ 1000000) :
    Con Tryz.prog 94 [v] [Sl eStr v xs] (γ := Unit) (fun _ => .bool (decide (∀ x ∈ xs, RightS x))) (fun _ => True) (fun _ => []) := by
  refine con_of Tryz.func94 rfl (dd rfl) fun w0 O0 => ?_
  refine c_seq ?_
  refine c_region ?_
  refine o_val (v_assign rfl) (dd rfl) ?_
  refine o_nil ?_
  refine c_seq ?_
  refine c_region ?_
  refine o_val (v_move rfl) (dd rfl) ?_
  refine o_step (s_callf cl111 (containsf_con v xs hx) rfl (dd rfl) (pXs (by repeat constructor)) fun _ _ => ?_)
  refine o_val (v_not rfl) (dd rfl) ?_
  refine o_val (v_assign rfl) (dd rfl) ?_
  refine o_nil ?_
  refine c_ret1 Tryz.func94 rfl rfl fun w O hS => ?_
  exact ⟨(), by rw [Bool.not_not], trivial, trivial⟩
end Go.Proofs.YtmgkeippepeggaaGreatDoor

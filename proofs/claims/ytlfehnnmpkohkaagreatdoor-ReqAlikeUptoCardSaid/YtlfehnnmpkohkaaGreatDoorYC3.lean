/- The texts I2, W4, W5, W6, I3, I5, P1, V1, V4, V2, D9, V3, V5, V6, V7, I4, W7, W8, one behind the other. -/
import Derived.Test.YtlfehnnmpkohkaaGreatDoorYC2
set_option linter.unusedVariables false
set_option linter.unusedSimpArgs false
/- Chapter 09: the program's reader: numbers, flags, texts. -/
namespace Go.Proofs.YtlfehnnmpkohkaaGreatDoor
open Go Go.SL Go.Lib
/-- What is left behind going on, or spoiling. -/
def goS (many : Int) (is : Bool) (s : St9) : St9 := if s.2 = true ∨ is = false ∨ many < 1 then spoil9 s else (s.1.drop many.toNat, false)
attribute [local irreducible] Cfg Kont StepK Val Con Qops Any Sl Own Blk BlkR Rd Pu ExA AllA Has Pick Ent Elem Beside Callable TI Lone OwnO AndA
set_option maxRecDepth 100000 in
theorem goesI_con (i : Nat) (bv : Value) (s : St9) (many : Int) (is : Bool) (x : Int) (hm : many ≤ s.1.length) : Con Tryz.prog 116 [ptr i, .int .i64 many, .bool is, .int .i64 x] [Blk i 141 [bv, .bool s.2], Sl eByte bv s.1] (γ := Value) (fun _ => .int .i64 (if s.2 = true ∨ is = false ∨ many < 1 then 0 else x)) (fun _ => True) (fun g => [Blk i 141 [g, .bool (goS many is s).2], Sl eByte g (goS many is s).1]) := by
  refine Con.form (v := bv) (xs := s.1) (hX (by repeat constructor)) ?_
  rintro a0 c0 rfl hc0 hm0
  refine con_of Tryz.func116 rfl (dd rfl) fun w0 O0 => ?_
  refine c_seq (c_region ?_)
  refine oV vA ?_
  refine o_nil (c_seq (c_region ?_))
  refine oV vA ?_
  refine o_nil (c_seq (c_seq ?_))
  refine c_env (env' := [(0, _), (1, _), (2, _), (3, _), (8, _), (9, _)]) (by repeat (first | exact trivial | refine ⟨rfl, ?_⟩)) ?_
  refine c_joinb (d := 21) (decide (s.2 = true ∨ is = false ∨ many < 1)) ?_ ?_
  rotate_left
  · intro J
    refine c_region ?_
    refine oV vM ?_
    refine oV (v_nilCheck rfl) ?_
    refine oV (vF 1 Tryz.underlying141 ti4) ?_
    refine oV (vL lone4) ?_
    refine oV vM ?_
    first | refine o_guard_f rfl rfl (fun g14 => ?_) (fun g14 => ?_) | refine o_guard rfl rfl (fun g14 => ?_) (fun g14 => ?_)
    · refine oV vM ?_
      refine oN ?_
      refine oV (v_not rfl) ?_
      refine oV vQ ?_
      refine oV vM ?_
      first | refine o_guard_f rfl rfl (fun g18 => ?_) (fun g18 => ?_) | refine o_guard rfl rfl (fun g18 => ?_) (fun g18 => ?_)
      · refine oV vM ?_
        refine oN ?_
        refine oV (v_lt rfl rfl) ?_
        refine oV vQ ?_
        refine o_nil ?_
        exact cJ J rfl (by first | rfl | (simp_all; done) | (simp_all; omega) | (simp; omega))
      · refine oX ?_
        refine oX ?_
        refine oV vT ?_
        refine o_nil ?_
        exact cJ J rfl (by first | rfl | (simp_all; done) | (simp_all; omega) | (simp; omega))
    · refine oX ?_
      refine oX ?_
      refine oV vT ?_
      refine oV vM ?_
      iterate 2 refine oX ?_
      refine oV vT ?_
      refine o_nil ?_
      exact cJ J rfl (by first | rfl | (simp_all; done) | (simp_all; omega) | (simp; omega))
  refine c_cond_p rfl (fun hb => ?_) (fun hb => ?_)
  · unfold goS
    rw [if_pos hb, if_pos hb]
    refine c_seq (c_region ?_)
    refine oV vM ?_
    refine oV (v_nilCheck rfl) ?_
    refine oV (vF 1 Tryz.underlying141 ti4) ?_
    refine o_step (s_store1 ti4 rfl rfl (by first | exact OneC.lit rfl | exact OneC.sl (hX (by repeat constructor)) ) (pB (by repeat constructor)) (by first | decide | exact Nat.le_of_ble_eq_true rfl | simp) (by first | (dsimp only [List.set_cons_succ, List.set_cons_zero]; first | done | exact rfl) | rfl) (?_))
    refine o_nil (c_seq (c_region ?_))
    refine oV vM ?_
    refine oV vA ?_
    refine o_nil ?_
    refine c_ret1 Tryz.func116 rfl rfl fun w O hS => ?_
    exact ⟨_, rfl, trivial, Ent.get hS (eX (by repeat constructor))⟩
  · have h2 : s.2 = false := by cases q : s.2 with | false => rfl | true => exact absurd (.inl q) hb
    unfold goS
    rw [if_neg hb, if_neg hb, h2]
    refine c_skip (c_seq (c_region ?_))
    iterate 2 refine oV vM ?_
    refine oV (v_nilCheck rfl) ?_
    refine oV (vF 0 Tryz.underlying141 ti38) ?_
    refine oV (vL lone38) ?_
    refine oV vM ?_
    refine o_step (s_slice Tryz.underlying38 ti5 rfl (pX (by repeat constructor)) rfl (.inr ⟨_, _, _, rfl, rfl, by omega, rfl⟩) (.inl ⟨rfl, rfl⟩) (by omega) (by omega) (dd rfl) fun z => ?_)
    refine oV (v_nilCheck rfl) ?_
    refine oV (vF 0 Tryz.underlying141 ti38) ?_
    refine o_step (s_store1 ti38 rfl rfl (by first | exact OneC.lit rfl | exact OneC.sl (hX (by repeat constructor)) ) (pB (by repeat constructor)) (by first | decide | exact Nat.le_of_ble_eq_true rfl | simp) (by first | (dsimp only [List.set_cons_succ, List.set_cons_zero]; first | done | exact rfl) | rfl) (?_))
    refine o_nil (c_seq (c_region ?_))
    refine oV vM ?_
    refine oV vA ?_
    refine o_nil ?_
    refine c_ret1 Tryz.func116 rfl rfl fun w O hS => ?_
    exact ⟨z, rfl, trivial, by
      have e : (s.1.take s.1.length).drop many.toNat = s.1.drop many.toNat := by rw [List.take_length]
      rw [e] at hS
      exact Ent.get hS (eX (by repeat constructor))⟩
set_option maxRecDepth 100000 in
theorem goesB_con (i : Nat) (bv : Value) (s : St9) (many : Int) (is : Bool) (x : Bool) (hm : many ≤ s.1.length) : Con Tryz.prog 125 [ptr i, .int .i64 many, .bool is, .bool x] [Blk i 141 [bv, .bool s.2], Sl eByte bv s.1] (γ := Value) (fun _ => .bool (if s.2 = true ∨ is = false ∨ many < 1 then false else x)) (fun _ => True) (fun g => [Blk i 141 [g, .bool (goS many is s).2], Sl eByte g (goS many is s).1]) := by
  refine Con.form (v := bv) (xs := s.1) (hX (by repeat constructor)) ?_
  rintro a0 c0 rfl hc0 hm0
  refine con_of Tryz.func125 rfl (dd rfl) fun w0 O0 => ?_
  refine c_seq (c_region ?_)
  refine oV vA ?_
  refine o_nil (c_seq (c_region ?_))
  refine oV vA ?_
  refine o_nil (c_seq (c_seq ?_))
  refine c_env (env' := [(0, _), (1, _), (2, _), (3, _), (8, _), (9, _)]) (by repeat (first | exact trivial | refine ⟨rfl, ?_⟩)) ?_
  refine c_joinb (d := 21) (decide (s.2 = true ∨ is = false ∨ many < 1)) ?_ ?_
  rotate_left
  · intro J
    refine c_region ?_
    refine oV vM ?_
    refine oV (v_nilCheck rfl) ?_
    refine oV (vF 1 Tryz.underlying141 ti4) ?_
    refine oV (vL lone4) ?_
    refine oV vM ?_
    first | refine o_guard_f rfl rfl (fun g14 => ?_) (fun g14 => ?_) | refine o_guard rfl rfl (fun g14 => ?_) (fun g14 => ?_)
    · refine oV vM ?_
      refine oN ?_
      refine oV (v_not rfl) ?_
      refine oV vQ ?_
      refine oV vM ?_
      first | refine o_guard_f rfl rfl (fun g18 => ?_) (fun g18 => ?_) | refine o_guard rfl rfl (fun g18 => ?_) (fun g18 => ?_)
      · refine oV vM ?_
        refine oN ?_
        refine oV (v_lt rfl rfl) ?_
        refine oV vQ ?_
        refine o_nil ?_
        exact cJ J rfl (by first | rfl | (simp_all; done) | (simp_all; omega) | (simp; omega))
      · refine oX ?_
        refine oX ?_
        refine oV vT ?_
        refine o_nil ?_
        exact cJ J rfl (by first | rfl | (simp_all; done) | (simp_all; omega) | (simp; omega))
    · refine oX ?_
      refine oX ?_
      refine oV vT ?_
      refine oV vM ?_
      iterate 2 refine oX ?_
      refine oV vT ?_
      refine o_nil ?_
      exact cJ J rfl (by first | rfl | (simp_all; done) | (simp_all; omega) | (simp; omega))
  refine c_cond_p rfl (fun hb => ?_) (fun hb => ?_)
  · unfold goS
    rw [if_pos hb, if_pos hb]
    refine c_seq (c_region ?_)
    refine oV vM ?_
    refine oV (v_nilCheck rfl) ?_
    refine oV (vF 1 Tryz.underlying141 ti4) ?_
    refine o_step (s_store1 ti4 rfl rfl (by first | exact OneC.lit rfl | exact OneC.sl (hX (by repeat constructor)) ) (pB (by repeat constructor)) (by first | decide | exact Nat.le_of_ble_eq_true rfl | simp) (by first | (dsimp only [List.set_cons_succ, List.set_cons_zero]; first | done | exact rfl) | rfl) (?_))
    refine o_nil (c_seq (c_region ?_))
    refine oV vM ?_
    refine oV vA ?_
    refine o_nil ?_
    refine c_ret1 Tryz.func125 rfl rfl fun w O hS => ?_
    exact ⟨_, rfl, trivial, Ent.get hS (eX (by repeat constructor))⟩
  · have h2 : s.2 = false := by cases q : s.2 with | false => rfl | true => exact absurd (.inl q) hb
    unfold goS
    rw [if_neg hb, if_neg hb, h2]
    refine c_skip (c_seq (c_region ?_))
    iterate 2 refine oV vM ?_
    refine oV (v_nilCheck rfl) ?_
    refine oV (vF 0 Tryz.underlying141 ti38) ?_
    refine oV (vL lone38) ?_
    refine oV vM ?_
    refine o_step (s_slice Tryz.underlying38 ti5 rfl (pX (by repeat constructor)) rfl (.inr ⟨_, _, _, rfl, rfl, by omega, rfl⟩) (.inl ⟨rfl, rfl⟩) (by omega) (by omega) (dd rfl) fun z => ?_)
    refine oV (v_nilCheck rfl) ?_
    refine oV (vF 0 Tryz.underlying141 ti38) ?_
    refine o_step (s_store1 ti38 rfl rfl (by first | exact OneC.lit rfl | exact OneC.sl (hX (by repeat constructor)) ) (pB (by repeat constructor)) (by first | decide | exact Nat.le_of_ble_eq_true rfl | simp) (by first | (dsimp only [List.set_cons_succ, List.set_cons_zero]; first | done | exact rfl) | rfl) (?_))
    refine o_nil (c_seq (c_region ?_))
    refine oV vM ?_
    refine oV vA ?_
    refine o_nil ?_
    refine c_ret1 Tryz.func125 rfl rfl fun w O hS => ?_
    exact ⟨z, rfl, trivial, by
      have e : (s.1.take s.1.length).drop many.toNat = s.1.drop many.toNat := by rw [List.take_length]
      rw [e] at hS
      exact Ent.get hS (eX (by repeat constructor))⟩
set_option maxRecDepth 100000 in
theorem goesS_con (i : Nat) (bv : Value) (s : St9) (many : Int) (is : Bool) (x : ByteArray) (hm : many ≤ s.1.length) : Con Tryz.prog 117 [ptr i, .int .i64 many, .bool is, .string x] [Blk i 141 [bv, .bool s.2], Sl eByte bv s.1] (γ := Value) (fun _ => .string (if s.2 = true ∨ is = false ∨ many < 1 then ⟨#[]⟩ else x)) (fun _ => True) (fun g => [Blk i 141 [g, .bool (goS many is s).2], Sl eByte g (goS many is s).1]) := by
  refine Con.form (v := bv) (xs := s.1) (hX (by repeat constructor)) ?_
  rintro a0 c0 rfl hc0 hm0
  refine con_of Tryz.func117 rfl (dd rfl) fun w0 O0 => ?_
  refine c_seq (c_region ?_)
  refine oV vA ?_
  refine o_nil (c_seq (c_region ?_))
  refine oV vA ?_
  refine o_nil (c_seq (c_seq ?_))
  refine c_env (env' := [(0, _), (1, _), (2, _), (3, _), (8, _), (9, _)]) (by repeat (first | exact trivial | refine ⟨rfl, ?_⟩)) ?_
  refine c_joinb (d := 21) (decide (s.2 = true ∨ is = false ∨ many < 1)) ?_ ?_
  rotate_left
  · intro J
    refine c_region ?_
    refine oV vM ?_
    refine oV (v_nilCheck rfl) ?_
    refine oV (vF 1 Tryz.underlying141 ti4) ?_
    refine oV (vL lone4) ?_
    refine oV vM ?_
    first | refine o_guard_f rfl rfl (fun g14 => ?_) (fun g14 => ?_) | refine o_guard rfl rfl (fun g14 => ?_) (fun g14 => ?_)
    · refine oV vM ?_
      refine oN ?_
      refine oV (v_not rfl) ?_
      refine oV vQ ?_
      refine oV vM ?_
      first | refine o_guard_f rfl rfl (fun g18 => ?_) (fun g18 => ?_) | refine o_guard rfl rfl (fun g18 => ?_) (fun g18 => ?_)
      · refine oV vM ?_
        refine oN ?_
        refine oV (v_lt rfl rfl) ?_
        refine oV vQ ?_
        refine o_nil ?_
        exact cJ J rfl (by first | rfl | (simp_all; done) | (simp_all; omega) | (simp; omega))
      · refine oX ?_
        refine oX ?_
        refine oV vT ?_
        refine o_nil ?_
        exact cJ J rfl (by first | rfl | (simp_all; done) | (simp_all; omega) | (simp; omega))
    · refine oX ?_
      refine oX ?_
      refine oV vT ?_
      refine oV vM ?_
      iterate 2 refine oX ?_
      refine oV vT ?_
      refine o_nil ?_
      exact cJ J rfl (by first | rfl | (simp_all; done) | (simp_all; omega) | (simp; omega))
  refine c_cond_p rfl (fun hb => ?_) (fun hb => ?_)
  · unfold goS
    rw [if_pos hb, if_pos hb]
    refine c_seq (c_region ?_)
    refine oV vM ?_
    refine oV (v_nilCheck rfl) ?_
    refine oV (vF 1 Tryz.underlying141 ti4) ?_
    refine o_step (s_store1 ti4 rfl rfl (by first | exact OneC.lit rfl | exact OneC.sl (hX (by repeat constructor)) ) (pB (by repeat constructor)) (by first | decide | exact Nat.le_of_ble_eq_true rfl | simp) (by first | (dsimp only [List.set_cons_succ, List.set_cons_zero]; first | done | exact rfl) | rfl) (?_))
    refine o_nil (c_seq (c_region ?_))
    refine oV vM ?_
    refine oV vA ?_
    refine o_nil ?_
    refine c_ret1 Tryz.func117 rfl rfl fun w O hS => ?_
    exact ⟨_, rfl, trivial, Ent.get hS (eX (by repeat constructor))⟩
  · have h2 : s.2 = false := by cases q : s.2 with | false => rfl | true => exact absurd (.inl q) hb
    unfold goS
    rw [if_neg hb, if_neg hb, h2]
    refine c_skip (c_seq (c_region ?_))
    iterate 2 refine oV vM ?_
    refine oV (v_nilCheck rfl) ?_
    refine oV (vF 0 Tryz.underlying141 ti38) ?_
    refine oV (vL lone38) ?_
    refine oV vM ?_
    refine o_step (s_slice Tryz.underlying38 ti5 rfl (pX (by repeat constructor)) rfl (.inr ⟨_, _, _, rfl, rfl, by omega, rfl⟩) (.inl ⟨rfl, rfl⟩) (by omega) (by omega) (dd rfl) fun z => ?_)
    refine oV (v_nilCheck rfl) ?_
    refine oV (vF 0 Tryz.underlying141 ti38) ?_
    refine o_step (s_store1 ti38 rfl rfl (by first | exact OneC.lit rfl | exact OneC.sl (hX (by repeat constructor)) ) (pB (by repeat constructor)) (by first | decide | exact Nat.le_of_ble_eq_true rfl | simp) (by first | (dsimp only [List.set_cons_succ, List.set_cons_zero]; first | done | exact rfl) | rfl) (?_))
    refine o_nil (c_seq (c_region ?_))
    refine oV vM ?_
    refine oV vA ?_
    refine o_nil ?_
    refine c_ret1 Tryz.func117 rfl rfl fun w O hS => ?_
    exact ⟨z, rfl, trivial, by
      have e : (s.1.take s.1.length).drop many.toNat = s.1.drop many.toNat := by rw [List.take_length]
      rw [e] at hS
      exact Ent.get hS (eX (by repeat constructor))⟩
theorem nm_cases (e : UInt8) (s : St9) : (num9 e s = none ∧ nm9 e s = (0, 0)) ∨ ∃ n m, num9 e s = some (n, m) ∧ nm9 e s = (n, m) ∧ 0 < m ∧ m ≤ s.1.length ∧ -100000000000000 < n ∧ n < 100000000000000 ∧ s.2 = false := by
  unfold nm9
  cases h : num9 e s with
  | none => exact .inl ⟨rfl, rfl⟩
  | some p =>
    obtain ⟨n, m⟩ := p
    exact .inr ⟨n, m, rfl, rfl, num9_bound h⟩
theorem num_as (s : St9) : takeNum s = (goS (nm9 59 s).2 (decide (-1099511627776 ≤ (nm9 59 s).1 ∧ (nm9 59 s).1 ≤ 1099511627776)) s, if s.2 = true ∨ decide (-1099511627776 ≤ (nm9 59 s).1 ∧ (nm9 59 s).1 ≤ 1099511627776) = false ∨ ((nm9 59 s).2 : Int) < 1 then 0 else (nm9 59 s).1) := by
  unfold takeNum goS
  rcases nm_cases 59 s with ⟨h1, h2⟩ | ⟨n, m, h1, h2, hm, _, _, _, hs⟩
  · rw [h1, h2, if_pos (.inr (.inr (by decide))), if_pos (.inr (.inr (by decide)))]
  · rw [h1, h2, hs]
    dsimp only
    unfold far9
    by_cases hf : -1099511627776 ≤ n ∧ n ≤ 1099511627776
    · have hn : ¬ (false = true ∨ decide (-1099511627776 ≤ n ∧ n ≤ 1099511627776) = false ∨ (m : Int) < 1) := by rintro (q | q | q); cases q; rw [decide_eq_true hf] at q; cases q; omega
      rw [if_pos hf, if_neg hn, if_neg hn, Int.toNat_natCast]
    · have hn : false = true ∨ decide (-1099511627776 ≤ n ∧ n ≤ 1099511627776) = false ∨ (m : Int) < 1 := .inr (.inl (decide_eq_false hf))
      rw [if_neg hf, if_pos hn, if_pos hn]
theorem flag_as (s : St9) : takeFlag s = (goS (nm9 59 s).2 (decide ((nm9 59 s).1 = 0 ∨ (nm9 59 s).1 = 1)) s, if s.2 = true ∨ decide ((nm9 59 s).1 = 0 ∨ (nm9 59 s).1 = 1) = false ∨ ((nm9 59 s).2 : Int) < 1 then false else decide ((nm9 59 s).1 = 1)) := by
  unfold takeFlag goS
  rcases nm_cases 59 s with ⟨h1, h2⟩ | ⟨n, m, h1, h2, hm, _, _, _, hs⟩
  · rw [h1, h2, if_pos (.inr (.inr (by decide))), if_pos (.inr (.inr (by decide)))]
  · rw [h1, h2, hs]
    dsimp only
    by_cases hf : n = 0 ∨ n = 1
    · have hn : ¬ (false = true ∨ decide (n = 0 ∨ n = 1) = false ∨ (m : Int) < 1) := by rintro (q | q | q); cases q; rw [decide_eq_true hf] at q; cases q; omega
      rw [if_pos hf, if_neg hn, if_neg hn, Int.toNat_natCast]
    · have hn : false = true ∨ decide (n = 0 ∨ n = 1) = false ∨ (m : Int) < 1 := .inr (.inl (decide_eq_false hf))
      rw [if_neg hf, if_pos hn, if_pos hn]
theorem nm_le (e : UInt8) (s : St9) : ((nm9 e s).2 : Int) ≤ s.1.length ∧ -100000000000000 < (nm9 e s).1 ∧ (nm9 e s).1 < 100000000000000 := by
  rcases nm_cases e s with ⟨_, h2⟩ | ⟨n, m, _, h2, _, h3, h4, h5, _⟩
  · rw [h2]; exact ⟨by simp, by decide, by decide⟩
  · rw [h2]; exact ⟨by dsimp only; omega, h4, h5⟩
set_option maxRecDepth 100000 in
theorem inNum_con (i : Nat) (bv : Value) (s : St9) (te : TypeId) (pe : Value) : Con Tryz.prog 63 [ptr i] [Blk i 141 [bv, .bool s.2], Sl eByte bv s.1, G1 te pe, G3] (γ := Value) (fun _ => .int .i64 (takeNum s).2) (fun _ => True) (fun g => [Blk i 141 [g, .bool (takeNum s).1.2], Sl eByte g (takeNum s).1.1]) := by
  have hN := number_con i bv s 59 te pe
  have hle := nm_le 59 s
  have has := num_as s
  obtain ⟨n, m, hnm⟩ : ∃ n m, nm9 59 s = (n, m) := ⟨_, _, rfl⟩
  rw [hnm] at hN hle has
  rw [has]
  dsimp only at hN hle ⊢
  have hG := fun is => goesI_con i bv s m is n hle.1
  refine con_of Tryz.func63 rfl (dd rfl) fun w0 O0 => ?_
  refine c_seq (c_region ?_)
  refine oV vA ?_
  refine o_nil (c_seq (c_region ?_))
  refine oV vM ?_
  refine o_step (s_callf_keep cl115 (hN) rfl (dd rfl) (rX (by repeat constructor)) (fun _ => sX) (fun _ _ => ?_))
  refine oV vM ?_
  refine oV vE ?_
  refine oV vE ?_
  refine oV vA ?_
  refine oV vA ?_
  refine o_nil (c_seq (c_region ?_))
  iterate 3 refine oV vM ?_
  refine oV (v_ge rfl rfl) ?_
  refine oV vM ?_
  refine o_guard_t rfl rfl (fun h1 => ?_) (fun h1 => ?_)
  · have hd : decide (-1099511627776 ≤ n ∧ n ≤ 1099511627776) = decide (n ≤ 1099511627776) := decide_eq_decide.2 ⟨fun h => h.2, fun h => ⟨by omega, h⟩⟩
    rw [hd]
    refine oV vM ?_
    refine oN ?_
    refine oV (v_le rfl rfl) ?_
    refine oV vT ?_
    refine oV vM ?_
    refine oC cl116 (hG (decide (n ≤ 1099511627776))) fun g _ => ?_
    refine oV vA ?_
    refine o_nil ?_
    refine c_ret1 Tryz.func63 rfl rfl fun w O hS => ?_
    exact ⟨g, rfl, trivial, Ent.get hS (eX (by repeat constructor))⟩
  · have hd : decide (-1099511627776 ≤ n ∧ n ≤ 1099511627776) = false := decide_eq_false (by omega)
    rw [hd]
    iterate 2 refine oX ?_
    refine oV vQ ?_
    refine oV vM ?_
    refine oC cl116 (hG false) fun g _ => ?_
    refine oV vA ?_
    refine o_nil ?_
    refine c_ret1 Tryz.func63 rfl rfl fun w O hS => ?_
    exact ⟨g, rfl, trivial, Ent.get hS (eX (by repeat constructor))⟩
set_option maxRecDepth 100000 in
theorem inFlag_con (i : Nat) (bv : Value) (s : St9) (te : TypeId) (pe : Value) : Con Tryz.prog 77 [ptr i] [Blk i 141 [bv, .bool s.2], Sl eByte bv s.1, G1 te pe, G3] (γ := Value) (fun _ => .bool (takeFlag s).2) (fun _ => True) (fun g => [Blk i 141 [g, .bool (takeFlag s).1.2], Sl eByte g (takeFlag s).1.1]) := by
  have hN := number_con i bv s 59 te pe
  have hle := nm_le 59 s
  have has := flag_as s
  obtain ⟨n, m, hnm⟩ : ∃ n m, nm9 59 s = (n, m) := ⟨_, _, rfl⟩
  rw [hnm] at hN hle has
  rw [has]
  dsimp only at hN hle ⊢
  have hG := fun is => goesB_con i bv s m is (decide (n = 1)) hle.1
  refine con_of Tryz.func77 rfl (dd rfl) fun w0 O0 => ?_
  refine c_seq (c_region ?_)
  refine oV vA ?_
  refine o_nil (c_seq (c_region ?_))
  refine oV vM ?_
  refine o_step (s_callf_keep cl115 (hN) rfl (dd rfl) (rX (by repeat constructor)) (fun _ => sX) (fun _ _ => ?_))
  refine oV vM ?_
  refine oV vE ?_
  refine oV vE ?_
  refine oV vA ?_
  refine oV vA ?_
  refine o_nil (c_seq (c_region ?_))
  iterate 3 refine oV vM ?_
  refine oV (v_eq rfl rfl) ?_
  refine oV vM ?_
  refine o_guard_f rfl rfl (fun h1 => ?_) (fun h1 => ?_)
  · have hd : decide (n = 0 ∨ n = 1) = decide (n = 1) := decide_eq_decide.2 ⟨fun h => h.resolve_left h1, .inr⟩
    rw [hd]
    refine oV vM ?_
    refine oN ?_
    refine oV (v_eq rfl rfl) ?_
    refine oV vQ ?_
    refine oV vM ?_
    refine oV (v_eq rfl rfl) ?_
    refine oC cl125 (hG (decide (n = 1))) fun g _ => ?_
    refine oV vA ?_
    refine o_nil ?_
    refine c_ret1 Tryz.func77 rfl rfl fun w O hS => ?_
    exact ⟨g, rfl, trivial, Ent.get hS (eX (by repeat constructor))⟩
  · have hd : decide (n = 0 ∨ n = 1) = true := decide_eq_true (.inl (by omega))
    rw [hd]
    iterate 2 refine oX ?_
    refine oV vT ?_
    refine oV vM ?_
    refine oV (v_eq rfl rfl) ?_
    refine oC cl125 (hG true) fun g _ => ?_
    refine oV vA ?_
    refine o_nil ?_
    refine c_ret1 Tryz.func77 rfl rfl fun w O hS => ?_
    exact ⟨g, rfl, trivial, Ent.get hS (eX (by repeat constructor))⟩
theorem text_bad {most : Int} {s : St9} {n : Int} {m : Nat} (hnm : nm9 58 s = (n, m)) (h : (m : Int) < 1 ∨ n < 0 ∨ most < n ∨ (s.1.length : Int) - m ≤ n) : takeText most s = (spoil9 s, ⟨#[]⟩) := by
  unfold takeText
  rcases nm_cases 58 s with ⟨h1, _⟩ | ⟨n', m', h1, h2, hm, _⟩
  · rw [h1]
  · rw [hnm] at h2
    cases h2
    rw [h1]
    dsimp only
    rw [if_neg (by omega)]
theorem text_good {most : Int} {s : St9} {n : Int} {m : Nat} (hnm : nm9 58 s = (n, m)) (h : ¬ ((m : Int) < 1 ∨ n < 0 ∨ most < n ∨ (s.1.length : Int) - m ≤ n)) {b : UInt8} (hb : s.1[m + n.toNat]? = some b) :
    takeText most s = (goS ((m : Int) + n + 1) (decide ((b.toNat : Int) = 44)) s, if s.2 = true ∨ decide ((b.toNat : Int) = 44) = false ∨ (m : Int) + n + 1 < 1 then ⟨#[]⟩ else sB ((s.1.take ((m : Int) + n).toNat).drop m)) := by
  unfold takeText goS
  rcases nm_cases 58 s with ⟨_, h2⟩ | ⟨n', m', h1, h2, hm, _, _, _, hs⟩
  · rw [hnm] at h2
    cases h2
    exact absurd (.inl (by decide)) h
  · rw [hnm] at h2
    cases h2
    rw [h1, hs]
    dsimp only
    have e1 : ((m : Int) + n + 1).toNat = m + n.toNat + 1 := by omega
    have e2 : ((m : Int) + n).toNat = m + n.toNat := by omega
    by_cases h44 : b = 44
    · have hd : decide ((b.toNat : Int) = 44) = true := decide_eq_true (by rw [h44]; rfl)
      have hn : ¬ (false = true ∨ true = false ∨ (m : Int) + n + 1 < 1) := by rintro (q | q | q); cases q; cases q; omega
      rw [hd, if_neg hn, if_neg hn, if_pos ⟨by omega, by omega, by omega, by rw [hb, h44]⟩, e1, e2]
      congr 1
      show sB ((s.1.drop m).take n.toNat) = sB _
      congr 1
      rw [List.drop_take, show m + n.toNat - m = n.toNat by omega]
    · have hd : decide ((b.toNat : Int) = 44) = false := decide_eq_false fun q => h44 (UInt8.toNat_inj.1 (Int.ofNat.inj q))
      have hn : false = true ∨ false = false ∨ (m : Int) + n + 1 < 1 := .inr (.inl rfl)
      rw [hd, if_pos hn, if_pos hn, if_neg (fun q => h44 (by have := q.2.2.2; rw [hb] at this; exact Option.some.inj this))]
set_option maxRecDepth 100000 in
theorem inText_con (i : Nat) (bv : Value) (s : St9) (most : Int) (te : TypeId) (pe : Value) : Con Tryz.prog 64 [ptr i, .int .i64 most] [Blk i 141 [bv, .bool s.2], Sl eByte bv s.1, G1 te pe, G3] (γ := Value) (fun _ => .string (takeText most s).2) (fun _ => True) (fun g => [Blk i 141 [g, .bool (takeText most s).1.2], Sl eByte g (takeText most s).1.1]) := by
  refine Con.form (v := bv) (xs := s.1) (hX (by repeat constructor)) ?_
  rintro a0 c0 rfl hc0 hm0
  have hmx : c0 ≤ 9223372036854775807 := hm0
  have hN := number_con i (.slice a0 s.1.length c0) s 58 te pe
  have hle := nm_le 58 s
  obtain ⟨n, m, hnm⟩ : ∃ n m, nm9 58 s = (n, m) := ⟨_, _, rfl⟩
  rw [hnm] at hN hle
  dsimp only at hN hle ⊢
  have hG := fun is many x h => goesS_con i (.slice a0 s.1.length c0) s many is x h
  refine con_of Tryz.func64 rfl (dd rfl) fun w0 O0 => ?_
  refine c_seq (c_region ?_)
  refine oV vA ?_
  refine o_nil (c_seq (c_region ?_))
  refine oV vM ?_
  refine o_step (s_callf_keep cl115 (hN) rfl (dd rfl) (rX (by repeat constructor)) (fun _ => sX) (fun _ _ => ?_))
  refine oV vM ?_
  refine oV vE ?_
  refine oV vE ?_
  refine oV vA ?_
  refine oV vA ?_
  refine o_nil (c_seq (c_seq ?_))
  refine c_env (env' := [(0, _), (1, _), (4, _), (5, _), (6, _)]) (by repeat (first | exact trivial | refine ⟨rfl, ?_⟩)) ?_
  refine c_joinb (d := 34) (decide ((m : Int) < 1 ∨ n < 0 ∨ most < n ∨ (s.1.length : Int) - m ≤ n)) ?_ ?_
  rotate_left
  · intro J
    refine c_region ?_
    refine oV vM ?_
    refine oV (v_lt rfl rfl) ?_
    refine oV vM ?_
    first | refine o_guard_f rfl rfl (fun g15 => ?_) (fun g15 => ?_) | refine o_guard rfl rfl (fun g15 => ?_) (fun g15 => ?_)
    · refine oV vM ?_
      refine oN ?_
      refine oV (v_lt rfl rfl) ?_
      refine oV vQ ?_
      refine oV vM ?_
      first | refine o_guard_f rfl rfl (fun g19 => ?_) (fun g19 => ?_) | refine o_guard rfl rfl (fun g19 => ?_) (fun g19 => ?_)
      · refine oV vM ?_
        refine oN ?_
        refine oV vM ?_
        refine oN ?_
        refine oV (v_gt rfl rfl) ?_
        refine oV vQ ?_
        refine oV vM ?_
        first | refine o_guard_f rfl rfl (fun g24 => ?_) (fun g24 => ?_) | refine o_guard rfl rfl (fun g24 => ?_) (fun g24 => ?_)
        · refine oV vM ?_
          refine oN ?_
          refine oV vM ?_
          refine oN ?_
          refine oV (v_nilCheck rfl) ?_
          refine oN ?_
          refine oV (vF 0 Tryz.underlying141 ti38) ?_
          refine oN ?_
          refine oV (vL lone38) ?_
          refine oN ?_
          refine oV ((by first | exact v_len_form Tryz.underlying38 rfl | exact v_len_sl Tryz.underlying38 rfl (hX (by repeat constructor)))) ?_
          refine oN ?_
          refine oV vM ?_
          refine oN ?_
          refine oV ((by first | exact v_sub64 rfl rfl (by omega) | exact v_sub rfl rfl)) ?_
          refine oN ?_
          refine oV (v_ge rfl rfl) ?_
          refine oV vQ ?_
          refine o_nil ?_
          exact cJ J rfl (by first | rfl | exact decide_eq_decide.2 (by omega) | exact (decide_eq_true (by omega)).symm | (simp_all; done) | (simp_all; omega))
        · refine oX ?_
          iterate 8 refine oX ?_
          refine oV vT ?_
          refine o_nil ?_
          exact cJ J rfl (by first | rfl | exact decide_eq_decide.2 (by omega) | exact (decide_eq_true (by omega)).symm | (simp_all; done) | (simp_all; omega))
      · refine oX ?_
        iterate 2 refine oX ?_
        refine oV vT ?_
        refine oV vM ?_
        iterate 9 refine oX ?_
        refine oV vT ?_
        refine o_nil ?_
        exact cJ J rfl (by first | rfl | exact decide_eq_decide.2 (by omega) | exact (decide_eq_true (by omega)).symm | (simp_all; done) | (simp_all; omega))
    · refine oX ?_
      refine oX ?_
      refine oV vT ?_
      refine oV vM ?_
      iterate 3 refine oX ?_
      refine oV vT ?_
      refine oV vM ?_
      iterate 9 refine oX ?_
      refine oV vT ?_
      refine o_nil ?_
      exact cJ J rfl (by first | rfl | exact decide_eq_decide.2 (by omega) | exact (decide_eq_true (by omega)).symm | (simp_all; done) | (simp_all; omega))
  refine c_cond_p rfl (fun hb => ?_) (fun hb => ?_)
  · rw [text_bad hnm hb]
    have hg0 : goS 0 false s = spoil9 s := if_pos (.inr (.inl rfl))
    refine c_seq (c_region ?_)
    refine oV vM ?_
    refine oC cl117 (hG false 0 ⟨#[]⟩ (by omega)) fun g _ => ?_
    refine oV vA ?_
    refine o_nil ?_
    rw [hg0, if_pos (.inr (.inl rfl))]
    refine c_ret1 Tryz.func64 rfl rfl fun w O hS => ?_
    exact ⟨g, rfl, trivial, Ent.get hS (eX (by repeat constructor))⟩
  · have hk : m + n.toNat < s.1.length := by omega
    have hkn : ((m : Int) + n).toNat = m + n.toNat := by omega
    have hk2 : ((m : Int) + n).toNat < s.1.length := by omega
    have hby : s.1[m + n.toNat]? = some (s.1[((m : Int) + n).toNat]'hk2) := by rw [← hkn]; exact List.getElem?_eq_getElem hk2
    rw [text_good hnm hb hby]
    refine c_skip (c_seq (c_region ?_))
    iterate 2 refine oV vM ?_
    refine oV ((by first | exact v_add64 rfl rfl (by omega) | exact v_add rfl rfl)) ?_
    refine oV vA ?_
    refine o_nil (c_seq ?_)
    refine c_ent (Ent.share (pX (by repeat constructor)) (Sl.isDup eByte (.slice a0 s.1.length c0) s.1) fun _ _ h => Sl.cutV (lo := m) (hi := ((m : Int) + n).toNat) (c := c0) h (by omega) (by omega) (by omega) (Nat.le_refl _)) ?_
    refine c_heldk 19 [BlkR i 141 [.slice a0 s.1.length c0, .bool s.2], Sl eByte (.slice a0 s.1.length c0) s.1, Sl eByte (cutV a0 m ((m : Int) + n).toNat c0 eByte.n) ((s.1.take ((m : Int) + n).toNat).drop m)] rfl ?_
    refine k_take 0 rfl (by kernel_rfl) (by kernel_rfl) (by kernel_rfl) rfl (by kernel_rfl) vM (eX (by repeat constructor)) (dd rfl) ?_
    refine k_take 1 rfl (by kernel_rfl) (by kernel_rfl) (by kernel_rfl) rfl (by kernel_rfl) vM (eX (by repeat constructor)) (dd rfl) ?_
    refine k_take 2 rfl (by kernel_rfl) (by kernel_rfl) (by kernel_rfl) rfl (by kernel_rfl) ((by first | exact v_add64 rfl rfl (by omega) | exact v_add rfl rfl)) (eX (by repeat constructor)) (dd rfl) ?_
    refine k_take 3 rfl (by kernel_rfl) (by kernel_rfl) (by kernel_rfl) rfl (by kernel_rfl) vM (eX (by repeat constructor)) (dd rfl) ?_
    refine k_take 4 rfl (by kernel_rfl) (by kernel_rfl) (by kernel_rfl) rfl (by kernel_rfl) (v_nilCheck rfl) (eX (by repeat constructor)) (dd rfl) ?_
    refine k_take 5 rfl (by kernel_rfl) (by kernel_rfl) (by kernel_rfl) rfl (by kernel_rfl) (vF 0 Tryz.underlying141 ti38) (eX (by repeat constructor)) (dd rfl) ?_
    refine k_take 6 rfl (by kernel_rfl) (by kernel_rfl) (by kernel_rfl) rfl (by kernel_rfl) (vL lone38) (eX (by repeat constructor)) (dd rfl) ?_
    refine k_take 7 rfl (by kernel_rfl) (by kernel_rfl) (by kernel_rfl) rfl (by kernel_rfl) vM (eX (by repeat constructor)) (dd rfl) ?_
    refine k_take 8 rfl (by kernel_rfl) (by kernel_rfl) (by kernel_rfl) rfl (by kernel_rfl) ((by first | exact v_indexAddrN Tryz.underlying38 ti5 rfl rfl (hX (by repeat constructor)) (by omega) | exact v_indexAddr Tryz.underlying38 ti5 rfl rfl (hX (by repeat constructor)) (by omega))) (eX (by repeat constructor)) (dd rfl) ?_
    refine k_take 9 rfl (by kernel_rfl) (by kernel_rfl) (by kernel_rfl) rfl (by kernel_rfl) (v_load_byte lone5 rfl (by repeat (first | exact Elem.sl (List.getElem?_eq_getElem (by omega)) | exact Elem.own (List.getElem?_eq_getElem (by omega)) | exact Elem.ownO (List.getElem?_eq_getElem (by omega)) | apply Elem.there))) (eX (by repeat constructor)) (dd rfl) ?_
    refine k_take 10 rfl (by kernel_rfl) (by kernel_rfl) (by kernel_rfl) rfl (by kernel_rfl) (v_eq rfl rfl) (eX (by repeat constructor)) (dd rfl) ?_
    refine k_take 11 rfl (by kernel_rfl) (by kernel_rfl) (by kernel_rfl) rfl (by kernel_rfl) vM (eX (by repeat constructor)) (dd rfl) ?_
    refine k_take 12 rfl (by kernel_rfl) (by kernel_rfl) (by kernel_rfl) rfl (by kernel_rfl) (v_nilCheck rfl) (eX (by repeat constructor)) (dd rfl) ?_
    refine k_take 13 rfl (by kernel_rfl) (by kernel_rfl) (by kernel_rfl) rfl (by kernel_rfl) (vF 0 Tryz.underlying141 ti38) (eX (by repeat constructor)) (dd rfl) ?_
    refine k_take 14 rfl (by kernel_rfl) (by kernel_rfl) (by kernel_rfl) rfl (by kernel_rfl) (vL lone38) (eX (by repeat constructor)) (dd rfl) ?_
    refine k_take 15 rfl (by kernel_rfl) (by kernel_rfl) (by kernel_rfl) rfl (by kernel_rfl) vM (eX (by repeat constructor)) (dd rfl) ?_
    refine k_take 16 rfl (by kernel_rfl) (by kernel_rfl) (by kernel_rfl) rfl (by kernel_rfl) vM (eX (by repeat constructor)) (dd rfl) ?_
    refine k_take 17 rfl (by kernel_rfl) (by kernel_rfl) (by kernel_rfl) rfl (by kernel_rfl) (v_slice Tryz.underlying38 ti5 rfl (.inr ⟨_, _, _, rfl, rfl, by omega, rfl⟩) (.inr ⟨_, _, _, rfl, rfl, by omega, rfl⟩) (.inl ⟨rfl, rfl⟩) (by omega) (by omega) (by omega)) (eX (by repeat constructor)) (dd rfl) ?_
    refine k_one 18 rfl (by kernel_rfl) fun hc_ => (s_val (v_conv_bytes Tryz.underlying38 Tryz.underlying5 Tryz.underlying9 rfl (hX (by repeat constructor))) (dd rfl) (k_on hc_ (eX (by repeat constructor)) ?_))
    refine k_one 19 rfl (by kernel_rfl) fun hc_ => (s_callf cl117 (hG (decide (((s.1[((m : Int) + n).toNat]'hk2).toNat : Int) = 44)) ((m : Int) + n + 1) (sB ((s.1.take ((m : Int) + n).toNat).drop m)) (by omega)) rfl (dd rfl) (pXs (by repeat constructor)) (fun g _ => k_last hc_ (by kernel_rfl) ?_))
    refine k_takeF 20 rfl (by kernel_rfl) (by kernel_rfl) (by kernel_rfl) rfl vA (.inl (by kernel_rfl)) (dd rfl) ?_
    refine k_done (by kernel_rfl) ?_ _
    refine c_ret1 Tryz.func64 rfl rfl fun w O hS => ?_
    exact ⟨g, rfl, trivial, Ent.get hS (eX (by repeat constructor))⟩
end Go.Proofs.YtlfehnnmpkohkaaGreatDoor
/- Chapter 09: the document's readers: a number. -/
namespace Go.Proofs.YtlfehnnmpkohkaaGreatDoor
open Go Go.SL Go.Lib
theorem num9_none {e : UInt8} {l : List UInt8} {b : Bool} (h : l.findIdx? (· == e) = none) : num9 e (l, b) = none := by
  unfold num9
  split
  · rfl
  · rw [numberR_full, h]
theorem num9_bad {e : UInt8} {l : List UInt8} {b : Bool} (h : b = true) : num9 e (l, b) = none := if_pos h
theorem num9_off {e : UInt8} {l : List UInt8} {b : Bool} {k : Nat} (h : l.findIdx? (· == e) = some k) (hk : k = 0 ∨ 14 < k) : num9 e (l, b) = none := by
  unfold num9
  split
  · rfl
  · rw [numberR_full, h]
    exact if_pos hk
theorem num9_at {e : UInt8} {l : List UInt8} {b : Bool} {k : Nat} (hb : ¬ b = true) (h : l.findIdx? (· == e) = some k) (hk : ¬ (k = 0 ∨ 14 < k)) : num9 e (l, b) = (numS (l.take k)).map fun n => (n, k + 1) := by
  unfold num9
  rw [if_neg hb, numberR_full, h]
  exact if_neg hk
theorem sAt_get {B : ByteArray} {k : Nat} (h : k < B.data.toList.length) : sAt B k = ((B.data.toList[k]).toNat : Int) := by
  unfold sAt
  rw [Int.toNat_natCast, List.getD_eq_getElem?_getD, List.getElem?_eq_getElem h]; rfl
theorem extract_left (B : ByteArray) (a k : Nat) : B.extract a k = sB ((leftB B a).take (k - a)) := by
  apply ByteArray.ext
  rw [ByteArray.data_extract]
  apply Array.ext'
  rw [Array.toList_extract]
  show _ = (sB _).data.toList
  rw [sB_list]
  unfold leftB
  rw [List.extract_eq_take_drop]
def inV (B : ByteArray) (k : Nat) (bad : Bool) : Value := .agg #[.string B, .int .i64 k, .bool bad]
attribute [local irreducible] Cfg Kont StepK Val Con Qops Any Sl Own Blk BlkR Rd Pu ExA AllA Has Pick Ent Elem Beside Callable TI Lone OwnO AndA
set_option maxRecDepth 100000 in
theorem upto_con (B : ByteArray) (at0 : Nat) (bad : Bool) (e : UInt8) (hB : B.size ≤ 4611686018427387904) (ha : at0 ≤ B.size) : Con Tryz.prog 122 [inV B at0 bad, .int .u8 e.toNat] [] (γ := Unit)
    (fun _ => .tuple #[.int .i64 (((num9 e (leftB B at0, bad)).map (·.1)).getD 0), .int .i64 (((num9 e (leftB B at0, bad)).map fun p => (at0 + p.2 : Int)).getD 0), .bool (num9 e (leftB B at0, bad)).isSome]) (fun _ => True) (fun _ => []) := by
  unfold inV
  refine con_of Tryz.func122 rfl (dd rfl) fun w0 O0 => ?_
  refine c_seq (c_region ?_)
  refine o_step (s_box rfl (dd rfl) (fun b2 => ?_))
  refine oV vA ?_
  refine oV vA ?_
  refine oV vA ?_
  refine o_nil (c_seq (c_region ?_))
  refine oV (vF 1 Tryz.underlying110 ti3) ?_
  refine oV (vL lone3) ?_
  refine oV vA ?_
  refine o_nil (c_seq (c_block ?_))
  refine c_loopR (γ := Nat) [(1, _), (2, _), (4, _), (5, _), (6, _)] (fun k => B.size - k) (fun k => at0 ≤ k ∧ k ≤ B.size ∧ ∀ j (h : j < B.data.toList.length), at0 ≤ j → j < k → B.data.toList[j] ≠ e) (fun k => [(7, .int .i64 k)]) (fun _ => [Blk b2 110 [.string B, .int .i64 at0, .bool bad]]) (at0) (⟨Nat.le_refl _, ha, fun _ _ _ _ => by omega⟩) (by repeat (first | exact trivial | refine ⟨rfl, ?_⟩)) (eX (by repeat constructor)) ?_
  rintro k ⟨hk1, hk2, hk3⟩ IH
  have hbl := ba_len B
  try dsimp only [List.cons_append, List.nil_append]
  refine c_seq (c_seq (c_region ?_))
  refine oV vM ?_
  refine oV (vF 0 Tryz.underlying110 ti9) ?_
  refine oV (vL lone9) ?_
  refine oV (v_len_str Tryz.underlying9 rfl) ?_
  refine oV (v_lt rfl rfl) ?_
  refine oV vM ?_
  refine o_guard rfl rfl (fun g => ?_) (fun g => ?_)
  · have hk' : k < B.size := by have := of_decide_eq_true g; omega
    refine oV (vF 0 Tryz.underlying110 ti9) ?_
    refine oN ?_
    refine oV (vL lone9) ?_
    refine oN ?_
    refine oV vM ?_
    refine oN ?_
    refine oV (v_index_str Tryz.underlying9 rfl rfl (by omega)) ?_
    refine oN ?_
    refine oV vM ?_
    refine oN ?_
    refine oV (v_ne rfl rfl) ?_
    refine oV vT ?_
    refine o_nil ?_
    have hsa := sAt_get (B := B) (k := k) (by omega)
    refine c_cond_p rfl (fun hne => ?_) (fun hne => ?_)
    · have hne2 : B.data.toList[k]'(by omega) ≠ e := fun h => hne (by rw [hsa, h])
      refine c_skip (c_block (c_region ?_))
      refine oV vM ?_
      refine oV ((by first | exact v_add64 rfl rfl (by omega) | exact v_add rfl rfl)) ?_
      refine oV vA ?_
      refine o_nil (c_inBlock ?_)
      refine cU (IH (k + 1) (by first | omega | (dsimp only; omega)) (⟨by omega, by omega, fun j h h1 h2 => (Nat.lt_succ_iff_lt_or_eq.1 h2).elim (hk3 j h h1) fun q => by subst q; exact hne2⟩))
    · have heq : B.data.toList[k]'(by omega) = e := by
        have := Classical.not_not.1 hne
        rw [hsa] at this
        exact UInt8.toNat_inj.1 (by omega)
      have hfi := find_left hk1 (by omega) heq hk3
      refine c_exit rfl ?_
      refine c_seq (c_seq ?_)
      refine c_env (env' := [(2, _), (4, _), (5, _), (6, _), (7, _)]) (by repeat (first | exact trivial | refine ⟨rfl, ?_⟩)) ?_
      refine c_joinb (d := 48) (decide (bad = true ∨ k = at0 ∨ at0 + 14 < k)) ?_ ?_
      rotate_left
      · intro J
        refine c_region ?_
        refine oV (vF 2 Tryz.underlying110 ti4) ?_
        refine oV (vL lone4) ?_
        refine oV vM ?_
        first | refine o_guard_f rfl rfl (fun g29 => ?_) (fun g29 => ?_) | refine o_guard rfl rfl (fun g29 => ?_) (fun g29 => ?_)
        · refine oV vM ?_
          refine oN ?_
          refine oV (vF 0 Tryz.underlying110 ti9) ?_
          refine oN ?_
          refine oV (vL lone9) ?_
          refine oN ?_
          refine oV (v_len_str Tryz.underlying9 rfl) ?_
          refine oN ?_
          refine oV (v_eq rfl rfl) ?_
          refine oV vQ ?_
          refine oV vM ?_
          first | refine o_guard_f rfl rfl (fun g36 => ?_) (fun g36 => ?_) | refine o_guard rfl rfl (fun g36 => ?_) (fun g36 => ?_)
          · refine oV vM ?_
            refine oN ?_
            refine oV (vF 1 Tryz.underlying110 ti3) ?_
            refine oN ?_
            refine oV (vL lone3) ?_
            refine oN ?_
            refine oV (v_eq rfl rfl) ?_
            refine oV vQ ?_
            refine oV vM ?_
            first | refine o_guard_f rfl rfl (fun g42 => ?_) (fun g42 => ?_) | refine o_guard rfl rfl (fun g42 => ?_) (fun g42 => ?_)
            · refine oV vM ?_
              refine oN ?_
              refine oV (vF 1 Tryz.underlying110 ti3) ?_
              refine oN ?_
              refine oV (vL lone3) ?_
              refine oN ?_
              refine oV ((by first | exact v_add64 rfl rfl (by omega) | exact v_add rfl rfl)) ?_
              refine oN ?_
              refine oV (v_gt rfl rfl) ?_
              refine oV vQ ?_
              refine o_nil ?_
              exact cJ J rfl (by clear IH hk3 hfi heq hne hsa; first | rfl | (simp_all; done) | (simp_all; omega) | exact decide_eq_decide.2 ⟨fun h => .inr (.inr (by omega)), fun h => h.elim (fun h => absurd (g29.symm.trans h) (by decide)) fun h => h.elim (fun h => absurd (congrArg Int.ofNat h) g42) fun h => by omega⟩)
            · refine oX ?_
              iterate 4 refine oX ?_
              refine oV vT ?_
              refine o_nil ?_
              exact cJ J rfl (by clear IH hk3 hfi heq hne hsa; first | rfl | (simp_all; done) | (simp_all; omega) | exact decide_eq_decide.2 ⟨fun h => .inr (.inr (by omega)), fun h => h.elim (fun h => absurd (g29.symm.trans h) (by decide)) fun h => h.elim (fun h => absurd (congrArg Int.ofNat h) g42) fun h => by omega⟩)
          · refine oX ?_
            iterate 3 refine oX ?_
            refine oV vT ?_
            refine oV vM ?_
            iterate 5 refine oX ?_
            refine oV vT ?_
            refine o_nil ?_
            exact cJ J rfl (by clear IH hk3 hfi heq hne hsa; first | rfl | (simp_all; done) | (simp_all; omega) | exact decide_eq_decide.2 ⟨fun h => .inr (.inr (by omega)), fun h => h.elim (fun h => absurd (g29.symm.trans h) (by decide)) fun h => h.elim (fun h => absurd (congrArg Int.ofNat h) g42) fun h => by omega⟩)
        · refine oX ?_
          iterate 4 refine oX ?_
          refine oV vT ?_
          refine oV vM ?_
          iterate 4 refine oX ?_
          refine oV vT ?_
          refine oV vM ?_
          iterate 5 refine oX ?_
          refine oV vT ?_
          refine o_nil ?_
          exact cJ J rfl (by clear IH hk3 hfi heq hne hsa; first | rfl | (simp_all; done) | (simp_all; omega) | exact decide_eq_decide.2 ⟨fun h => .inr (.inr (by omega)), fun h => h.elim (fun h => absurd (g29.symm.trans h) (by decide)) fun h => h.elim (fun h => absurd (congrArg Int.ofNat h) g42) fun h => by omega⟩)
      refine c_cond_p rfl (fun hp => ?_) (fun hp => ?_)
      · have hno : num9 e (leftB B at0, bad) = none := hp.elim num9_bad fun h => num9_off hfi (by omega)
        refine c_seq (c_region ?_)
        refine oV vA ?_
        refine oV vA ?_
        refine oV vA ?_
        refine o_nil ?_
        refine c_ret3 Tryz.func122 rfl rfl rfl rfl fun w O hS => ?_
        exact ⟨(), by rw [hno]; rfl, trivial, trivial⟩
      · have hat := num9_at (fun h => hp (.inl h)) hfi (by omega)
        have hTl : ((leftB B at0).take (k - at0)).length = k - at0 := by rw [List.length_take, leftB_len]; omega
        refine c_skip (c_seq (c_region ?_))
        refine oV vA ?_
        refine o_nil (c_seq (c_seq (c_region ?_)))
        refine oV (vF 1 Tryz.underlying110 ti3) ?_
        refine oV (vL lone3) ?_
        refine oV vA ?_
        refine o_nil (c_block ?_)
        refine c_loopR (γ := Nat × Int) [(2, _), (4, _), (5, _), (6, _), (7, _)] (fun g => k - g.1) (fun g => at0 ≤ g.1 ∧ g.1 ≤ k ∧ g.2 = valR ((leftB B at0).take (g.1 - at0))) (fun g => [(9, .int .i64 g.1), (8, .int .i64 g.2)]) (fun _ => [Blk b2 110 [.string B, .int .i64 at0, .bool bad]]) ((at0, 0)) (⟨Nat.le_refl _, hk1, by simp [valR]⟩) (by repeat (first | exact trivial | refine ⟨rfl, ?_⟩)) (eX (by repeat constructor)) ?_
        rintro ⟨j, n⟩ ⟨hj1, hj2, hn⟩ IH2
        dsimp only at hj1 hj2 hn ⊢
        try dsimp only [List.cons_append, List.nil_append]
        refine c_seq (c_seq (c_region ?_))
        iterate 2 refine oV vM ?_
        refine oV (v_lt rfl rfl) ?_
        refine o_nil ?_
        refine c_cond_p rfl (fun hlj => ?_) (fun hlj => ?_)
        · have hjk : j < k := by omega
          have hsj := sAt_get (B := B) (k := j) (by omega)
          have hgj := leftB_get (B := B) (a := at0) (j := j - at0) (by omega)
          refine c_skip (c_seq (c_block (c_seq ?_)))
          have htk : (leftB B at0).take (j + 1 - at0) = (leftB B at0).take (j - at0 + 1) := by rw [show j + 1 - at0 = j - at0 + 1 by omega]
          have hjl : j - at0 < (leftB B at0).length := by rw [leftB_len]; omega
          have hnx := valR_next hjl
          have hbd := val_small (s := (leftB B at0).take (j - at0)) (by rw [List.length_take]; omega)
          rw [← hn] at hbd hnx
          have hsl : sAt B j = (((leftB B at0)[j - at0]'hjl).toNat : Int) := by
            have hix : at0 + (j - at0) = j := by omega
            rw [List.getElem?_eq_getElem hjl] at hgj
            have hgi := Option.some.inj hgj
            rw [hsj, hgi]
            simp only [hix]
          have hc256 := UInt8.toNat_lt ((leftB B at0)[j - at0]'hjl)
          refine c_env (env' := [(2, _), (4, _), (5, _), (6, _), (7, _), (8, _), (9, _), (51, _), (52, _), (53, _)]) (by repeat (first | exact trivial | refine ⟨rfl, ?_⟩)) ?_
          refine c_joinb (d := 67) (decide (48 ≤ ((leftB B at0)[j - at0]'hjl).toNat ∧ ((leftB B at0)[j - at0]'hjl).toNat ≤ 57)) ?_ ?_
          rotate_left
          · intro J
            refine c_region ?_
            refine oV (vF 0 Tryz.underlying110 ti9) ?_
            refine oV (vL lone9) ?_
            refine oV vM ?_
            refine oV (v_index_str Tryz.underlying9 rfl rfl (by omega)) ?_
            refine oV (v_ge rfl rfl) ?_
            refine oV vM ?_
            first | refine o_guard_t rfl rfl (fun g61 => ?_) (fun g61 => ?_) | refine o_guard rfl rfl (fun g61 => ?_) (fun g61 => ?_)
            · refine oV (vF 0 Tryz.underlying110 ti9) ?_
              refine oN ?_
              refine oV (vL lone9) ?_
              refine oN ?_
              refine oV vM ?_
              refine oN ?_
              refine oV (v_index_str Tryz.underlying9 rfl rfl (by omega)) ?_
              refine oN ?_
              refine oV (v_le rfl rfl) ?_
              refine oV vT ?_
              refine o_nil ?_
              exact cJ J rfl (by clear IH IH2 hk3 hfi heq hne hsa hat hnx htk hgj hsj; rw [hsl] at *; first | rfl | (simp_all; done) | (simp_all; omega) | exact decide_eq_decide.2 ⟨fun h => ⟨by omega, by omega⟩, fun h => by omega⟩)
            · refine oX ?_
              iterate 4 refine oX ?_
              refine oV vQ ?_
              refine o_nil ?_
              exact cJ J rfl (by clear IH IH2 hk3 hfi heq hne hsa hat hnx htk hgj hsj; rw [hsl] at *; first | rfl | (simp_all; done) | (simp_all; omega) | exact decide_eq_decide.2 ⟨fun h => ⟨by omega, by omega⟩, fun h => by omega⟩)
          refine c_cond_p rfl (fun hd => ?_) (fun hd => ?_)
          · have hcv : IntKind.i64.wrap (sAt B j) = (((leftB B at0)[j - at0]'hjl).toNat : Int) := by rw [IntKind.wrap_i64, hsl]; omega
            refine c_region ?_
            refine oV vM ?_
            refine oV ((by first | exact v_mul64 rfl rfl (by omega) | exact v_mul rfl rfl)) ?_
            refine oV (vF 0 Tryz.underlying110 ti9) ?_
            refine oV (vL lone9) ?_
            refine oV vM ?_
            refine oV (v_index_str Tryz.underlying9 rfl rfl (by omega)) ?_
            refine oV (v_conv_int Tryz.underlying5 Tryz.underlying3 rfl) ?_
            refine oV ((by first | exact v_add64 rfl rfl (by omega) | exact v_add rfl rfl)) ?_
            refine oV ((by first | exact v_sub64 rfl rfl (by omega) | exact v_sub rfl rfl)) ?_
            refine oV vA ?_
            refine o_nil (c_inBlock (c_region ?_))
            refine oV vM ?_
            refine oV ((by first | exact v_add64 rfl rfl (by omega) | exact v_add rfl rfl)) ?_
            refine oV vA ?_
            refine o_nil ?_
            rw [hcv]
            refine cU (IH2 ((j + 1, 10 * n + (((leftB B at0)[j - at0]'hjl).toNat : Int) - 48)) (by first | omega | (dsimp only; omega)) (⟨by dsimp only; omega, by dsimp only; omega, by dsimp only; rw [htk, hnx]; exact (if_pos hd).symm⟩))
          · refine c_skip (c_inBlock (c_region ?_))
            refine oV vM ?_
            refine oV ((by first | exact v_add64 rfl rfl (by omega) | exact v_add rfl rfl)) ?_
            refine oV vA ?_
            refine o_nil ?_
            refine cU (IH2 ((j + 1, n)) (by first | omega | (dsimp only; omega)) (⟨by dsimp only; omega, by dsimp only; omega, by dsimp only; rw [htk, hnx]; exact (if_neg hd).symm⟩))
        · have hje : j = k := by omega
          subst hje
          have hkl : j - at0 ≠ 0 ∧ ¬ 14 < j - at0 := by omega
          have hbd := val_small (s := (leftB B at0).take (j - at0)) (by omega)
          have hs0 := sAt_get (B := B) (k := at0) (by omega)
          have hhd : ((leftB B at0).take (j - at0)).head? = some (B.data.toList[at0]'(by omega)) := by
            rw [List.head?_take, if_neg hkl.1, List.head?_eq_getElem?]
            exact leftB_get (B := B) (a := at0) (j := 0) (by omega)
          rw [← hn] at hbd
          have hex : B.extract ((at0 : Int).toNat) ((j : Int).toNat) = sB ((leftB B at0).take (j - at0)) := extract_left B at0 j
          refine c_exit rfl ?_
          refine c_seq (c_seq (c_region ?_))
          refine oV (vF 0 Tryz.underlying110 ti9) ?_
          refine oV (vL lone9) ?_
          refine oV (vF 1 Tryz.underlying110 ti3) ?_
          refine oV (vL lone3) ?_
          refine oV (v_index_str Tryz.underlying9 rfl rfl (by omega)) ?_
          refine oV (v_eq rfl rfl) ?_
          refine o_nil ?_
          refine c_cond_p rfl (fun h45 => ?_) (fun h45 => ?_)
          · have hvS : valS ((leftB B at0).take (j - at0)) = 0 - n := by
              unfold valS
              rw [hhd, if_pos (congrArg some (UInt8.toNat_inj.1 (by rw [hs0] at h45; exact Int.ofNat.inj h45))), hn]
            refine c_region ?_
            refine oV vM ?_
            refine oV ((by first | exact v_sub64 rfl rfl (by omega) | exact v_sub rfl rfl)) ?_
            refine oV vA ?_
            refine o_nil (c_seq (c_seq ?_))
            refine c_held [BlkR b2 110 [.string B, .int .i64 at0, .bool bad]] rfl ?_
            refine aT 0 rfl vM ?_
            refine aT 2 rfl (vF 0 Tryz.underlying110 ti9) ?_
            refine aT 3 rfl (vL lone9) ?_
            refine aT 4 rfl (vF 1 Tryz.underlying110 ti3) ?_
            refine aT 5 rfl (vL lone3) ?_
            refine aT 6 rfl vM ?_
            refine aT 7 rfl (v_cut Tryz.underlying9 rfl rfl rfl (by omega)) ?_
            refine aO 1 rfl (s_callf_keep cl113 (digits_con (((0 - n)).natAbs + 2) (0 - n) (by split <;> omega) (by omega) (by omega)) rfl (dd rfl) (rX (by repeat constructor)) (fun _ => sX) (fun _ _ => aK ?_))
            refine aT 8 rfl (v_sne rfl rfl) ?_
            refine a_done (by kernel_rfl) ?_ _
            rw [hex]
            refine c_cond_p rfl (fun hq => ?_) (fun hq => ?_)
            · have hno : numS ((leftB B at0).take (j - at0)) = none := by
                unfold numS
                rw [hvS, if_neg fun k => hq (by rw [k])]
              refine c_seq (c_region ?_)
              refine oV vA ?_
              refine oV vA ?_
              refine oV vA ?_
              refine o_nil ?_
              refine c_ret3 Tryz.func122 rfl rfl rfl rfl fun w O hS => ?_
              exact ⟨(), by rw [hat, hno]; rfl, trivial, trivial⟩
            · have hyes : numS ((leftB B at0).take (j - at0)) = some ((0 - n)) := by
                unfold numS
                rw [hvS, if_pos (sB_inj (Classical.not_not.1 hq))]
              have hki : (at0 : Int) + ((j - at0 + 1 : Nat) : Int) = (j : Int) + 1 := by omega
              refine c_skip (c_seq (c_region ?_))
              iterate 2 refine oV vM ?_
              refine oV ((by first | exact v_add64 rfl rfl (by omega) | exact v_add rfl rfl)) ?_
              refine oV vA ?_
              refine oV vA ?_
              refine oV vA ?_
              refine o_nil ?_
              refine c_ret3 Tryz.func122 rfl rfl rfl rfl fun w O hS => ?_
              refine ⟨(), ?_, trivial, trivial⟩
              rw [hat, hyes]
              simp only [Option.map_some, Option.getD_some, Option.isSome_some, hki]
          · have hvS : valS ((leftB B at0).take (j - at0)) = n := by
              unfold valS
              rw [hhd, if_neg (fun k => h45 (by rw [hs0, Option.some.inj k]; rfl)), hn]
            refine c_skip (c_seq (c_seq ?_))
            refine c_held [BlkR b2 110 [.string B, .int .i64 at0, .bool bad]] rfl ?_
            refine aT 0 rfl vM ?_
            refine aT 2 rfl (vF 0 Tryz.underlying110 ti9) ?_
            refine aT 3 rfl (vL lone9) ?_
            refine aT 4 rfl (vF 1 Tryz.underlying110 ti3) ?_
            refine aT 5 rfl (vL lone3) ?_
            refine aT 6 rfl vM ?_
            refine aT 7 rfl (v_cut Tryz.underlying9 rfl rfl rfl (by omega)) ?_
            refine aO 1 rfl (s_callf_keep cl113 (digits_con ((n).natAbs + 2) n (by split <;> omega) (by omega) (by omega)) rfl (dd rfl) (rX (by repeat constructor)) (fun _ => sX) (fun _ _ => aK ?_))
            refine aT 8 rfl (v_sne rfl rfl) ?_
            refine a_done (by kernel_rfl) ?_ _
            rw [hex]
            refine c_cond_p rfl (fun hq => ?_) (fun hq => ?_)
            · have hno : numS ((leftB B at0).take (j - at0)) = none := by
                unfold numS
                rw [hvS, if_neg fun k => hq (by rw [k])]
              refine c_seq (c_region ?_)
              refine oV vA ?_
              refine oV vA ?_
              refine oV vA ?_
              refine o_nil ?_
              refine c_ret3 Tryz.func122 rfl rfl rfl rfl fun w O hS => ?_
              exact ⟨(), by rw [hat, hno]; rfl, trivial, trivial⟩
            · have hyes : numS ((leftB B at0).take (j - at0)) = some (n) := by
                unfold numS
                rw [hvS, if_pos (sB_inj (Classical.not_not.1 hq))]
              have hki : (at0 : Int) + ((j - at0 + 1 : Nat) : Int) = (j : Int) + 1 := by omega
              refine c_skip (c_seq (c_region ?_))
              iterate 2 refine oV vM ?_
              refine oV ((by first | exact v_add64 rfl rfl (by omega) | exact v_add rfl rfl)) ?_
              refine oV vA ?_
              refine oV vA ?_
              refine oV vA ?_
              refine o_nil ?_
              refine c_ret3 Tryz.func122 rfl rfl rfl rfl fun w O hS => ?_
              refine ⟨(), ?_, trivial, trivial⟩
              rw [hat, hyes]
              simp only [Option.map_some, Option.getD_some, Option.isSome_some, hki]
  · have hke : k = B.size := by have := of_decide_eq_false g; omega
    have hno : num9 e (leftB B at0, bad) = none := num9_none (find_nowhere fun j h h1 => hk3 j h h1 (by omega))
    iterate 6 refine oX ?_
    refine oV vQ ?_
    refine o_nil ?_
    refine c_cond_f rfl ?_
    refine c_exit rfl ?_
    refine c_seq (c_seq ?_)
    refine c_env (env' := [(2, _), (4, _), (5, _), (6, _), (7, _)]) (by repeat (first | exact trivial | refine ⟨rfl, ?_⟩)) ?_
    refine c_joinb (d := 48) (decide (True)) ?_ ?_
    rotate_left
    · intro J
      refine c_region ?_
      refine oV (vF 2 Tryz.underlying110 ti4) ?_
      refine oV (vL lone4) ?_
      refine oV vM ?_
      first | refine o_guard_f rfl rfl (fun g29 => ?_) (fun g29 => ?_) | refine o_guard rfl rfl (fun g29 => ?_) (fun g29 => ?_)
      · refine oV vM ?_
        refine oN ?_
        refine oV (vF 0 Tryz.underlying110 ti9) ?_
        refine oN ?_
        refine oV (vL lone9) ?_
        refine oN ?_
        refine oV (v_len_str Tryz.underlying9 rfl) ?_
        refine oN ?_
        refine oV (v_eq rfl rfl) ?_
        refine oV vQ ?_
        refine oV vM ?_
        first | refine o_guard_f rfl rfl (fun g36 => ?_) (fun g36 => ?_) | refine o_guard rfl rfl (fun g36 => ?_) (fun g36 => ?_)
        · refine oV vM ?_
          refine oN ?_
          refine oV (vF 1 Tryz.underlying110 ti3) ?_
          refine oN ?_
          refine oV (vL lone3) ?_
          refine oN ?_
          refine oV (v_eq rfl rfl) ?_
          refine oV vQ ?_
          refine oV vM ?_
          first | refine o_guard_f rfl rfl (fun g42 => ?_) (fun g42 => ?_) | refine o_guard rfl rfl (fun g42 => ?_) (fun g42 => ?_)
          · refine oV vM ?_
            refine oN ?_
            refine oV (vF 1 Tryz.underlying110 ti3) ?_
            refine oN ?_
            refine oV (vL lone3) ?_
            refine oN ?_
            refine oV ((by first | exact v_add64 rfl rfl (by omega) | exact v_add rfl rfl)) ?_
            refine oN ?_
            refine oV (v_gt rfl rfl) ?_
            refine oV vQ ?_
            refine o_nil ?_
            exact cJ J rfl (by first | rfl | (simp_all; done) | (simp_all; omega) | (simp; omega))
          · refine oX ?_
            iterate 4 refine oX ?_
            refine oV vT ?_
            refine o_nil ?_
            exact cJ J rfl (by first | rfl | (simp_all; done) | (simp_all; omega) | (simp; omega))
        · refine oX ?_
          iterate 3 refine oX ?_
          refine oV vT ?_
          refine oV vM ?_
          iterate 5 refine oX ?_
          refine oV vT ?_
          refine o_nil ?_
          exact cJ J rfl (by first | rfl | (simp_all; done) | (simp_all; omega) | (simp; omega))
      · refine oX ?_
        iterate 4 refine oX ?_
        refine oV vT ?_
        refine oV vM ?_
        iterate 4 refine oX ?_
        refine oV vT ?_
        refine oV vM ?_
        iterate 5 refine oX ?_
        refine oV vT ?_
        refine o_nil ?_
        exact cJ J rfl (by first | rfl | (simp_all; done) | (simp_all; omega) | (simp; omega))
    refine c_cond_p rfl (fun hp => ?_) (fun hp => ?_)
    · refine c_seq (c_region ?_)
      refine oV vA ?_
      refine oV vA ?_
      refine oV vA ?_
      refine o_nil ?_
      refine c_ret3 Tryz.func122 rfl rfl rfl rfl fun w O hS => ?_
      exact ⟨(), by rw [hno]; rfl, trivial, trivial⟩
    · exact absurd trivial hp
end Go.Proofs.YtlfehnnmpkohkaaGreatDoor
/- Chapter 09: the document's readers: numbers, flags, texts. -/
namespace Go.Proofs.YtlfehnnmpkohkaaGreatDoor
open Go Go.SL Go.Lib
def inS (B : ByteArray) (s : St9) : Value := inV B (plc B s) s.2
attribute [local irreducible] Cfg Kont StepK Val Con Qops Any Sl Own Blk BlkR Rd Pu ExA AllA Has Pick Ent Elem Beside Callable TI Lone OwnO AndA
set_option maxRecDepth 100000 in
theorem spoilRef_con (B : ByteArray) (s : St9) : Con Tryz.prog 123 [.agg #[.string B, .int .i64 (plc B s), .bool s.2]] [] (γ := Unit) (fun _ => inS B (spoil9 s)) (fun _ => True) (fun _ => []) := by
  refine con_of Tryz.func123 rfl (dd rfl) fun w0 O0 => ?_
  refine c_seq (c_region ?_)
  refine o_step (s_box rfl (dd rfl) (fun b1 => ?_))
  refine o_step (s_alloc ti110 (dd rfl) (fun b2 => ?_))
  refine o_nil (c_seq (c_region ?_))
  refine oV (vF 2 Tryz.underlying110 ti4) ?_
  refine o_step (s_store1 ti4 rfl rfl (by first | exact OneC.lit rfl | exact OneC.sl (hX (by repeat constructor)) ) (pB (by repeat constructor)) (by first | decide | exact Nat.le_of_ble_eq_true rfl | simp) (by first | (dsimp only [List.set_cons_succ, List.set_cons_zero]; first | done | exact rfl) | rfl) (?_))
  refine o_nil (c_seq (c_region ?_))
  refine oV (vW Tryz.underlying110 ti110) ?_
  refine o_step (s_store_all ti110 rfl rfl (by first | exact CellsV.lit rfl | exact CellsV.one (by first | exact OneC.lit rfl | exact OneC.sl (hX (by repeat constructor)) )) (by repeat (first | exact OneAll.nil | (refine OneAll.cons ?_ ?_; · first | exact OneC.lit rfl | exact OneC.sl (hX (by repeat constructor)) ) | exact OneAll.rd (hX (by repeat constructor)))) rfl (pB (by repeat constructor)) rfl (?_))
  refine o_nil ?_
  refine c_ret_cell Tryz.func123 rfl ⟨_, Tryz.underlying110⟩ ti110 rfl (hX (by repeat constructor)) fun w O hS => ?_
  exact ⟨(), rfl, trivial, trivial⟩
theorem upto_s (B : ByteArray) (s : St9) (e : UInt8) (hB : B.size ≤ 4611686018427387904) (h : EndsB B s) : ∃ (n : Int) (x : Nat) (is : Bool),
    Con Tryz.prog 122 [.agg #[.string B, .int .i64 (plc B s), .bool s.2], .int .u8 e.toNat] [] (γ := Unit) (fun _ => .tuple #[.int .i64 n, .int .i64 x, .bool is]) (fun _ => True) (fun _ => [])
    ∧ num9 e s = (if is = false then none else some (n, x - plc B s)) ∧ (is = true → plc B s < x ∧ x ≤ B.size ∧ x - plc B s ≤ s.1.length) ∧ x ≤ B.size ∧ -100000000000000 < n ∧ n < 100000000000000 := by
  have hc := upto_con B (plc B s) s.2 e hB h.at.1
  rw [← h.eta] at hc
  have hl := h.at.2.2
  have hp := h.at.1
  cases hn : num9 e s with
  | none =>
    rw [hn] at hc
    exact ⟨0, 0, false, hc, rfl, fun k => (Bool.noConfusion k), Nat.zero_le _, by decide, by decide⟩
  | some p =>
    obtain ⟨n, m⟩ := p
    rw [hn] at hc
    obtain ⟨h1, h2, h3, h4, _⟩ := num9_bound hn
    exact ⟨n, plc B s + m, true, hc, by rw [if_neg (by decide)]; congr 2; omega, fun _ => ⟨by omega, by omega, by omega⟩, by omega, h3, h4⟩
set_option maxRecDepth 100000 in
theorem takeNumRef_con (B : ByteArray) (s : St9) (hB : B.size ≤ 4611686018427387904) (h : EndsB B s) : Con Tryz.prog 69 [inS B s] [] (γ := Unit)
    (fun _ => .tuple #[inS B (takeNum s).1, .int .i64 (takeNum s).2]) (fun _ => True) (fun _ => []) := by
  obtain ⟨n, x, is, hc, hn, hx, hxB, hb⟩ := upto_s B s 59 hB h
  have hT : takeNum s = if is = false ∨ n < -1099511627776 ∨ 1099511627776 < n then (spoil9 s, 0) else ((s.1.drop (x - plc B s), false), n) := by
    unfold takeNum
    rw [hn]
    cases is with
    | false => rfl
    | true =>
      rw [if_neg (by decide)]
      dsimp only
      unfold far9
      by_cases hq : n < -1099511627776 ∨ 1099511627776 < n
      · rw [if_neg (by omega), if_pos (.inr hq)]
      · rw [if_pos (by omega), if_neg (by rintro (k | k); cases k; exact hq k)]
  have hS := spoilRef_con B s
  unfold inS inV at *
  refine con_of Tryz.func69 rfl (dd rfl) fun w0 O0 => ?_
  refine c_seq (c_region ?_)
  refine o_step (s_box rfl (dd rfl) (fun b1 => ?_))
  refine o_step (s_alloc ti110 (dd rfl) (fun b2 => ?_))
  refine oV vA ?_
  refine o_nil (c_seq (c_region ?_))
  refine oV (vW Tryz.underlying110 ti110) ?_
  refine oC cl122 (hc) fun _ _ => ?_
  refine oV vM ?_
  refine oV vE ?_
  refine oV vE ?_
  refine oV vE ?_
  refine oV vA ?_
  refine oV vA ?_
  refine oV vA ?_
  refine o_nil (c_seq (c_seq ?_))
  refine c_env (env' := [(1, _), (2, _), (3, _), (4, _), (5, _), (6, _)]) (by repeat (first | exact trivial | refine ⟨rfl, ?_⟩)) ?_
  refine c_joinb (d := 22) (decide (is = false ∨ n < -1099511627776 ∨ 1099511627776 < n)) ?_ ?_
  rotate_left
  · intro J
    refine c_region ?_
    refine oV vM ?_
    refine oV (v_not rfl) ?_
    refine oV vM ?_
    first | refine o_guard_f rfl rfl (fun g15 => ?_) (fun g15 => ?_) | refine o_guard rfl rfl (fun g15 => ?_) (fun g15 => ?_)
    · refine oV vM ?_
      refine oN ?_
      refine oV (v_lt rfl rfl) ?_
      refine oV vQ ?_
      refine oV vM ?_
      first | refine o_guard_f rfl rfl (fun g19 => ?_) (fun g19 => ?_) | refine o_guard rfl rfl (fun g19 => ?_) (fun g19 => ?_)
      · refine oV vM ?_
        refine oN ?_
        refine oV (v_gt rfl rfl) ?_
        refine oV vQ ?_
        refine o_nil ?_
        exact cJ J rfl (by first | rfl | (simp_all; done) | (simp_all; omega) | (simp; omega))
      · refine oX ?_
        refine oX ?_
        refine oV vT ?_
        refine o_nil ?_
        exact cJ J rfl (by first | rfl | (simp_all; done) | (simp_all; omega) | (simp; omega))
    · refine oX ?_
      refine oX ?_
      refine oV vT ?_
      refine oV vM ?_
      iterate 2 refine oX ?_
      refine oV vT ?_
      refine o_nil ?_
      exact cJ J rfl (by first | rfl | (simp_all; done) | (simp_all; omega) | (simp; omega))
  refine c_cond_p rfl (fun hq => ?_) (fun hq => ?_)
  · refine c_seq (c_region ?_)
    refine oV (vW Tryz.underlying110 ti110) ?_
    refine oC cl123 (hS) fun _ _ => ?_
    refine o_step (s_store_all ti110 rfl rfl (by first | exact CellsV.lit rfl | exact CellsV.one (by first | exact OneC.lit rfl | exact OneC.sl (hX (by repeat constructor)) )) (by repeat (first | exact OneAll.nil | (refine OneAll.cons ?_ ?_; · first | exact OneC.lit rfl | exact OneC.sl (hX (by repeat constructor)) ) | exact OneAll.rd (hX (by repeat constructor)))) rfl (pB (by repeat constructor)) rfl (?_))
    refine oV vA ?_
    refine o_nil ?_
    refine c_ret_ct Tryz.func69 rfl ⟨_, Tryz.underlying110⟩ ti110 rfl rfl (hX (by repeat constructor)) fun w O hS => ?_
    exact ⟨(), by rw [hT, if_pos hq]; rfl, trivial, trivial⟩
  · have hi : is = true := by cases is; exact absurd (.inl rfl) hq; rfl
    have hd := h.drop (hx hi).2.2 false
    have hxx : plc B s + (x - plc B s) = x := by have := hx hi; omega
    refine c_skip (c_seq (c_region ?_))
    refine oV vM ?_
    refine oV (vF 1 Tryz.underlying110 ti3) ?_
    refine o_step (s_store1 ti3 rfl rfl (by first | exact OneC.lit rfl | exact OneC.sl (hX (by repeat constructor)) ) (pB (by repeat constructor)) (by first | decide | exact Nat.le_of_ble_eq_true rfl | simp) (by first | (dsimp only [List.set_cons_succ, List.set_cons_zero]; first | done | exact rfl) | rfl) (?_))
    refine o_nil (c_seq (c_region ?_))
    refine oV (vW Tryz.underlying110 ti110) ?_
    refine oV vM ?_
    refine o_step (s_store_all ti110 rfl rfl (by first | exact CellsV.lit rfl | exact CellsV.one (by first | exact OneC.lit rfl | exact OneC.sl (hX (by repeat constructor)) )) (by repeat (first | exact OneAll.nil | (refine OneAll.cons ?_ ?_; · first | exact OneC.lit rfl | exact OneC.sl (hX (by repeat constructor)) ) | exact OneAll.rd (hX (by repeat constructor)))) rfl (pB (by repeat constructor)) rfl (?_))
    refine oV vA ?_
    refine o_nil ?_
    refine c_ret_ct Tryz.func69 rfl ⟨_, Tryz.underlying110⟩ ti110 rfl rfl (hX (by repeat constructor)) fun w O hS => ?_
    exact ⟨(), by rw [hT, if_neg hq]; dsimp only; rw [hd.2, hxx]; have hs2 : s.2 = false := (num9_bound (hn.trans (by rw [hi]; exact if_neg (by decide)))).2.2.2.2; rw [hs2]; rfl, trivial, trivial⟩
set_option maxRecDepth 100000 in
theorem takeFlagRef_con (B : ByteArray) (s : St9) (hB : B.size ≤ 4611686018427387904) (h : EndsB B s) : Con Tryz.prog 76 [inS B s] [] (γ := Unit)
    (fun _ => .tuple #[inS B (takeFlag s).1, .bool (takeFlag s).2]) (fun _ => True) (fun _ => []) := by
  obtain ⟨n, x, is, hc, hn, hx, hxB, hb⟩ := upto_s B s 59 hB h
  have hT : takeFlag s = if is = false ∨ n < 0 ∨ 1 < n then (spoil9 s, false) else ((s.1.drop (x - plc B s), false), decide (n = 1)) := by
    unfold takeFlag
    rw [hn]
    cases is with
    | false => rfl
    | true =>
      rw [if_neg (by decide)]
      dsimp only
      by_cases hq : n < 0 ∨ 1 < n
      · rw [if_neg (by omega), if_pos (.inr hq)]
      · rw [if_pos (by omega), if_neg (by rintro (k | k); cases k; exact hq k)]
  have hS := spoilRef_con B s
  unfold inS inV at *
  refine con_of Tryz.func76 rfl (dd rfl) fun w0 O0 => ?_
  refine c_seq (c_region ?_)
  refine o_step (s_box rfl (dd rfl) (fun b1 => ?_))
  refine o_step (s_alloc ti110 (dd rfl) (fun b2 => ?_))
  refine oV vA ?_
  refine o_nil (c_seq (c_region ?_))
  refine oV (vW Tryz.underlying110 ti110) ?_
  refine oC cl122 (hc) fun _ _ => ?_
  refine oV vM ?_
  refine oV vE ?_
  refine oV vE ?_
  refine oV vE ?_
  refine oV vA ?_
  refine oV vA ?_
  refine oV vA ?_
  refine o_nil (c_seq (c_seq ?_))
  refine c_env (env' := [(1, _), (2, _), (3, _), (4, _), (5, _), (6, _)]) (by repeat (first | exact trivial | refine ⟨rfl, ?_⟩)) ?_
  refine c_joinb (d := 22) (decide (is = false ∨ n < 0 ∨ 1 < n)) ?_ ?_
  rotate_left
  · intro J
    refine c_region ?_
    refine oV vM ?_
    refine oV (v_not rfl) ?_
    refine oV vM ?_
    first | refine o_guard_f rfl rfl (fun g15 => ?_) (fun g15 => ?_) | refine o_guard rfl rfl (fun g15 => ?_) (fun g15 => ?_)
    · refine oV vM ?_
      refine oN ?_
      refine oV (v_lt rfl rfl) ?_
      refine oV vQ ?_
      refine oV vM ?_
      first | refine o_guard_f rfl rfl (fun g19 => ?_) (fun g19 => ?_) | refine o_guard rfl rfl (fun g19 => ?_) (fun g19 => ?_)
      · refine oV vM ?_
        refine oN ?_
        refine oV (v_gt rfl rfl) ?_
        refine oV vQ ?_
        refine o_nil ?_
        exact cJ J rfl (by first | rfl | (simp_all; done) | (simp_all; omega) | (simp; omega))
      · refine oX ?_
        refine oX ?_
        refine oV vT ?_
        refine o_nil ?_
        exact cJ J rfl (by first | rfl | (simp_all; done) | (simp_all; omega) | (simp; omega))
    · refine oX ?_
      refine oX ?_
      refine oV vT ?_
      refine oV vM ?_
      iterate 2 refine oX ?_
      refine oV vT ?_
      refine o_nil ?_
      exact cJ J rfl (by first | rfl | (simp_all; done) | (simp_all; omega) | (simp; omega))
  refine c_cond_p rfl (fun hq => ?_) (fun hq => ?_)
  · refine c_seq (c_region ?_)
    refine oV (vW Tryz.underlying110 ti110) ?_
    refine oC cl123 (hS) fun _ _ => ?_
    refine o_step (s_store_all ti110 rfl rfl (by first | exact CellsV.lit rfl | exact CellsV.one (by first | exact OneC.lit rfl | exact OneC.sl (hX (by repeat constructor)) )) (by repeat (first | exact OneAll.nil | (refine OneAll.cons ?_ ?_; · first | exact OneC.lit rfl | exact OneC.sl (hX (by repeat constructor)) ) | exact OneAll.rd (hX (by repeat constructor)))) rfl (pB (by repeat constructor)) rfl (?_))
    refine oV vA ?_
    refine o_nil ?_
    refine c_ret_ct Tryz.func76 rfl ⟨_, Tryz.underlying110⟩ ti110 rfl rfl (hX (by repeat constructor)) fun w O hS => ?_
    exact ⟨(), by rw [hT, if_pos hq]; rfl, trivial, trivial⟩
  · have hi : is = true := by cases is; exact absurd (.inl rfl) hq; rfl
    have hd := h.drop (hx hi).2.2 false
    have hxx : plc B s + (x - plc B s) = x := by have := hx hi; omega
    have hs2 : s.2 = false := (num9_bound (hn.trans (by rw [hi]; exact if_neg (by decide)))).2.2.2.2
    refine c_skip (c_seq (c_region ?_))
    refine oV vM ?_
    refine oV (vF 1 Tryz.underlying110 ti3) ?_
    refine o_step (s_store1 ti3 rfl rfl (by first | exact OneC.lit rfl | exact OneC.sl (hX (by repeat constructor)) ) (pB (by repeat constructor)) (by first | decide | exact Nat.le_of_ble_eq_true rfl | simp) (by first | (dsimp only [List.set_cons_succ, List.set_cons_zero]; first | done | exact rfl) | rfl) (?_))
    refine o_nil (c_seq (c_region ?_))
    refine oV (vW Tryz.underlying110 ti110) ?_
    refine oV vM ?_
    refine oV (v_eq rfl rfl) ?_
    refine o_step (s_store_all ti110 rfl rfl (by first | exact CellsV.lit rfl | exact CellsV.one (by first | exact OneC.lit rfl | exact OneC.sl (hX (by repeat constructor)) )) (by repeat (first | exact OneAll.nil | (refine OneAll.cons ?_ ?_; · first | exact OneC.lit rfl | exact OneC.sl (hX (by repeat constructor)) ) | exact OneAll.rd (hX (by repeat constructor)))) rfl (pB (by repeat constructor)) rfl (?_))
    refine oV vA ?_
    refine o_nil ?_
    refine c_ret_ct Tryz.func76 rfl ⟨_, Tryz.underlying110⟩ ti110 rfl rfl (hX (by repeat constructor)) fun w O hS => ?_
    exact ⟨(), by rw [hT, if_neg hq]; dsimp only; rw [hd.2, hxx, hs2]; rfl, trivial, trivial⟩
set_option maxRecDepth 100000 in
theorem takeTextRef_con (B : ByteArray) (s : St9) (most : Int) (hB : B.size ≤ 4611686018427387904) (h : EndsB B s) : Con Tryz.prog 70 [inS B s, .int .i64 most] [] (γ := Unit)
    (fun _ => .tuple #[inS B (takeText most s).1, .string (takeText most s).2]) (fun _ => True) (fun _ => []) := by
  obtain ⟨n, x, is, hc, hn, hx, hxB, hb⟩ := upto_s B s 58 hB h
  have hl := h.at.2.2
  have hp := h.at.1
  have hT : takeText most s = if is = false ∨ n < 0 ∨ most < n ∨ (B.size : Int) - x < n + 1 ∨ sAt B ((x : Int) + n) ≠ 44 then (spoil9 s, ⟨#[]⟩) else ((s.1.drop (x - plc B s + n.toNat + 1), false), B.extract x (x + n.toNat)) := by
    unfold takeText
    rw [hn]
    cases is with
    | false => rfl
    | true =>
      have hxx := hx rfl
      rw [if_neg (by decide)]
      dsimp only
      by_cases hq : n < 0 ∨ most < n ∨ (B.size : Int) - x < n + 1
      · rw [if_neg (by omega), if_pos (by omega)]
      · have hi : x - plc B s + n.toNat < s.1.length := by omega
        have hg : s.1[x - plc B s + n.toNat]? = some (B.data.toList[x + n.toNat]'(by rw [ba_len]; omega)) := by
          rw [h.at.2.1, leftB_get (by rw [ba_len]; omega)]
          congr 2; omega
        have hs := sAt_get (B := B) (k := x + n.toNat) (by rw [ba_len]; omega)
        rw [show (x : Int) + n = ((x + n.toNat : Nat) : Int) by omega, hs, hg]
        have he : (B.data.toList[x + n.toNat]'(by rw [ba_len]; omega) = 44) ↔ ((B.data.toList[x + n.toNat]'(by rw [ba_len]; omega)).toNat : Int) = 44 := ⟨fun k => by rw [k]; rfl, fun k => UInt8.toNat_inj.1 (Int.ofNat.inj k)⟩
        by_cases hq2 : B.data.toList[x + n.toNat]'(by rw [ba_len]; omega) = 44
        · rw [if_pos ⟨by omega, by omega, by omega, congrArg some hq2⟩, if_neg (by have := he.1 hq2; rintro (k | k | k | k | k) <;> first | cases k; done | omega)]
          congr 1
          rw [extract_left, h.at.2.1]
          unfold leftB sB
          rw [List.drop_drop, show plc B s + (x - plc B s) = x by omega, show x + n.toNat - x = n.toNat by omega]
        · rw [if_neg (fun k => hq2 (Option.some.inj k.2.2.2)), if_pos (by have := mt he.2 hq2; omega)]
  have hS := spoilRef_con B s
  unfold inS inV at *
  refine con_of Tryz.func70 rfl (dd rfl) fun w0 O0 => ?_
  refine c_seq (c_region ?_)
  refine o_step (s_box rfl (dd rfl) (fun b2 => ?_))
  refine o_step (s_alloc ti110 (dd rfl) (fun b4 => ?_))
  refine oV vA ?_
  refine o_nil (c_seq (c_region ?_))
  refine oV (vW Tryz.underlying110 ti110) ?_
  refine oC cl122 (hc) fun _ _ => ?_
  refine oV vM ?_
  refine oV vE ?_
  refine oV vE ?_
  refine oV vE ?_
  refine oV vA ?_
  refine oV vA ?_
  refine oV vA ?_
  refine o_nil (c_seq (c_seq ?_))
  refine c_env (env' := [(1, _), (2, _), (4, _), (5, _), (6, _), (7, _), (8, _)]) (by repeat (first | exact trivial | refine ⟨rfl, ?_⟩)) ?_
  refine c_joinb (d := 44) (decide (is = false ∨ n < 0 ∨ most < n ∨ (B.size : Int) - x < n + 1 ∨ sAt B ((x : Int) + n) ≠ 44)) ?_ ?_
  rotate_left
  · intro J
    refine c_region ?_
    refine oV vM ?_
    refine oV (v_not rfl) ?_
    refine oV vM ?_
    first | refine o_guard_f rfl rfl (fun g17 => ?_) (fun g17 => ?_) | refine o_guard rfl rfl (fun g17 => ?_) (fun g17 => ?_)
    · refine oV vM ?_
      refine oN ?_
      refine oV (v_lt rfl rfl) ?_
      refine oV vQ ?_
      refine oV vM ?_
      first | refine o_guard_f rfl rfl (fun g21 => ?_) (fun g21 => ?_) | refine o_guard rfl rfl (fun g21 => ?_) (fun g21 => ?_)
      · refine oV vM ?_
        refine oN ?_
        refine oV vM ?_
        refine oN ?_
        refine oV (v_gt rfl rfl) ?_
        refine oV vQ ?_
        refine oV vM ?_
        first | refine o_guard_f rfl rfl (fun g26 => ?_) (fun g26 => ?_) | refine o_guard rfl rfl (fun g26 => ?_) (fun g26 => ?_)
        · refine oV vM ?_
          refine oN ?_
          refine oV ((by first | exact v_add64 rfl rfl (by omega) | exact v_add rfl rfl)) ?_
          refine oN ?_
          refine oV (vF 0 Tryz.underlying110 ti9) ?_
          refine oN ?_
          refine oV (vL lone9) ?_
          refine oN ?_
          refine oV (v_len_str Tryz.underlying9 rfl) ?_
          refine oN ?_
          refine oV vM ?_
          refine oN ?_
          refine oV ((by first | exact v_sub64 rfl rfl (by omega) | exact v_sub rfl rfl)) ?_
          refine oN ?_
          refine oV (v_gt rfl rfl) ?_
          refine oV vQ ?_
          refine oV vM ?_
          first | refine o_guard_f rfl rfl (fun g36 => ?_) (fun g36 => ?_) | refine o_guard rfl rfl (fun g36 => ?_) (fun g36 => ?_)
          · refine oV (vF 0 Tryz.underlying110 ti9) ?_
            refine oN ?_
            refine oV (vL lone9) ?_
            refine oN ?_
            refine oV vM ?_
            refine oN ?_
            refine oV vM ?_
            refine oN ?_
            refine oV ((by first | exact v_add64 rfl rfl (by omega) | exact v_add rfl rfl)) ?_
            refine oN ?_
            refine oV (v_index_str Tryz.underlying9 rfl rfl (by omega)) ?_
            refine oN ?_
            refine oV (v_ne rfl rfl) ?_
            refine oV vQ ?_
            refine o_nil ?_
            exact cJ J rfl (by first | rfl | (simp_all; done) | (simp_all; omega) | exact decide_eq_decide.2 ⟨fun h => .inr (.inr (.inr (.inr h))), by rintro (h | h | h | h | h) <;> first | exact h | omega | simp_all⟩)
          · refine oX ?_
            iterate 6 refine oX ?_
            refine oV vT ?_
            refine o_nil ?_
            exact cJ J rfl (by first | rfl | (simp_all; done) | (simp_all; omega) | exact decide_eq_decide.2 ⟨fun h => .inr (.inr (.inr (.inr h))), by rintro (h | h | h | h | h) <;> first | exact h | omega | simp_all⟩)
        · refine oX ?_
          iterate 7 refine oX ?_
          refine oV vT ?_
          refine oV vM ?_
          iterate 7 refine oX ?_
          refine oV vT ?_
          refine o_nil ?_
          exact cJ J rfl (by first | rfl | (simp_all; done) | (simp_all; omega) | exact decide_eq_decide.2 ⟨fun h => .inr (.inr (.inr (.inr h))), by rintro (h | h | h | h | h) <;> first | exact h | omega | simp_all⟩)
      · refine oX ?_
        iterate 2 refine oX ?_
        refine oV vT ?_
        refine oV vM ?_
        iterate 8 refine oX ?_
        refine oV vT ?_
        refine oV vM ?_
        iterate 7 refine oX ?_
        refine oV vT ?_
        refine o_nil ?_
        exact cJ J rfl (by first | rfl | (simp_all; done) | (simp_all; omega) | exact decide_eq_decide.2 ⟨fun h => .inr (.inr (.inr (.inr h))), by rintro (h | h | h | h | h) <;> first | exact h | omega | simp_all⟩)
    · refine oX ?_
      refine oX ?_
      refine oV vT ?_
      refine oV vM ?_
      iterate 3 refine oX ?_
      refine oV vT ?_
      refine oV vM ?_
      iterate 8 refine oX ?_
      refine oV vT ?_
      refine oV vM ?_
      iterate 7 refine oX ?_
      refine oV vT ?_
      refine o_nil ?_
      exact cJ J rfl (by first | rfl | (simp_all; done) | (simp_all; omega) | exact decide_eq_decide.2 ⟨fun h => .inr (.inr (.inr (.inr h))), by rintro (h | h | h | h | h) <;> first | exact h | omega | simp_all⟩)
  refine c_cond_p rfl (fun hq => ?_) (fun hq => ?_)
  · refine c_seq (c_region ?_)
    refine oV (vW Tryz.underlying110 ti110) ?_
    refine oC cl123 (hS) fun _ _ => ?_
    refine o_step (s_store_all ti110 rfl rfl (by first | exact CellsV.lit rfl | exact CellsV.one (by first | exact OneC.lit rfl | exact OneC.sl (hX (by repeat constructor)) )) (by repeat (first | exact OneAll.nil | (refine OneAll.cons ?_ ?_; · first | exact OneC.lit rfl | exact OneC.sl (hX (by repeat constructor)) ) | exact OneAll.rd (hX (by repeat constructor)))) rfl (pB (by repeat constructor)) rfl (?_))
    refine oV vA ?_
    refine o_nil ?_
    refine c_ret_ct Tryz.func70 rfl ⟨_, Tryz.underlying110⟩ ti110 rfl rfl (hX (by repeat constructor)) fun w O hS => ?_
    exact ⟨(), by rw [hT, if_pos hq]; rfl, trivial, trivial⟩
  · have hi : is = true := by cases is; exact absurd (.inl rfl) hq; rfl
    have hxi := hx hi
    have hd := h.drop (m := x - plc B s + n.toNat + 1) (by omega) false
    have hxx : plc B s + (x - plc B s + n.toNat + 1) = x + n.toNat + 1 := by omega
    have hs2 : s.2 = false := (num9_bound (hn.trans (by rw [hi]; exact if_neg (by decide)))).2.2.2.2
    refine c_skip (c_seq (c_region ?_))
    iterate 2 refine oV vM ?_
    refine oV ((by first | exact v_add64 rfl rfl (by omega) | exact v_add rfl rfl)) ?_
    refine oV ((by first | exact v_add64 rfl rfl (by omega) | exact v_add rfl rfl)) ?_
    refine oV (vF 1 Tryz.underlying110 ti3) ?_
    refine o_step (s_store1 ti3 rfl rfl (by first | exact OneC.lit rfl | exact OneC.sl (hX (by repeat constructor)) ) (pB (by repeat constructor)) (by first | decide | exact Nat.le_of_ble_eq_true rfl | simp) (by first | (dsimp only [List.set_cons_succ, List.set_cons_zero]; first | done | exact rfl) | rfl) (?_))
    refine o_nil (c_seq ?_)
    refine c_held [BlkR b2 110 [.string B, .int .i64 (x + n + 1), .bool s.2]] rfl ?_
    refine aT 0 rfl (vW Tryz.underlying110 ti110) ?_
    refine aT 1 rfl (vF 0 Tryz.underlying110 ti9) ?_
    refine aT 2 rfl (vL lone9) ?_
    refine aT 3 rfl vM ?_
    refine aT 4 rfl vM ?_
    refine aT 5 rfl vM ?_
    refine aT 6 rfl ((by first | exact v_add64 rfl rfl (by omega) | exact v_add rfl rfl)) ?_
    refine aT 7 rfl (v_cut Tryz.underlying9 rfl rfl rfl (by omega)) ?_
    refine aS 8 rfl ti110 ?_
    refine aT 9 rfl vA ?_
    refine a_done (by kernel_rfl) ?_ _
    refine c_ret_ct Tryz.func70 rfl ⟨_, Tryz.underlying110⟩ ti110 rfl rfl (hX (by repeat constructor)) fun w O hS => ?_
    refine ⟨(), ?_, trivial, trivial⟩
    rw [hT, if_neg hq]
    dsimp only
    rw [hd.2, hxx, hs2, show ((x + n.toNat + 1 : Nat) : Int) = x + n + 1 by omega, show B.extract x (x + n.toNat) = B.extract (x : Int).toNat ((x : Int) + n).toNat by congr 1; omega]
    rfl
end Go.Proofs.YtlfehnnmpkohkaaGreatDoor
/- Chapter 09: the document's readers: rows of texts. -/
namespace Go.Proofs.YtlfehnnmpkohkaaGreatDoor
open Go Go.SL Go.Lib
theorem takeMany_step {α : Type} (take : St9 → St9 × α) {n k : Nat} {s : St9} {out : List α} (hk : k < n) (hb : s.2 = false) : takeMany take (n - k) s out = takeMany take (n - (k + 1)) (take s).1 (out ++ [(take s).2]) := by
  obtain ⟨m, rfl⟩ : ∃ m, n = k + 1 + m := ⟨n - (k + 1), by omega⟩
  rw [show k + 1 + m - k = m + 1 by omega, show k + 1 + m - (k + 1) = m by omega, takeMany, if_neg (by rw [hb]; decide)]
theorem takeMany_end {α : Type} (take : St9 → St9 × α) {n k : Nat} {s : St9} {out : List α} (hk : n ≤ k) : takeMany take (n - k) s out = (s, out) := by
  rw [show n - k = 0 by omega]; rfl
theorem num_far {s : St9} : -far9 ≤ (takeNum s).2 ∧ (takeNum s).2 ≤ far9 := by
  unfold takeNum
  split
  · split
    · assumption
    · exact ⟨show -far9 ≤ 0 by decide, show 0 ≤ far9 by decide⟩
  · exact ⟨show -far9 ≤ 0 by decide, show 0 ≤ far9 by decide⟩
attribute [local irreducible] Cfg Kont StepK Val Con Qops Any Sl Own Blk BlkR Rd Pu ExA AllA Has Pick Ent Elem Beside Callable TI Lone OwnO AndA
set_option maxRecDepth 100000 in
theorem takeTextsRef_con (B : ByteArray) (s : St9) (most each : Int) (hB : B.size ≤ 4611686018427387904) (h : EndsB B s) : Con Tryz.prog 72 [inS B s, .int .i64 most, .int .i64 each] [] (γ := Value)
    (fun g => .tuple #[inS B (takeTexts most each s).1, g]) (fun _ => True) (fun g => [Sl eStr g (takeTexts most each s).2]) := by
  have hgn := h.goes goes_num
  have hfar := num_far (s := s)
  have hN := takeNumRef_con B s hB h
  have hS := spoilRef_con B s
  obtain ⟨n, hn⟩ : ∃ n, n = (takeNum s).2 := ⟨_, rfl⟩
  obtain ⟨s1, hs1⟩ : ∃ s1, s1 = (takeNum s).1 := ⟨_, rfl⟩
  rw [← hn, ← hs1] at hN
  rw [← hn] at hfar
  rw [← hs1] at hgn
  unfold far9 at hfar
  unfold takeTexts takeSome
  rw [← hn, ← hs1]
  unfold inS inV at *
  refine con_of Tryz.func72 rfl (dd rfl) fun w0 O0 => ?_
  refine c_seq (c_region ?_)
  refine o_step (s_box rfl (dd rfl) (fun b3 => ?_))
  refine o_step (s_alloc ti110 (dd rfl) (fun b6 => ?_))
  refine oV vA ?_
  refine o_nil (c_seq (c_region ?_))
  refine oV (vW Tryz.underlying110 ti110) ?_
  refine oC cl69 (hN) fun _ _ => ?_
  refine oV vM ?_
  refine oV vE ?_
  refine oV vE ?_
  refine o_step (s_alloc ti110 (dd rfl) (fun b8 => ?_))
  refine o_step (s_store_all ti110 rfl rfl (by first | exact CellsV.lit rfl | exact CellsV.one (by first | exact OneC.lit rfl | exact OneC.sl (hX (by repeat constructor)) )) (by repeat (first | exact OneAll.nil | (refine OneAll.cons ?_ ?_; · first | exact OneC.lit rfl | exact OneC.sl (hX (by repeat constructor)) ) | exact OneAll.rd (hX (by repeat constructor)))) rfl (pB (by repeat constructor)) rfl (?_))
  refine oV vA ?_
  refine o_nil (c_seq (c_seq ?_))
  refine c_env (env' := [(1, _), (2, _), (3, _), (6, _), (7, _), (8, _), (9, _)]) (by repeat (first | exact trivial | refine ⟨rfl, ?_⟩)) ?_
  refine c_joinb (d := 29) (decide (s1.2 = true ∨ n < 0 ∨ most < n)) ?_ ?_
  rotate_left
  · intro J
    refine c_region ?_
    refine oV (vF 2 Tryz.underlying110 ti4) ?_
    refine oV (vL lone4) ?_
    refine oV vM ?_
    first | refine o_guard_f rfl rfl (fun g21 => ?_) (fun g21 => ?_) | refine o_guard rfl rfl (fun g21 => ?_) (fun g21 => ?_)
    · refine oV vM ?_
      refine oN ?_
      refine oV (v_lt rfl rfl) ?_
      refine oV vQ ?_
      refine oV vM ?_
      first | refine o_guard_f rfl rfl (fun g25 => ?_) (fun g25 => ?_) | refine o_guard rfl rfl (fun g25 => ?_) (fun g25 => ?_)
      · refine oV vM ?_
        refine oN ?_
        refine oV vM ?_
        refine oN ?_
        refine oV (v_gt rfl rfl) ?_
        refine oV vQ ?_
        refine o_nil ?_
        exact cJ J rfl (by first | rfl | (simp_all; done) | (simp_all; omega) | (simp; omega))
      · refine oX ?_
        iterate 2 refine oX ?_
        refine oV vT ?_
        refine o_nil ?_
        exact cJ J rfl (by first | rfl | (simp_all; done) | (simp_all; omega) | (simp; omega))
    · refine oX ?_
      refine oX ?_
      refine oV vT ?_
      refine oV vM ?_
      iterate 3 refine oX ?_
      refine oV vT ?_
      refine o_nil ?_
      exact cJ J rfl (by first | rfl | (simp_all; done) | (simp_all; omega) | (simp; omega))
  refine c_cond_p rfl (fun hq => ?_) (fun hq => ?_)
  · rw [if_pos hq]
    refine c_seq (c_region ?_)
    refine oV (vW Tryz.underlying110 ti110) ?_
    refine oC cl123 (hS) fun _ _ => ?_
    refine o_step (s_store_all ti110 rfl rfl (by first | exact CellsV.lit rfl | exact CellsV.one (by first | exact OneC.lit rfl | exact OneC.sl (hX (by repeat constructor)) )) (by repeat (first | exact OneAll.nil | (refine OneAll.cons ?_ ?_; · first | exact OneC.lit rfl | exact OneC.sl (hX (by repeat constructor)) ) | exact OneAll.rd (hX (by repeat constructor)))) rfl (pB (by repeat constructor)) rfl (?_))
    refine oV vA ?_
    refine o_nil ?_
    refine c_ret_ct Tryz.func72 rfl ⟨_, Tryz.underlying110⟩ ti110 rfl rfl (hX (by repeat constructor)) fun w O hS => ?_
    exact ⟨.slice none 0 0, rfl, trivial, Ent.get hS (eX (by repeat constructor))⟩
  · rw [if_neg hq]
    have hb1 : s1.2 = false := by cases e : s1.2 with | false => rfl | true => exact absurd (.inl e) hq
    refine c_skip (c_seq (c_region ?_))
    refine oV vA ?_
    refine o_nil (c_seq (c_seq (c_region ?_)))
    refine oV vA ?_
    refine o_nil (c_block ?_)
    refine c_loopR (γ := Nat × St9 × List ByteArray × Value) [(2, _), (3, _), (6, _), (7, _), (8, _), (9, _)] (fun g => n.toNat - g.1) (fun g => g.1 ≤ n.toNat ∧ g.2.1.2 = false ∧ EndsB B g.2.1 ∧ g.2.2.1.length = g.1 ∧ takeMany (takeText each) (n.toNat - g.1) g.2.1 g.2.2.1 = takeMany (takeText each) n.toNat s1 []) (fun g => [(11, .int .i64 g.1), (10, g.2.2.2)]) (fun g => [Blk b3 110 [.string B, .int .i64 (plc B s), .bool s.2], Blk b6 110 [.string ⟨#[]⟩, .int .i64 0, .bool false], Blk b8 110 [.string B, .int .i64 (plc B g.2.1), .bool g.2.1.2], Own eStr 9 g.2.2.2 g.2.2.1]) ((0, s1, [], .slice none 0 0)) (⟨Nat.zero_le _, hb1, hgn, rfl, rfl⟩) (by repeat (first | exact trivial | refine ⟨rfl, ?_⟩)) (eX (by repeat constructor)) ?_
    rintro ⟨k, sk, out, v⟩ ⟨hk, hbk, hEk, hlk, hTk⟩ IH
    dsimp only at hk hbk hEk hlk hTk ⊢
    have hTT := takeTextRef_con B sk each hB hEk
    unfold inS inV at hTT
    try dsimp only [List.cons_append, List.nil_append]
    refine c_seq (c_seq (c_region ?_))
    iterate 2 refine oV vM ?_
    refine oV (v_lt rfl rfl) ?_
    refine o_nil ?_
    refine c_cond_p rfl (fun hlt => ?_) (fun hlt => ?_)
    · have hkn : k < n.toNat := by omega
      have hst := takeMany_step (takeText each) (out := out) hkn hbk
      refine c_skip (c_seq (c_block (c_seq (c_region ?_))))
      refine oV (vW Tryz.underlying110 ti110) ?_
      refine oV vM ?_
      refine oC cl70 (hTT) fun _ _ => ?_
      refine oV vM ?_
      refine oV vE ?_
      refine oV vE ?_
      refine o_step (s_alloc ti110 (dd rfl) (fun b12 => ?_))
      refine o_step (s_store_all ti110 rfl rfl (by first | exact CellsV.lit rfl | exact CellsV.one (by first | exact OneC.lit rfl | exact OneC.sl (hX (by repeat constructor)) )) (by repeat (first | exact OneAll.nil | (refine OneAll.cons ?_ ?_; · first | exact OneC.lit rfl | exact OneC.sl (hX (by repeat constructor)) ) | exact OneAll.rd (hX (by repeat constructor)))) rfl (pB (by repeat constructor)) rfl (?_))
      refine oV vA ?_
      refine o_nil (c_seq (c_seq (c_region ?_)))
      refine oV (vF 2 Tryz.underlying110 ti4) ?_
      refine oV (vL lone4) ?_
      refine o_nil ?_
      refine c_cond rfl (fun hb => ?_) (fun hb => ?_)
      · have hbad := takeMany_bad (takeText each) (n.toNat - (k + 1)) (takeText each sk).1 (out ++ [(takeText each sk).2]) hb
        refine c_seq (c_region ?_)
        refine oV (vW Tryz.underlying110 ti110) ?_
        refine oC cl123 (hS) fun _ _ => ?_
        refine o_step (s_store_all ti110 rfl rfl (by first | exact CellsV.lit rfl | exact CellsV.one (by first | exact OneC.lit rfl | exact OneC.sl (hX (by repeat constructor)) )) (by repeat (first | exact OneAll.nil | (refine OneAll.cons ?_ ?_; · first | exact OneC.lit rfl | exact OneC.sl (hX (by repeat constructor)) ) | exact OneAll.rd (hX (by repeat constructor)))) rfl (pB (by repeat constructor)) rfl (?_))
        refine oV vA ?_
        refine o_nil ?_
        refine c_ret_ct Tryz.func72 rfl ⟨_, Tryz.underlying110⟩ ti110 rfl rfl (hX (by repeat constructor)) fun w O hS => ?_
        exact ⟨.slice none 0 0, by rw [← hTk, hst, hbad, if_pos hb]; rfl, trivial, by rw [← hTk, hst, hbad, if_pos hb]; exact Ent.get hS (eX (by repeat constructor))⟩
      · refine c_skip (c_seq (c_region ?_))
        refine oV (vW Tryz.underlying110 ti110) ?_
        refine o_step (s_store_all ti110 rfl rfl (by first | exact CellsV.lit rfl | exact CellsV.one (by first | exact OneC.lit rfl | exact OneC.sl (hX (by repeat constructor)) )) (by repeat (first | exact OneAll.nil | (refine OneAll.cons ?_ ?_; · first | exact OneC.lit rfl | exact OneC.sl (hX (by repeat constructor)) ) | exact OneAll.rd (hX (by repeat constructor)))) rfl (pB (by repeat constructor)) rfl (?_))
        refine o_nil (c_region ?_)
        iterate 2 refine oV vM ?_
        refine o_step (s_buildSlice Tryz.underlying23 ti9 rfl rfl rfl (by decide) (by decide) (beside_str [(takeText each sk).2]) rfl rfl (dd rfl) fun v1 => ?_)
        refine o_step (s_append Tryz.underlying23 ti9 rfl (by decide) rfl rfl (dd rfl) (pB (by repeat constructor)) (pX (by repeat constructor)) rfl (by (first | omega | (simp only [maxLen, List.length_append, List.length_drop, List.length_take, List.length_nil, List.length_cons]; omega))) (by (first | omega | (simp only [maxLen, List.length_append, List.length_drop, List.length_take, List.length_nil, List.length_cons]; omega))) fun v2 => ?_)
        refine oV vA ?_
        refine o_nil (c_inBlock (c_region ?_))
        refine oV vM ?_
        refine oV ((by first | exact v_add64 rfl rfl (by omega) | exact v_add rfl rfl)) ?_
        refine oV vA ?_
        refine o_nil ?_
        refine cU (IH ((k + 1, (takeText each sk).1, out ++ [(takeText each sk).2], v2)) (by first | omega | (dsimp only; omega)) (⟨by dsimp only; omega, hb, hEk.goes (goes_text each), by simp [hlk], hst.symm.trans hTk⟩))
    · have hend := takeMany_end (takeText each) (n := n.toNat) (k := k) (s := sk) (out := out) (by omega)
      refine c_exit rfl ?_
      refine c_seq (c_region ?_)
      refine oV (vW Tryz.underlying110 ti110) ?_
      refine oV vM ?_
      refine o_step (s_store_all ti110 rfl rfl (by first | exact CellsV.lit rfl | exact CellsV.one (by first | exact OneC.lit rfl | exact OneC.sl (hX (by repeat constructor)) )) (by repeat (first | exact OneAll.nil | (refine OneAll.cons ?_ ?_; · first | exact OneC.lit rfl | exact OneC.sl (hX (by repeat constructor)) ) | exact OneAll.rd (hX (by repeat constructor)))) rfl (pB (by repeat constructor)) rfl (?_))
      refine oV vA ?_
      refine o_nil ?_
      refine c_ret_ct Tryz.func72 rfl ⟨_, Tryz.underlying110⟩ ti110 rfl rfl (hX (by repeat constructor)) fun w O hS => ?_
      exact ⟨v, by rw [← hTk, hend, if_neg (by rw [hbk]; decide)]; rfl, trivial, by rw [← hTk, hend, if_neg (by rw [hbk]; decide)]; exact Ent.get hS (eX (by repeat constructor))⟩
end Go.Proofs.YtlfehnnmpkohkaaGreatDoor
/- Chapter 09: the program's reader: texts. -/
namespace Go.Proofs.YtlfehnnmpkohkaaGreatDoor
open Go Go.SL Go.Lib
/-- What 'some' reads ahead of 'whole'. -/
def somR {α : Type} (take : St9 → St9 × α) (most : Int) (s : St9) : St9 × List α := takeMany take (takeNum s).2.toNat (if (takeNum s).2 < 0 ∨ most < (takeNum s).2 then spoil9 (takeNum s).1 else (takeNum s).1) []
theorem some_as {α : Type} (take : St9 → St9 × α) (most : Int) (s : St9) : takeSome take most s = if (somR take most s).1.2 = true then (spoil9 s, []) else somR take most s := by
  unfold takeSome somR
  by_cases h : (takeNum s).2 < 0 ∨ most < (takeNum s).2
  · rw [if_pos (.inr h), if_pos h, takeMany_bad take _ _ _ rfl]; exact (if_pos rfl).symm
  · rw [if_neg h]
    by_cases hb : (takeNum s).1.2 = true
    · rw [if_pos (.inl hb), takeMany_bad take _ _ _ hb, if_pos hb]
    · rw [if_neg (by rintro (q | q); exact hb q; exact h q)]
attribute [local irreducible] Cfg Kont StepK Val Con Qops Any Sl Own Blk BlkR Rd Pu ExA AllA Has Pick Ent Elem Beside Callable TI Lone OwnO AndA
set_option maxRecDepth 100000 in
theorem inEach_con (i bi be : Nat) (bv : Value) (s : St9) (each : Int) (te : TypeId) (pe : Value) : Con Tryz.prog 119 [ptr bi, ptr be] [BlkR bi 103 [ptr i], BlkR be 3 [.int .i64 each], Blk i 141 [bv, .bool s.2], Sl eByte bv s.1, G1 te pe, G3] (γ := Value) (fun _ => .string (takeText each s).2) (fun _ => True) (fun g => [Blk i 141 [g, .bool (takeText each s).1.2], Sl eByte g (takeText each s).1.1]) := by
  have h := inText_con i bv s each te pe
  refine con_of Tryz.func119 rfl (dd rfl) fun w0 O0 => ?_
  refine c_seq (c_region ?_)
  refine oV vA ?_
  refine o_nil (c_seq (c_region ?_))
  refine oV (vL lone103) ?_
  refine oV (vL lone3) ?_
  refine oC cl64 (h) fun g _ => ?_
  refine oV vA ?_
  refine o_nil ?_
  refine c_ret1 Tryz.func119 rfl rfl fun w O hS => ?_
  exact ⟨g, rfl, trivial, Ent.get hS (eX (by repeat constructor))⟩
set_option maxRecDepth 100000 in
theorem someS1_con (i b3 b4 b5 b7 : Nat) (bv : Value) (s : St9) (most : Int) (bi be : Nat) (each : Int) (te : TypeId) (pe : Value) : Con Tryz.prog 140 [ptr b3, ptr b4, ptr b7, ptr b5] [BlkR b3 103 [ptr i], BlkR b4 3 [.int .i64 most], Blk b7 23 [.slice none 0 0], BlkR b5 147 [.func (.func 119) #[] #[ptr bi, ptr be]], Blk i 141 [bv, .bool s.2], Sl eByte bv s.1, G1 te pe, G3, BlkR bi 103 [ptr i], BlkR be 3 [.int .i64 each]] (γ := Value × Value) (fun g => g.2) (fun _ => True) (fun g => [Blk i 141 [g.1, .bool (somR (takeText each) most s).1.2], Sl eByte g.1 (somR (takeText each) most s).1.1, Own eStr 9 g.2 (somR (takeText each) most s).2]) := by
  have hfar := num_far (s := s)
  have hN := inNum_con i bv s te pe
  unfold somR
  obtain ⟨s1, n, hn⟩ : ∃ s1 n, takeNum s = (s1, n) := ⟨_, _, rfl⟩
  rw [hn] at hN hfar ⊢
  dsimp only at hN hfar ⊢
  unfold far9 at hfar
  refine con_of Tryz.func140 rfl (dd rfl) fun w0 O0 => ?_
  refine c_seq (c_region ?_)
  refine oV vA ?_
  refine o_nil (c_seq (c_region ?_))
  refine oV (vL lone103) ?_
  refine oC cl63 (hN) fun v1 _ => ?_
  refine oV vA ?_
  refine o_nil (c_seq (c_seq ?_))
  refine c_env (env' := [(0, _), (1, _), (2, _), (3, _), (4, _), (5, _)]) (by repeat (first | exact trivial | refine ⟨rfl, ?_⟩)) ?_
  refine c_joinb (d := 15) (decide (n < 0 ∨ most < n)) ?_ ?_
  rotate_left
  · intro J
    refine c_region ?_
    refine oV vM ?_
    refine oV (v_lt rfl rfl) ?_
    refine oV vM ?_
    first | refine o_guard_f rfl rfl (fun g11 => ?_) (fun g11 => ?_) | refine o_guard rfl rfl (fun g11 => ?_) (fun g11 => ?_)
    · refine oV vM ?_
      refine oN ?_
      refine oV (vL lone3) ?_
      refine oN ?_
      refine oV (v_gt rfl rfl) ?_
      refine oV vQ ?_
      refine o_nil ?_
      exact cJ J rfl (by first | rfl | (simp_all; done) | (simp_all; omega) | (simp; omega))
    · refine oX ?_
      iterate 2 refine oX ?_
      refine oV vT ?_
      refine o_nil ?_
      exact cJ J rfl (by first | rfl | (simp_all; done) | (simp_all; omega) | (simp; omega))
  obtain ⟨s2, hs2⟩ : ∃ s2, s2 = (if n < 0 ∨ most < n then spoil9 s1 else s1) := ⟨_, rfl⟩
  rw [← hs2]
  refine c_joinR (γ := Unit) [(0, _), (2, _), (3, _), (4, _), (5, _)] (fun _ => True) (fun _ => []) (fun _ => [BlkR b3 103 [ptr i], BlkR b4 3 [.int .i64 most], Blk b7 23 [.slice none 0 0], BlkR b5 147 [.func (.func 119) #[] #[ptr bi, ptr be]], Blk i 141 [v1, .bool s2.2], Sl eByte v1 s2.1, G1 te pe, G3, BlkR bi 103 [ptr i], BlkR be 3 [.int .i64 each]]) (by repeat (first | exact trivial | refine ⟨rfl, ?_⟩)) ?_ ?_
  rotate_left
  · intro MEET
    skip
    refine c_cond_p rfl (fun hq => ?_) (fun hq => ?_)
    · have e2 : s2 = (s1.1, true) := by rw [hs2, if_pos hq]; rfl
      subst e2
      refine c_region ?_
      refine oV (vL lone103) ?_
      refine oV (v_nilCheck rfl) ?_
      refine oV (vF 1 Tryz.underlying141 ti4) ?_
      refine o_step (s_store1 ti4 rfl rfl (by first | exact OneC.lit rfl | exact OneC.sl (hX (by repeat constructor)) ) (pB (by repeat constructor)) (by first | decide | exact Nat.le_of_ble_eq_true rfl | simp) (by first | (dsimp only [List.set_cons_succ, List.set_cons_zero]; first | done | exact rfl) | rfl) (?_))
      refine o_nil ?_
      refine cU (MEET (()) (trivial))
    · have e2 : s2 = s1 := by rw [hs2, if_neg hq]
      subst e2
      refine c_skip ?_
      refine cU (MEET (()) (trivial))
  rintro ⟨⟩ -
  dsimp only [List.cons_append, List.nil_append]
  refine c_seq (c_seq (c_region ?_))
  refine oV vA ?_
  refine o_nil (c_block ?_)
  refine c_loopR (γ := Nat × St9 × List ByteArray × Value × Value) [(0, _), (2, _), (3, _), (4, _), (5, _)] (fun g => n.toNat - g.1) (fun g => g.1 ≤ n.toNat ∧ g.2.2.1.length ≤ g.1 ∧ takeMany (takeText each) (n.toNat - g.1) g.2.1 g.2.2.1 = takeMany (takeText each) n.toNat s2 []) (fun g => [(6, .int .i64 g.1)]) (fun g => [BlkR b3 103 [ptr i], BlkR b5 147 [.func (.func 119) #[] #[ptr bi, ptr be]], Blk b7 23 [g.2.2.2.2], Own eStr 9 g.2.2.2.2 g.2.2.1, Blk i 141 [g.2.2.2.1, .bool g.2.1.2], Sl eByte g.2.2.2.1 g.2.1.1, G1 te pe, G3, BlkR bi 103 [ptr i], BlkR be 3 [.int .i64 each]]) ((0, s2, [], v1, .slice none 0 0)) (⟨Nat.zero_le _, Nat.le_refl _, rfl⟩) (by repeat (first | exact trivial | refine ⟨rfl, ?_⟩)) (eX (by repeat constructor)) ?_
  rintro ⟨k, sk, out, r, v⟩ ⟨hk, hlk, hTk⟩ IH
  dsimp only at hk hlk hTk ⊢
  try dsimp only [List.cons_append, List.nil_append]
  refine c_seq (c_seq ?_)
  refine c_env (env' := [(0, _), (2, _), (3, _), (4, _), (5, _), (6, _)]) (by repeat (first | exact trivial | refine ⟨rfl, ?_⟩)) ?_
  refine c_joinb (d := 28) (decide ((k : Int) < n ∧ sk.2 = false)) ?_ ?_
  rotate_left
  · intro J
    refine c_region ?_
    iterate 2 refine oV vM ?_
    refine oV (v_lt rfl rfl) ?_
    refine oV vM ?_
    first | refine o_guard_t rfl rfl (fun g22 => ?_) (fun g22 => ?_) | refine o_guard rfl rfl (fun g22 => ?_) (fun g22 => ?_)
    · refine oV (vL lone103) ?_
      refine oN ?_
      refine oV (v_nilCheck rfl) ?_
      refine oN ?_
      refine oV (vF 1 Tryz.underlying141 ti4) ?_
      refine oN ?_
      refine oV (vL lone4) ?_
      refine oN ?_
      refine oV (v_not rfl) ?_
      refine oV vT ?_
      refine o_nil ?_
      exact cJ J rfl (by first | rfl | (simp_all; done) | (simp_all; omega))
    · refine oX ?_
      iterate 4 refine oX ?_
      refine oV vQ ?_
      refine o_nil ?_
      exact cJ J rfl (by first | rfl | (simp_all; done) | (simp_all; omega))
  refine c_cond_p rfl (fun hlt => ?_) (fun hlt => ?_)
  · have hst := takeMany_step (takeText each) (n := n.toNat) (k := k) (out := out) (by omega) hlt.2
    refine c_skip (c_seq (c_block ?_))
    refine c_heldk 5 [Blk b7 23 [v], BlkR b5 147 [.func (.func 119) #[] #[ptr bi, ptr be]]] rfl ?_
    refine k_take 0 rfl (by kernel_rfl) (by kernel_rfl) (by kernel_rfl) rfl (by kernel_rfl) (vL lone23) (eX (by repeat constructor)) (dd rfl) ?_
    refine k_take 1 rfl (by kernel_rfl) (by kernel_rfl) (by kernel_rfl) rfl (by kernel_rfl) (vL lone147) (eX (by repeat constructor)) (dd rfl) ?_
    refine k_one 2 rfl (by kernel_rfl) fun hc_ => (s_call cl119 (inEach_con i bi be r sk each te pe) (first := []) (cap := [ptr bi, ptr be]) rfl rfl (by rfl) (dd rfl) (pXs (by repeat constructor)) (fun w2 _ => k_on hc_ (eX (by repeat constructor)) ?_))
    refine k_one 3 rfl (by kernel_rfl) fun hc_ => (s_buildSlice Tryz.underlying23 ti9 rfl rfl rfl (by decide) (by decide) (beside_str [(takeText each sk).2]) rfl rfl (dd rfl) (fun v2 => k_on hc_ (eX (by repeat constructor)) ?_))
    refine k_one 4 rfl (by kernel_rfl) fun hc_ => (s_append Tryz.underlying23 ti9 rfl (by decide) rfl rfl (dd rfl) (pB (by repeat constructor)) (pX (by repeat constructor)) rfl (by (first | omega | (simp only [maxLen, List.length_append, List.length_drop, List.length_take, List.length_nil, List.length_cons]; omega))) (by (first | omega | (simp only [maxLen, List.length_append, List.length_drop, List.length_take, List.length_nil, List.length_cons]; omega))) (fun v3 => k_on hc_ (eX (by repeat constructor)) ?_))
    refine k_one 5 rfl (by kernel_rfl) fun hc_ => (s_store1 ti23 rfl rfl (by first | exact OneC.lit rfl | exact OneC.sl (hX (by repeat constructor)) ) (pB (by repeat constructor)) (by first | decide | exact Nat.le_of_ble_eq_true rfl | simp) (by first | (dsimp only [List.set_cons_succ, List.set_cons_zero]; first | done | exact rfl) | rfl) (k_last hc_ (by kernel_rfl) ?_))
    refine k_done (by kernel_rfl) ?_ _
    refine c_inBlock (c_region ?_)
    refine oV vM ?_
    refine oV ((by first | exact v_add64 rfl rfl (by omega) | exact v_add rfl rfl)) ?_
    refine oV vA ?_
    refine o_nil ?_
    refine cU (IH ((k + 1, ((takeText each) sk).1, out ++ [((takeText each) sk).2], w2, v3)) (by first | omega | (dsimp only; omega)) (⟨by dsimp only; omega, by simp; omega, hst.symm.trans hTk⟩))
  · have hend : takeMany (takeText each) (n.toNat - k) sk out = (sk, out) := by
      cases hb : sk.2 with
      | true => exact takeMany_bad _ _ _ _ hb
      | false => exact takeMany_end _ (by have : ¬ (k : Int) < n := fun q => hlt ⟨q, hb⟩; omega)
    refine c_exit rfl ?_
    refine c_seq (c_region ?_)
    refine oV (vL lone23) ?_
    refine oV vA ?_
    refine o_nil ?_
    refine c_ret1 Tryz.func140 rfl rfl fun w O hS => ?_
    exact ⟨(r, v), rfl, trivial, by rw [← hTk, hend]; exact Ent.get hS (eX (by repeat constructor))⟩
set_option maxRecDepth 100000 in
theorem alwaysS_con (v : Value) : Con Tryz.prog 142 [v] [] (γ := Unit) (fun _ => .bool true) (fun _ => True) (fun _ => []) := by
  refine con_of Tryz.func142 rfl (dd rfl) fun w0 O0 => ?_
  refine c_seq (c_region ?_)
  refine oV vA ?_
  refine o_nil (c_seq (c_region ?_))
  refine oV vA ?_
  refine o_nil ?_
  refine c_ret1 Tryz.func142 rfl rfl fun w O hS => ?_
  exact ⟨(), rfl, trivial, trivial⟩
set_option maxRecDepth 100000 in
theorem wholeS_con (i b3 b4 b5 b7 : Nat) (bv : Value) (s : St9) (most : Int) (bi be : Nat) (each : Int) (te : TypeId) (pe : Value) : Con Tryz.prog 141 [ptr i, .func (.func 140) #[] #[ptr b3, ptr b4, ptr b7, ptr b5], .func (.func 142) #[] #[]] [BlkR b3 103 [ptr i], BlkR b4 3 [.int .i64 most], Blk b7 23 [.slice none 0 0], BlkR b5 147 [.func (.func 119) #[] #[ptr bi, ptr be]], Blk i 141 [bv, .bool s.2], Sl eByte bv s.1, G1 te pe, G3, BlkR bi 103 [ptr i], BlkR be 3 [.int .i64 each]] (γ := Value × Value) (fun g => g.2) (fun _ => True) (fun g => [Blk i 141 [g.1, .bool (takeSome (takeText each) most s).1.2], Sl eByte g.1 (takeSome (takeText each) most s).1.1, Own eStr 9 g.2 (takeSome (takeText each) most s).2]) := by
  have h1 := someS1_con i b3 b4 b5 b7 bv s most bi be each te pe
  have h2 := fun v => alwaysS_con v
  rw [some_as]
  refine con_of Tryz.func141 rfl (dd rfl) fun w0 O0 => ?_
  refine c_seq (c_region ?_)
  refine oV vA ?_
  refine o_nil (c_seq (c_region ?_))
  refine oV vM ?_
  refine oV (v_nilCheck rfl) ?_
  refine oV (vF 0 Tryz.underlying141 ti38) ?_
  refine oV (vL lone38) ?_
  refine oV vA ?_
  refine o_nil (c_seq (c_region ?_))
  refine oV vM ?_
  refine o_step (s_call cl140 (h1) (first := []) (cap := [ptr b3, ptr b4, ptr b7, ptr b5]) rfl rfl (by rfl) (dd rfl) (pXs (by repeat constructor)) fun g _ => ?_)
  refine oV vA ?_
  refine o_nil (c_seq (c_seq (c_region ?_)))
  refine oV vM ?_
  refine oV (v_nilCheck rfl) ?_
  refine oV (vF 1 Tryz.underlying141 ti4) ?_
  refine oV (vL lone4) ?_
  refine oV (v_not rfl) ?_
  refine oV vM ?_
  refine o_guard rfl rfl (fun hb => ?_) (fun hb => ?_)
  · have hb2 : (somR (takeText each) most s).1.2 = false := by simpa using hb
    rw [if_neg (by rw [hb2]; decide)]
    refine oV vM ?_
    refine oN ?_
    refine oV vM ?_
    refine oN ?_
    refine o_step (s_call cl142 (h2 g.2) (first := []) (cap := []) rfl rfl (by rfl) (dd rfl) (pXs (by repeat constructor)) fun _ _ => ?_)
    refine oV vT ?_
    refine o_nil ?_
    refine c_cond_t rfl ?_
    refine c_seq (c_region ?_)
    refine oV vM ?_
    refine oV vA ?_
    refine o_nil ?_
    refine c_ret1 Tryz.func141 rfl rfl fun w O hS => ?_
    exact ⟨g, rfl, trivial, Ent.get hS (eX (by repeat constructor))⟩
  · have hb2 : (somR (takeText each) most s).1.2 = true := by simpa using hb
    rw [if_pos hb2]
    iterate 3 refine oX ?_
    refine oV vQ ?_
    refine o_nil ?_
    refine c_cond_f rfl ?_
    refine c_skip (c_seq (c_region ?_))
    refine oV vA ?_
    refine o_nil (c_seq (c_region ?_))
    iterate 3 refine oV vM ?_
    refine oV (v_nilCheck rfl) ?_
    refine oV (vF 0 Tryz.underlying141 ti38) ?_
    refine o_step (s_store1 ti38 rfl rfl (by first | exact OneC.lit rfl | exact OneC.sl (hX (by repeat constructor)) ) (pB (by repeat constructor)) (by first | decide | exact Nat.le_of_ble_eq_true rfl | simp) (by first | (dsimp only [List.set_cons_succ, List.set_cons_zero]; first | done | exact rfl) | rfl) (?_))
    refine oV (v_nilCheck rfl) ?_
    refine oV (vF 1 Tryz.underlying141 ti4) ?_
    refine o_step (s_store1 ti4 rfl rfl (by first | exact OneC.lit rfl | exact OneC.sl (hX (by repeat constructor)) ) (pB (by repeat constructor)) (by first | decide | exact Nat.le_of_ble_eq_true rfl | simp) (by first | (dsimp only [List.set_cons_succ, List.set_cons_zero]; first | done | exact rfl) | rfl) (?_))
    refine o_nil (c_seq (c_region ?_))
    refine oV vM ?_
    refine oV vA ?_
    refine o_nil ?_
    refine c_ret1 Tryz.func141 rfl rfl fun w O hS => ?_
    exact ⟨(bv, .slice none 0 0), rfl, trivial, Ent.get hS (eX (by repeat constructor))⟩
set_option maxRecDepth 100000 in
theorem someS_con (i : Nat) (bv : Value) (s : St9) (most : Int) (bi be : Nat) (each : Int) (te : TypeId) (pe : Value) : Con Tryz.prog 118 [ptr i, .int .i64 most, .func (.func 119) #[] #[ptr bi, ptr be]] [Blk i 141 [bv, .bool s.2], Sl eByte bv s.1, G1 te pe, G3, BlkR bi 103 [ptr i], BlkR be 3 [.int .i64 each]] (γ := Value × Value) (fun g => g.2) (fun _ => True) (fun g => [Blk i 141 [g.1, .bool (takeSome (takeText each) most s).1.2], Sl eByte g.1 (takeSome (takeText each) most s).1.1, Own eStr 9 g.2 (takeSome (takeText each) most s).2]) := by
  refine con_of Tryz.func118 rfl (dd rfl) fun w0 O0 => ?_
  refine c_seq (c_region ?_)
  refine o_step (s_box rfl (dd rfl) (fun b3 => ?_))
  refine o_step (s_box rfl (dd rfl) (fun b4 => ?_))
  refine o_step (s_box rfl (dd rfl) (fun b5 => ?_))
  refine oV vA ?_
  refine o_nil (c_seq (c_region ?_))
  refine o_step (s_alloc ti23 (dd rfl) (fun b7 => ?_))
  refine o_nil (c_seq (c_region ?_))
  refine oV (v_makeFunc rfl rfl) ?_
  refine oV vA ?_
  refine o_nil (c_seq (c_region ?_))
  refine oV (vL lone103) ?_
  refine oV vM ?_
  have h := wholeS_con i b3 b4 b5 b7 bv s most bi be each te pe
  refine oC cl141 (h) fun g _ => ?_
  refine oV vA ?_
  refine o_nil ?_
  refine c_ret1 Tryz.func118 rfl rfl fun w O hS => ?_
  exact ⟨g, rfl, trivial, Ent.get hS (eX (by repeat constructor))⟩
set_option maxRecDepth 100000 in
theorem inTexts_con (i : Nat) (bv : Value) (s : St9) (most each : Int) (te : TypeId) (pe : Value) : Con Tryz.prog 66 [ptr i, .int .i64 most, .int .i64 each] [Blk i 141 [bv, .bool s.2], Sl eByte bv s.1, G1 te pe, G3] (γ := Value × Value) (fun g => g.2) (fun _ => True) (fun g => [Blk i 141 [g.1, .bool (takeTexts most each s).1.2], Sl eByte g.1 (takeTexts most each s).1.1, Own eStr 9 g.2 (takeTexts most each s).2]) := by
  unfold takeTexts
  refine con_of Tryz.func66 rfl (dd rfl) fun w0 O0 => ?_
  refine c_seq (c_region ?_)
  refine o_step (s_box rfl (dd rfl) (fun b3 => ?_))
  refine o_step (s_box rfl (dd rfl) (fun b5 => ?_))
  refine oV vA ?_
  refine o_nil (c_seq (c_region ?_))
  refine oV (vL lone103) ?_
  refine oV vM ?_
  refine oV (v_makeFunc rfl rfl) ?_
  have h := someS_con i bv s most b3 b5 each te pe
  refine oC cl118 (h) fun g _ => ?_
  refine oV vA ?_
  refine o_nil ?_
  refine c_ret1 Tryz.func66 rfl rfl fun w O hS => ?_
  exact ⟨g, rfl, trivial, Ent.get hS (eX (by repeat constructor))⟩
end Go.Proofs.YtlfehnnmpkohkaaGreatDoor
/- Chapter 09: the program's reader: numbers. -/
namespace Go.Proofs.YtlfehnnmpkohkaaGreatDoor
open Go Go.SL Go.Lib
attribute [local irreducible] Cfg Kont StepK Val Con Qops Any Sl Own Blk BlkR Rd Pu ExA AllA Has Pick Ent Elem Beside Callable TI Lone OwnO AndA
end Go.Proofs.YtlfehnnmpkohkaaGreatDoor
/- Chapter 1's plain laws: what lines, texts and rows of lines come to. No program. -/
namespace L01
abbrev Ls := List ByteArray

def bytesOf : List Ls → Nat
  | [] => 0
  | l :: r => (l.map (·.size)).sum + bytesOf r
def linesOf : List Ls → Nat
  | [] => 0
  | l :: r => l.length + linesOf r
def Stands (xs : Ls) (k : Int) (ps : Ls) : Prop := 0 ≤ k ∧ k.toNat + ps.length ≤ xs.length ∧ (xs.drop k.toNat).take ps.length = ps
instance (xs : Ls) (k : Int) (ps : Ls) : Decidable (Stands xs k ps) := by unfold Stands; infer_instance
def IsFind (xs ps : Ls) (fr r : Int) : Prop := (r = -1 ∧ ∀ a, fr ≤ a → ¬ Stands xs a ps) ∨ (fr ≤ r ∧ Stands xs r ps ∧ ∀ a, fr ≤ a → a < r → ¬ Stands xs a ps)
def IsHead (a b : Ls) (n : Nat) : Prop := n ≤ a.length ∧ n ≤ b.length ∧ a.take n = b.take n ∧ ∀ k, k ≤ a.length → k ≤ b.length → a.take k = b.take k → k ≤ n
def IsTail (a b : Ls) (n : Nat) : Prop := n ≤ a.length ∧ n ≤ b.length ∧ a.drop (a.length - n) = b.drop (b.length - n) ∧ ∀ k, k ≤ a.length → k ≤ b.length → a.drop (a.length - k) = b.drop (b.length - k) → k ≤ n
def RightS (s : ByteArray) : Prop := 10 ∉ s.data.toList ∧ s.size ≤ 60
instance (s : ByteArray) : Decidable (RightS s) := by unfold RightS; infer_instance
def nl : ByteArray := ⟨#[10]⟩
def textS : Ls → ByteArray
  | [] => ByteArray.empty
  | x :: l => x ++ nl ++ textS l
/-- The pieces of a text: a piece ends at each byte 10; what is left behind the last one is one, too, if there is something. -/
def cutGo : List UInt8 → List UInt8 → List (List UInt8)
  | cur, [] => if cur = [] then [] else [cur]
  | cur, b :: l => if b = 10 then cur :: cutGo [] l else cutGo (cur ++ [b]) l
def cutS (s : ByteArray) : Ls := (cutGo [] s.data.toList).map fun l => ⟨l.toArray⟩
end L01
/- Chapter 09: lines: which may be, and which rows are the same (turned from chapter 01's walks). -/
namespace Go.Proofs.YtlfehnnmpkohkaaGreatDoor
open Go Go.SL L01
attribute [local irreducible] Cfg Kont StepK Val Con Qops Any Sl Own Blk BlkR Rd Pu ExA AllA Has Pick Ent Elem Beside Callable TI Lone OwnO AndA
set_option maxRecDepth 100000 in
/-- slices.Equal and the document's Same. -/
theorem equal_con (v u : Value) (xs ys : Ls) (hx : xs.length ≤ 1000000) (hy : ys.length ≤ 1000000) :
    Con Tryz.prog 105 [v, u] [Sl eStr v xs, Sl eStr u ys] (γ := Unit) (fun _ => .bool (decide (xs = ys))) (fun _ => True) (fun _ => []) := by
  refine con_of Tryz.func105 rfl (dd rfl) fun w0 O0 => ?_
  refine c_seq (c_region ?_)
  refine oV vA ?_
  refine o_nil (c_seq (c_seq (c_region ?_)))
  refine oV vM ?_
  refine oV ((by first | exact v_len_form Tryz.underlying23 rfl | exact v_len_sl Tryz.underlying23 rfl (hX (by repeat constructor)))) ?_
  refine oV vM ?_
  refine oV ((by first | exact v_len_form Tryz.underlying23 rfl | exact v_len_sl Tryz.underlying23 rfl (hX (by repeat constructor)))) ?_
  refine oV (v_ne rfl rfl) ?_
  refine o_nil ?_
  refine c_cond_p rfl (fun h => ?_) (fun h => ?_)
  · refine c_seq (c_region ?_)
    refine oV vA ?_
    refine o_nil ?_
    refine c_ret1 Tryz.func105 rfl rfl fun w O hS => ?_
    exact ⟨(), by rw [decide_eq_false (fun e => h (by rw [e]))], trivial, trivial⟩
  · refine c_skip (c_seq (c_seq (c_region ?_)))
    refine oV vM ?_
    refine oV ((by first | exact v_len_form Tryz.underlying23 rfl | exact v_len_sl Tryz.underlying23 rfl (hX (by repeat constructor)))) ?_
    refine oV vM ?_
    refine o_nil (c_block ?_)
    refine c_loop (γ := Nat) (fun k => xs.length - k) (fun k => k ≤ xs.length ∧ xs.take k = ys.take k) (fun k => [(13, .int .i64 k), (12, .int .i64 xs.length), (0, v), (1, u)]) (fun _ => [Sl eStr v xs, Sl eStr u ys]) 0 ⟨Nat.zero_le _, rfl⟩ ⟨rfl, rfl, rfl, rfl, trivial⟩ (Ent.refl _) ?_
    intro k ⟨hk, he⟩ IH
    try dsimp only [List.cons_append, List.nil_append]
    refine c_seq (c_region ?_)
    refine oV (v_lt rfl rfl) ?_
    refine o_nil (c_seq ?_)
    refine c_cond_p rfl (fun hlt => ?_) (fun hlt => ?_)
    · refine c_skip (c_seq (c_block (c_seq (c_region ?_))))
      refine oV vM ?_
      refine oV vA ?_
      refine o_nil (c_seq ?_)
      refine c_quiet rfl (by kernel_rfl) ?_
      refine qV vM ?_
      refine qV vM ?_
      refine qV ((by first | exact v_indexAddrN Tryz.underlying23 ti9 rfl rfl (hX (by repeat constructor)) (by omega) | exact v_indexAddr Tryz.underlying23 ti9 rfl rfl (hX (by repeat constructor)) (by omega))) ?_
      refine qV (v_load_str lone9 rfl (by repeat (first | exact Elem.sl (List.getElem?_eq_getElem (by omega)) | exact Elem.own (List.getElem?_eq_getElem (by omega)) | exact Elem.ownO (List.getElem?_eq_getElem (by omega)) | apply Elem.there))) ?_
      refine qV vM ?_
      refine qV vM ?_
      refine qV ((by first | exact v_indexAddrN Tryz.underlying23 ti9 rfl rfl (hX (by repeat constructor)) (by omega) | exact v_indexAddr Tryz.underlying23 ti9 rfl rfl (hX (by repeat constructor)) (by omega))) ?_
      refine qV (v_load_str lone9 rfl (by repeat (first | exact Elem.sl (List.getElem?_eq_getElem (by omega)) | exact Elem.own (List.getElem?_eq_getElem (by omega)) | exact Elem.ownO (List.getElem?_eq_getElem (by omega)) | apply Elem.there))) ?_
      refine qV (v_sne rfl rfl) ?_
      refine q_nil ?_
      refine c_cond_p rfl (fun hne => ?_) (fun hne => ?_)
      · refine c_seq (c_region ?_)
        refine oV vA ?_
        refine o_nil ?_
        refine c_ret1 Tryz.func105 rfl rfl fun w O hS => ?_
        exact ⟨(), by rw [decide_eq_false]; intro e; subst e; exact hne rfl, trivial, trivial⟩
      · refine c_skip (c_inBlock (c_region ?_))
        refine oV ((by first | exact v_add64 rfl rfl (by omega) | exact v_add rfl rfl)) ?_
        refine oV vM ?_
        refine o_nil ?_
        refine c_use (IH (k + 1) (by omega) ⟨by omega, ?_⟩) ⟨rfl, rfl, rfl, rfl, trivial⟩ (Ent.refl _)
        rw [List.take_succ_eq_append_getElem (by omega), List.take_succ_eq_append_getElem (by omega), he, Decidable.not_not.1 hne]
    · refine c_exit rfl ?_
      refine c_seq (c_region ?_)
      refine oV vA ?_
      refine o_nil ?_
      refine c_ret1 Tryz.func105 rfl rfl fun w O hS => ?_
      refine ⟨(), ?_, trivial, trivial⟩
      rw [List.take_of_length_le (by omega), List.take_of_length_le (by omega)] at he
      rw [decide_eq_true he]
set_option maxRecDepth 100000 in
theorem same_ref_con (v u : Value) (xs ys : Ls) (hx : xs.length ≤ 1000000) (hy : ys.length ≤ 1000000) :
    Con Tryz.prog 49 [v, u] [Sl eStr v xs, Sl eStr u ys] (γ := Unit) (fun _ => .bool (decide (xs = ys))) (fun _ => True) (fun _ => []) := by
  refine con_of Tryz.func49 rfl (dd rfl) fun w0 O0 => ?_
  refine c_seq (c_region ?_)
  refine oV vA ?_
  refine o_nil (c_seq (c_seq (c_region ?_)))
  refine oV vM ?_
  refine oV ((by first | exact v_len_form Tryz.underlying23 rfl | exact v_len_sl Tryz.underlying23 rfl (hX (by repeat constructor)))) ?_
  refine oV vM ?_
  refine oV ((by first | exact v_len_form Tryz.underlying23 rfl | exact v_len_sl Tryz.underlying23 rfl (hX (by repeat constructor)))) ?_
  refine oV (v_ne rfl rfl) ?_
  refine o_nil ?_
  refine c_cond_p rfl (fun h => ?_) (fun h => ?_)
  · refine c_seq (c_region ?_)
    refine oV vA ?_
    refine o_nil ?_
    refine c_ret1 Tryz.func49 rfl rfl fun w O hS => ?_
    exact ⟨(), by rw [decide_eq_false (fun e => h (by rw [e]))], trivial, trivial⟩
  · refine c_skip (c_seq (c_seq (c_region ?_)))
    refine oV vA ?_
    refine o_nil (c_block ?_)
    refine c_loop (γ := Nat) (fun k => xs.length - k) (fun k => k ≤ xs.length ∧ xs.take k = ys.take k) (fun k => [(5, .int .i64 k), (0, v), (1, u)]) (fun _ => [Sl eStr v xs, Sl eStr u ys]) 0 ⟨Nat.zero_le _, rfl⟩ ⟨rfl, rfl, rfl, trivial⟩ (Ent.refl _) ?_
    intro k ⟨hk, he⟩ IH
    try dsimp only [List.cons_append, List.nil_append]
    refine c_seq (c_seq (c_region ?_))
    iterate 2 refine oV vM ?_
    refine oV ((by first | exact v_len_form Tryz.underlying23 rfl | exact v_len_sl Tryz.underlying23 rfl (hX (by repeat constructor)))) ?_
    refine oV (v_lt rfl rfl) ?_
    refine o_nil ?_
    refine c_cond_p rfl (fun hlt => ?_) (fun hlt => ?_)
    · refine c_skip (c_seq (c_block (c_seq ?_)))
      refine c_quiet rfl (by kernel_rfl) ?_
      refine qV vM ?_
      refine qV vM ?_
      refine qV ((by first | exact v_indexAddrN Tryz.underlying23 ti9 rfl rfl (hX (by repeat constructor)) (by omega) | exact v_indexAddr Tryz.underlying23 ti9 rfl rfl (hX (by repeat constructor)) (by omega))) ?_
      refine qV (v_load_str lone9 rfl (by repeat (first | exact Elem.sl (List.getElem?_eq_getElem (by omega)) | exact Elem.own (List.getElem?_eq_getElem (by omega)) | exact Elem.ownO (List.getElem?_eq_getElem (by omega)) | apply Elem.there))) ?_
      refine qV vM ?_
      refine qV vM ?_
      refine qV ((by first | exact v_indexAddrN Tryz.underlying23 ti9 rfl rfl (hX (by repeat constructor)) (by omega) | exact v_indexAddr Tryz.underlying23 ti9 rfl rfl (hX (by repeat constructor)) (by omega))) ?_
      refine qV (v_load_str lone9 rfl (by repeat (first | exact Elem.sl (List.getElem?_eq_getElem (by omega)) | exact Elem.own (List.getElem?_eq_getElem (by omega)) | exact Elem.ownO (List.getElem?_eq_getElem (by omega)) | apply Elem.there))) ?_
      refine qV (v_sne rfl rfl) ?_
      refine q_nil ?_
      refine c_cond_p rfl (fun hne => ?_) (fun hne => ?_)
      · refine c_seq (c_region ?_)
        refine oV vA ?_
        refine o_nil ?_
        refine c_ret1 Tryz.func49 rfl rfl fun w O hS => ?_
        exact ⟨(), by rw [decide_eq_false]; intro e; subst e; exact hne rfl, trivial, trivial⟩
      · refine c_skip (c_inBlock (c_region ?_))
        refine oV vM ?_
        refine oV ((by first | exact v_add64 rfl rfl (by omega) | exact v_add rfl rfl)) ?_
        refine oV vA ?_
        refine o_nil ?_
        refine c_use (IH (k + 1) (by omega) ⟨by omega, ?_⟩) ⟨rfl, rfl, rfl, trivial⟩ (Ent.refl _)
        rw [List.take_succ_eq_append_getElem (by omega), List.take_succ_eq_append_getElem (by omega), he, Decidable.not_not.1 hne]
    · refine c_exit rfl ?_
      refine c_seq (c_region ?_)
      refine oV vA ?_
      refine o_nil ?_
      refine c_ret1 Tryz.func49 rfl rfl fun w O hS => ?_
      refine ⟨(), ?_, trivial, trivial⟩
      rw [List.take_of_length_le (by omega), List.take_of_length_le (by omega)] at he
      rw [decide_eq_true he]
set_option maxRecDepth 100000 in
theorem same_con (v u : Value) (xs ys : Ls) (hx : xs.length ≤ 1000000) (hy : ys.length ≤ 1000000) :
    Con Tryz.prog 46 [v, u] [Sl eStr v xs, Sl eStr u ys] (γ := Unit) (fun _ => .bool (decide (xs = ys))) (fun _ => True) (fun _ => []) := by
  refine con_of Tryz.func46 rfl (dd rfl) fun w0 O0 => ?_
  refine c_seq (c_region ?_)
  refine oV vA ?_
  refine o_nil (c_seq (c_region ?_))
  iterate 2 refine oV vM ?_
  refine oC cl105 (equal_con v u xs ys hx hy) fun _ _ => ?_
  refine oV vA ?_
  refine o_nil ?_
  refine c_ret1 Tryz.func46 rfl rfl fun w O hS => ?_
  exact ⟨(), rfl, trivial, trivial⟩
set_option maxRecDepth 100000 in
theorem right_ref_con (s : ByteArray) (hs : s.size ≤ 1000000) :
    Con Tryz.prog 42 [.string s] [] (γ := Unit) (fun _ => .bool (decide (RightS s))) (fun _ => True) (fun _ => []) := by
  refine con_of Tryz.func42 rfl (dd rfl) fun w0 O0 => ?_
  refine c_seq (c_region ?_)
  refine oV vA ?_
  refine o_nil (c_seq (c_seq (c_region ?_)))
  refine oV vA ?_
  refine o_nil (c_block ?_)
  refine c_loop (γ := Nat) (fun k => s.size - k) (fun k => k ≤ s.size ∧ 10 ∉ s.data.toList.take k) (fun k => [(3, .int .i64 k), (0, .string s)]) (fun _ => []) 0 ⟨Nat.zero_le _, by simp⟩ ⟨rfl, rfl, trivial⟩ (Ent.refl _) ?_
  intro k ⟨hk, hn⟩ IH
  try dsimp only [List.cons_append, List.nil_append]
  refine c_seq (c_seq (c_region ?_))
  iterate 2 refine oV vM ?_
  refine oV (v_len_str Tryz.underlying9 rfl) ?_
  refine oV (v_lt rfl rfl) ?_
  refine o_nil ?_
  refine c_cond_p rfl (fun hlt => ?_) (fun hlt => ?_)
  · refine c_skip (c_seq (c_block (c_seq (c_region ?_))))
    iterate 2 refine oV vM ?_
    refine oV (v_index_str Tryz.underlying9 rfl rfl (by omega)) ?_
    refine oV (v_eq rfl rfl) ?_
    refine o_nil ?_
    refine c_cond_p rfl (fun h10 => ?_) (fun h10 => ?_)
    · refine c_seq (c_region ?_)
      refine oV vA ?_
      refine o_nil ?_
      refine c_ret1 Tryz.func42 rfl rfl fun w O hS => ?_
      refine ⟨(), ?_, trivial, trivial⟩
      rw [decide_eq_false]
      rintro ⟨g, _⟩
      rw [sAt_nat _ _ (by omega)] at h10
      have e10 : s.data.toList[k]'(by rw [← Lib.size_eq]; omega) = 10 := byte_of (n := 10) h10 (by omega)
      exact g (by rw [← e10]; exact List.getElem_mem _)
    · refine c_skip (c_inBlock (c_region ?_))
      refine oV vM ?_
      refine oV ((by first | exact v_add64 rfl rfl (by omega) | exact v_add rfl rfl)) ?_
      refine oV vA ?_
      refine o_nil ?_
      refine c_use (IH (k + 1) (by omega) ⟨by omega, ?_⟩) ⟨rfl, rfl, trivial⟩ (Ent.refl _)
      have hk2 : k < s.data.toList.length := by rw [← Lib.size_eq]; omega
      rw [List.take_succ_eq_append_getElem hk2]
      intro hm
      rcases List.mem_append.1 hm with h | h
      · exact hn h
      · simp only [List.mem_singleton] at h
        rw [sAt_nat _ _ (by omega), ← h] at h10
        exact h10 rfl
  · refine c_exit rfl ?_
    refine c_seq (c_region ?_)
    refine oV vM ?_
    refine oV (v_len_str Tryz.underlying9 rfl) ?_
    refine oV (v_le rfl rfl) ?_
    refine oV vA ?_
    refine o_nil ?_
    refine c_ret1 Tryz.func42 rfl rfl fun w O hS => ?_
    refine ⟨(), ?_, trivial, trivial⟩
    rw [List.take_of_length_le (by rw [← Lib.size_eq]; omega)] at hn
    congr 1
    rw [decide_eq_decide]
    exact ⟨fun h => ⟨hn, by omega⟩, fun h => by have := h.2; omega⟩
set_option maxRecDepth 100000 in
theorem all_ref_con (v : Value) (xs : Ls) (hx : xs.length ≤ 1000000) (hs : ∀ x ∈ xs, x.size ≤ 1000000) :
    Con Tryz.prog 135 [v] [Sl eStr v xs] (γ := Unit) (fun _ => .bool (decide (∀ x ∈ xs, RightS x))) (fun _ => True) (fun _ => []) := by
  refine con_of Tryz.func135 rfl (dd rfl) fun w0 O0 => ?_
  refine c_seq (c_region ?_)
  refine oV vA ?_
  refine o_nil (c_seq (c_seq (c_region ?_)))
  refine oV vA ?_
  refine o_nil (c_block ?_)
  refine c_loop (γ := Nat) (fun k => xs.length - k) (fun k => k ≤ xs.length ∧ ∀ x ∈ xs.take k, RightS x) (fun k => [(3, .int .i64 k), (0, v)]) (fun _ => [Sl eStr v xs]) 0 ⟨Nat.zero_le _, by simp⟩ ⟨rfl, rfl, trivial⟩ (Ent.refl _) ?_
  intro k ⟨hk, hn⟩ IH
  try dsimp only [List.cons_append, List.nil_append]
  refine c_seq (c_seq (c_region ?_))
  iterate 2 refine oV vM ?_
  refine oV ((by first | exact v_len_form Tryz.underlying23 rfl | exact v_len_sl Tryz.underlying23 rfl (hX (by repeat constructor)))) ?_
  refine oV (v_lt rfl rfl) ?_
  refine o_nil ?_
  refine c_cond_p rfl (fun hlt => ?_) (fun hlt => ?_)
  · refine c_skip (c_seq (c_block (c_seq (c_region ?_))))
    iterate 2 refine oV vM ?_
    refine oV ((by first | exact v_indexAddrN Tryz.underlying23 ti9 rfl rfl (hX (by repeat constructor)) (by omega) | exact v_indexAddr Tryz.underlying23 ti9 rfl rfl (hX (by repeat constructor)) (by omega))) ?_
    refine oV (v_load_str lone9 rfl (by repeat (first | exact Elem.sl (List.getElem?_eq_getElem (by omega)) | exact Elem.own (List.getElem?_eq_getElem (by omega)) | exact Elem.ownO (List.getElem?_eq_getElem (by omega)) | apply Elem.there))) ?_
    refine oC cl42 (right_ref_con _ (hs _ (List.getElem_mem _))) fun _ _ => ?_
    refine oV (v_not rfl) ?_
    refine o_nil ?_
    refine c_cond rfl (fun hr => ?_) (fun hr => ?_)
    · refine c_seq (c_region ?_)
      refine oV vA ?_
      refine o_nil ?_
      refine c_ret1 Tryz.func135 rfl rfl fun w O hS => ?_
      refine ⟨(), ?_, trivial, trivial⟩
      rw [decide_eq_false]
      intro hall
      have := hall _ (List.getElem_mem (l := xs) (n := k) (by omega))
      simp [this] at hr
    · refine c_skip (c_inBlock (c_region ?_))
      refine oV vM ?_
      refine oV ((by first | exact v_add64 rfl rfl (by omega) | exact v_add rfl rfl)) ?_
      refine oV vA ?_
      refine o_nil ?_
      refine c_use (IH (k + 1) (by omega) ⟨by omega, ?_⟩) ⟨rfl, rfl, trivial⟩ (Ent.refl _)
      rw [List.take_succ_eq_append_getElem (by omega)]
      intro x hx'
      rcases List.mem_append.1 hx' with h | h
      · exact hn x h
      · simp at h; subst h; simpa using hr
  · refine c_exit rfl ?_
    refine c_seq (c_region ?_)
    refine oV vA ?_
    refine o_nil ?_
    refine c_ret1 Tryz.func135 rfl rfl fun w O hS => ?_
    refine ⟨(), ?_, trivial, trivial⟩
    rw [List.take_of_length_le (by omega)] at hn
    rw [decide_eq_true hn]
end Go.Proofs.YtlfehnnmpkohkaaGreatDoor
/- Chapter 09: lines: which may be, and which rows are the same (turned from chapter 01's walks). -/
namespace Go.Proofs.YtlfehnnmpkohkaaGreatDoor
open Go Go.SL L01
attribute [local irreducible] Cfg Kont StepK Val Con Qops Any Sl Own Blk BlkR Rd Pu ExA AllA Has Pick Ent Elem Beside Callable TI Lone OwnO AndA
theorem indexByte_mem (l : List UInt8) (c : UInt8) : 0 ≤ Lib.indexByte l c ↔ c ∈ l := by
  have := Lib.contains_iff_indexByte l c
  rw [← List.contains_iff_mem, this, decide_eq_true_iff]
theorem contains_con (s : ByteArray) : Con Tryz.prog 130 [.string s, .string nl] [] (γ := Unit) (fun _ => .bool (decide (10 ∈ s.data.toList))) (fun _ => True) (fun _ => []) :=
  con_pure fun w _ _ => (Tryz.strings_Contains_one s 10 w).mono fun e w' ⟨he, hw⟩ => ⟨by rw [he]; congr 2; exact decide_eq_decide.2 (indexByte_mem _ _), hw⟩
set_option maxRecDepth 100000 in
theorem right_con (s : ByteArray) :
    Con Tryz.prog 92 [.string s] [] (γ := Unit) (fun _ => .bool (decide (RightS s))) (fun _ => True) (fun _ => []) := by
  refine con_of Tryz.func92 rfl (dd rfl) fun w0 O0 => ?_
  refine c_seq (c_region ?_)
  refine oV vA ?_
  refine o_nil (c_seq (c_region ?_))
  refine oV vM ?_
  refine oV (v_len_str Tryz.underlying9 rfl) ?_
  refine oV (v_le rfl rfl) ?_
  refine oV vM ?_
  refine o_guard_t rfl rfl (fun h => ?_) (fun h => ?_)
  · refine oV vM ?_
    refine oN ?_
    refine oC cl130 (contains_con s) fun _ _ => ?_
    refine oN ?_
    refine oV (v_not rfl) ?_
    refine oV vT ?_
    refine oV vA ?_
    refine o_nil ?_
    refine c_ret1 Tryz.func92 rfl rfl fun w O hS => ?_
    refine ⟨(), ?_, trivial, trivial⟩
    have : decide (RightS s) = !decide (10 ∈ s.data.toList) := by
      rw [← decide_not]
      exact decide_eq_decide.2 ⟨fun h => h.1, fun g => ⟨g, by omega⟩⟩
    rw [this]
  · refine oX ?_
    iterate 2 refine oX ?_
    refine oV vQ ?_
    refine oV vA ?_
    refine o_nil ?_
    refine c_ret1 Tryz.func92 rfl rfl fun w O hS => ?_
    refine ⟨(), ?_, trivial, trivial⟩
    rw [decide_eq_false (fun g : RightS s => h (by have := g.2; omega))]
set_option maxRecDepth 100000 in
theorem notright_con (s : ByteArray) :
    Con Tryz.prog 169 [.string s] [] (γ := Unit) (fun _ => .bool (!decide (RightS s))) (fun _ => True) (fun _ => []) := by
  refine con_of Tryz.func169 rfl (dd rfl) fun w0 O0 => ?_
  refine c_seq (c_region ?_)
  refine oV vA ?_
  refine o_nil (c_seq (c_region ?_))
  refine oV vM ?_
  refine oC cl92 (right_con s) fun _ _ => ?_
  refine oV (v_not rfl) ?_
  refine oV vA ?_
  refine o_nil ?_
  refine c_ret1 Tryz.func169 rfl rfl fun w O hS => ?_
  exact ⟨(), rfl, trivial, trivial⟩
set_option maxRecDepth 100000 in
theorem indexf_con (v : Value) (xs : Ls) (hx : xs.length ≤ 1000000) :
    Con Tryz.prog 159 [v, .func (.func 169) #[] #[]] [Sl eStr v xs] (γ := Int) (fun r => .int .i64 r) (fun r => 0 ≤ r ↔ ∃ x ∈ xs, ¬ RightS x) (fun _ => []) := by
  refine con_of Tryz.func159 rfl (dd rfl) fun w0 O0 => ?_
  refine c_seq (c_region ?_)
  refine oV vA ?_
  refine o_nil (c_seq (c_seq (c_region ?_)))
  refine oV vM ?_
  refine oV ((by first | exact v_len_form Tryz.underlying23 rfl | exact v_len_sl Tryz.underlying23 rfl (hX (by repeat constructor)))) ?_
  refine oV vM ?_
  refine o_nil (c_block ?_)
  refine c_loop (γ := Nat) (fun i => xs.length - i) (fun i => i ≤ xs.length ∧ ∀ x ∈ xs.take i, RightS x) (fun i => [(8, .int .i64 i), (7, .int .i64 xs.length), (0, v), (1, .func (.func 169) #[] #[])]) (fun _ => [Sl eStr v xs]) 0 ⟨Nat.zero_le _, by simp⟩ ⟨rfl, rfl, rfl, rfl, trivial⟩ (Ent.refl _) ?_
  intro i ⟨hi, hr⟩ IH
  try dsimp only [List.cons_append, List.nil_append]
  refine c_seq (c_region ?_)
  refine oV (v_lt rfl rfl) ?_
  refine o_nil (c_seq ?_)
  refine c_cond_p rfl (fun hlt => ?_) (fun hlt => ?_)
  · refine c_skip (c_seq (c_block (c_seq (c_region ?_))))
    refine oV vM ?_
    refine oV vA ?_
    refine o_nil (c_seq (c_region ?_))
    iterate 3 refine oV vM ?_
    refine oV ((by first | exact v_indexAddrN Tryz.underlying23 ti9 rfl rfl (hX (by repeat constructor)) (by omega) | exact v_indexAddr Tryz.underlying23 ti9 rfl rfl (hX (by repeat constructor)) (by omega))) ?_
    refine oV (v_load_str lone9 rfl (by repeat (first | exact Elem.sl (List.getElem?_eq_getElem (by omega)) | exact Elem.own (List.getElem?_eq_getElem (by omega)) | exact Elem.ownO (List.getElem?_eq_getElem (by omega)) | apply Elem.there))) ?_
    refine o_step (s_call cl169 (notright_con (xs[i]'(by omega))) (first := []) (cap := []) rfl rfl (by rfl) (dd rfl) (pXs (by repeat constructor)) fun _ _ => ?_)
    refine o_nil ?_
    refine c_cond rfl (fun hb => ?_) (fun hb => ?_)
    · refine c_seq (c_region ?_)
      refine oV vM ?_
      refine oV vA ?_
      refine o_nil ?_
      refine c_ret1 Tryz.func159 rfl rfl fun w O hS => ?_
      have hn : ¬ RightS (xs[i]'(by omega)) := by simpa using hb
      exact ⟨i, rfl, ⟨fun _ => ⟨_, List.getElem_mem (by omega), hn⟩, fun _ => by omega⟩, trivial⟩
    · refine c_skip (c_inBlock (c_region ?_))
      refine oV ((by first | exact v_add64 rfl rfl (by omega) | exact v_add rfl rfl)) ?_
      refine oV vM ?_
      refine o_nil ?_
      have hn : RightS (xs[i]'(by omega)) := by simpa using hb
      refine c_use (IH (i + 1) (by omega) ⟨by omega, fun x hx => ?_⟩) ⟨rfl, rfl, rfl, rfl, trivial⟩ (eX (by repeat constructor))
      rw [List.take_succ_eq_append_getElem (by omega)] at hx
      rcases List.mem_append.1 hx with hx | hx
      · exact hr x hx
      · rw [List.mem_singleton.1 hx]; exact hn
  · refine c_exit rfl ?_
    refine c_seq (c_region ?_)
    refine oV vA ?_
    refine o_nil ?_
    refine c_ret1 Tryz.func159 rfl rfl fun w O hS => ?_
    rw [List.take_of_length_le (by omega)] at hr
    exact ⟨-1, rfl, ⟨fun h => by omega, fun ⟨x, hx, hn⟩ => absurd (hr x hx) hn⟩, trivial⟩
set_option maxRecDepth 100000 in
theorem containsf_con (v : Value) (xs : Ls) (hx : xs.length ≤ 1000000) :
    Con Tryz.prog 133 [v, .func (.func 169) #[] #[]] [Sl eStr v xs] (γ := Unit) (fun _ => .bool (!decide (∀ x ∈ xs, RightS x))) (fun _ => True) (fun _ => []) := by
  refine con_of Tryz.func133 rfl (dd rfl) fun w0 O0 => ?_
  refine c_seq (c_region ?_)
  refine oV vA ?_
  refine o_nil (c_seq (c_region ?_))
  iterate 2 refine oV vM ?_
  refine oC cl159 (indexf_con v xs hx) fun r hr => ?_
  refine oV (v_ge rfl rfl) ?_
  refine oV vA ?_
  refine o_nil ?_
  refine c_ret1 Tryz.func133 rfl rfl fun w O hS => ?_
  refine ⟨(), ?_, trivial, trivial⟩
  congr 1
  rw [← decide_not]
  refine decide_eq_decide.2 (Iff.trans ?_ (hr.trans ?_))
  · exact Iff.rfl
  · exact ⟨fun ⟨x, h1, h2⟩ h => h2 (h x h1), fun h => Classical.byContradiction fun g => h fun x hx => Classical.byContradiction fun k => g ⟨x, hx, k⟩⟩
set_option maxRecDepth 100000 in
theorem all_con (v : Value) (xs : Ls) (hx : xs.length ≤ 1000000) :
    Con Tryz.prog 156 [v] [Sl eStr v xs] (γ := Unit) (fun _ => .bool (decide (∀ x ∈ xs, RightS x))) (fun _ => True) (fun _ => []) := by
  refine con_of Tryz.func156 rfl (dd rfl) fun w0 O0 => ?_
  refine c_seq (c_region ?_)
  refine oV vA ?_
  refine o_nil (c_seq (c_region ?_))
  refine oV vM ?_
  refine oC cl133 (containsf_con v xs hx) fun _ _ => ?_
  refine oV (v_not rfl) ?_
  refine oV vA ?_
  refine o_nil ?_
  refine c_ret1 Tryz.func156 rfl rfl fun w O hS => ?_
  exact ⟨(), by rw [Bool.not_not], trivial, trivial⟩
end Go.Proofs.YtlfehnnmpkohkaaGreatDoor
/- Chapter 09: which names, lines and changes may be, as the document says it. -/
namespace Go.Proofs.YtlfehnnmpkohkaaGreatDoor
open Go Go.SL Go.Lib L01
theorem right_line (s : ByteArray) : decide (RightS s) = lineP s := by
  rw [Bool.eq_iff_iff, decide_eq_true_eq]
  unfold lineP RightS
  rw [Bool.and_eq_true, decide_eq_true_eq, List.all_eq_true]
  exact ⟨fun h => ⟨h.2, fun x hx => decide_eq_true fun k => h.1 (k ▸ hx)⟩, fun h => ⟨fun k => by have := of_decide_eq_true (h.2 10 k); exact this rfl, h.1⟩⟩
theorem all_line (l : List ByteArray) : decide (∀ x ∈ l, RightS x) = l.all lineP := by
  by_cases h : ∀ x ∈ l, RightS x
  · rw [decide_eq_true h]
    symm
    rw [List.all_eq_true]
    exact fun x hx => (right_line x).symm.trans (decide_eq_true (h x hx))
  · rw [decide_eq_false h]
    symm
    rw [List.all_eq_false]
    obtain ⟨x, h1⟩ := Classical.not_forall.1 h
    obtain ⟨hx, hr⟩ := Classical.not_imp.1 h1
    exact ⟨x, hx, by rw [← right_line, decide_eq_false hr]; decide⟩
theorem charP_eq (b : UInt8) (c : Int) (h : c = (b.toNat : Int)) : charP b = decide ((97 ≤ c ∧ c ≤ 122) ∨ (48 ≤ c ∧ c ≤ 57) ∨ c = 46 ∨ c = 45 ∨ c = 95 ∨ c = 47) := by
  unfold charP
  rw [Bool.eq_iff_iff]
  simp only [Bool.or_eq_true, Bool.and_eq_true, decide_eq_true_eq]
  omega
attribute [local irreducible] Cfg Kont StepK Val Con Qops Any Sl Own Blk BlkR Rd Pu ExA AllA Has Pick Ent Elem Beside Callable TI Lone OwnO AndA
set_option maxRecDepth 100000 in
theorem namedRef_con (s : ByteArray) (hs : s.size ≤ 4611686018427387904) : Con Tryz.prog 43 [.string s] [] (γ := Unit) (fun _ => .bool (namedP s)) (fun _ => True) (fun _ => []) := by
  have hbl := ba_len s
  refine con_of Tryz.func43 rfl (dd rfl) fun w0 O0 => ?_
  refine c_seq (c_region ?_)
  refine oV vA ?_
  refine o_nil (c_seq (c_seq (c_region ?_)))
  refine oV vA ?_
  refine o_nil (c_block ?_)
  refine c_loopR (γ := Nat) [(0, _), (2, _)] (fun k => s.size - k) (fun k => k ≤ s.size ∧ ∀ j (h : j < s.data.toList.length), j < k → charP s.data.toList[j] = true) (fun k => [(3, .int .i64 k)]) (fun _ => []) (0) (⟨Nat.zero_le _, fun _ _ h => absurd h (Nat.not_lt_zero _)⟩) (by repeat (first | exact trivial | refine ⟨rfl, ?_⟩)) (eX (by repeat constructor)) ?_
  rintro k ⟨hk, hc⟩ IH
  try dsimp only [List.cons_append, List.nil_append]
  refine c_seq (c_seq (c_region ?_))
  iterate 2 refine oV vM ?_
  refine oV (v_len_str Tryz.underlying9 rfl) ?_
  refine oV (v_lt rfl rfl) ?_
  refine o_nil ?_
  refine c_cond_p rfl (fun hlt => ?_) (fun hlt => ?_)
  · have hk' : k < s.data.toList.length := by omega
    have hsa := sAt_get (B := s) (k := k) hk'
    have hch := charP_eq (s.data.toList[k]'hk') (sAt s k) hsa
    have h256 := UInt8.toNat_lt (s.data.toList[k]'hk')
    refine c_skip (c_seq (c_block (c_seq (c_region ?_))))
    iterate 2 refine oV vM ?_
    refine oV (v_index_str Tryz.underlying9 rfl rfl (by omega)) ?_
    refine oV vA ?_
    refine o_nil (c_seq ?_)
    refine c_env (env' := [(0, _), (2, _), (3, _), (4, _), (5, _), (6, _), (7, _), (8, _), (11, _), (12, _), (13, _)]) (by repeat (first | exact trivial | refine ⟨rfl, ?_⟩)) ?_
    refine c_joinb (d := 45) (decide (¬ charP (s.data.toList[k]'hk') = true)) ?_ ?_
    rotate_left
    · intro J
      refine c_region ?_
      refine oV vM ?_
      refine oV (v_ge rfl rfl) ?_
      refine oV vM ?_
      first | refine o_guard_t rfl rfl (fun g16 => ?_) (fun g16 => ?_) | refine o_guard rfl rfl (fun g16 => ?_) (fun g16 => ?_)
      · refine oV vM ?_
        refine oN ?_
        refine oV (v_le rfl rfl) ?_
        refine oV vT ?_
        refine oV (v_not rfl) ?_
        refine oV vM ?_
        first | refine o_guard_t rfl rfl (fun g21 => ?_) (fun g21 => ?_) | refine o_guard rfl rfl (fun g21 => ?_) (fun g21 => ?_)
        · refine oV vM ?_
          refine oN ?_
          refine oV (v_ge rfl rfl) ?_
          refine oN ?_
          refine oV vM ?_
          first | refine o_guard_t rfl rfl (fun g24 => ?_) (fun g24 => ?_) | refine o_guard rfl rfl (fun g24 => ?_) (fun g24 => ?_)
          · refine oV vM ?_
            refine oN ?_
            refine oV (v_le rfl rfl) ?_
            refine oN ?_
            refine oV vT ?_
            refine oN ?_
            refine oV (v_not rfl) ?_
            refine oV vT ?_
            refine oV vM ?_
            first | refine o_guard_t rfl rfl (fun g30 => ?_) (fun g30 => ?_) | refine o_guard rfl rfl (fun g30 => ?_) (fun g30 => ?_)
            · refine oV vM ?_
              refine oN ?_
              refine oV (v_ne rfl rfl) ?_
              refine oV vT ?_
              refine oV vM ?_
              first | refine o_guard_t rfl rfl (fun g34 => ?_) (fun g34 => ?_) | refine o_guard rfl rfl (fun g34 => ?_) (fun g34 => ?_)
              · refine oV vM ?_
                refine oN ?_
                refine oV (v_ne rfl rfl) ?_
                refine oV vT ?_
                refine oV vM ?_
                first | refine o_guard_t rfl rfl (fun g38 => ?_) (fun g38 => ?_) | refine o_guard rfl rfl (fun g38 => ?_) (fun g38 => ?_)
                · refine oV vM ?_
                  refine oN ?_
                  refine oV (v_ne rfl rfl) ?_
                  refine oV vT ?_
                  refine oV vM ?_
                  first | refine o_guard_t rfl rfl (fun g42 => ?_) (fun g42 => ?_) | refine o_guard rfl rfl (fun g42 => ?_) (fun g42 => ?_)
                  · refine oV vM ?_
                    refine oN ?_
                    refine oV (v_ne rfl rfl) ?_
                    refine oV vT ?_
                    refine o_nil ?_
                    exact cJ J rfl (by clear IH hc hsa h256; rw [hch]; first | (simp_all; done) | (simp_all; omega) | (simp_all; rw [Bool.eq_iff_iff]; simp only [Bool.or_eq_true, Bool.and_eq_true, Bool.not_eq_true', decide_eq_true_eq, decide_eq_false_iff_not]; omega))
                  · refine oX ?_
                    refine oX ?_
                    refine oV vQ ?_
                    refine o_nil ?_
                    exact cJ J rfl (by clear IH hc hsa h256; rw [hch]; first | (simp_all; done) | (simp_all; omega) | (simp_all; rw [Bool.eq_iff_iff]; simp only [Bool.or_eq_true, Bool.and_eq_true, Bool.not_eq_true', decide_eq_true_eq, decide_eq_false_iff_not]; omega))
                · refine oX ?_
                  refine oX ?_
                  refine oV vQ ?_
                  refine oV vM ?_
                  iterate 2 refine oX ?_
                  refine oV vQ ?_
                  refine o_nil ?_
                  exact cJ J rfl (by clear IH hc hsa h256; rw [hch]; first | (simp_all; done) | (simp_all; omega) | (simp_all; rw [Bool.eq_iff_iff]; simp only [Bool.or_eq_true, Bool.and_eq_true, Bool.not_eq_true', decide_eq_true_eq, decide_eq_false_iff_not]; omega))
              · refine oX ?_
                refine oX ?_
                refine oV vQ ?_
                refine oV vM ?_
                iterate 2 refine oX ?_
                refine oV vQ ?_
                refine oV vM ?_
                iterate 2 refine oX ?_
                refine oV vQ ?_
                refine o_nil ?_
                exact cJ J rfl (by clear IH hc hsa h256; rw [hch]; first | (simp_all; done) | (simp_all; omega) | (simp_all; rw [Bool.eq_iff_iff]; simp only [Bool.or_eq_true, Bool.and_eq_true, Bool.not_eq_true', decide_eq_true_eq, decide_eq_false_iff_not]; omega))
            · refine oX ?_
              refine oX ?_
              refine oV vQ ?_
              refine oV vM ?_
              iterate 2 refine oX ?_
              refine oV vQ ?_
              refine oV vM ?_
              iterate 2 refine oX ?_
              refine oV vQ ?_
              refine oV vM ?_
              iterate 2 refine oX ?_
              refine oV vQ ?_
              refine o_nil ?_
              exact cJ J rfl (by clear IH hc hsa h256; rw [hch]; first | (simp_all; done) | (simp_all; omega) | (simp_all; rw [Bool.eq_iff_iff]; simp only [Bool.or_eq_true, Bool.and_eq_true, Bool.not_eq_true', decide_eq_true_eq, decide_eq_false_iff_not]; omega))
          · refine oX ?_
            refine oX ?_
            refine oN ?_
            refine oV vQ ?_
            refine oN ?_
            refine oV (v_not rfl) ?_
            refine oV vT ?_
            refine oV vM ?_
            refine oN ?_
            refine oV vM ?_
            refine oN ?_
            refine oV (v_ne rfl rfl) ?_
            refine oV vT ?_
            refine oV vM ?_
            first | refine o_guard_t rfl rfl (fun g34 => ?_) (fun g34 => ?_) | refine o_guard rfl rfl (fun g34 => ?_) (fun g34 => ?_)
            · refine oV vM ?_
              refine oN ?_
              refine oV (v_ne rfl rfl) ?_
              refine oV vT ?_
              refine oV vM ?_
              first | refine o_guard_t rfl rfl (fun g38 => ?_) (fun g38 => ?_) | refine o_guard rfl rfl (fun g38 => ?_) (fun g38 => ?_)
              · refine oV vM ?_
                refine oN ?_
                refine oV (v_ne rfl rfl) ?_
                refine oV vT ?_
                refine oV vM ?_
                first | refine o_guard_t rfl rfl (fun g42 => ?_) (fun g42 => ?_) | refine o_guard rfl rfl (fun g42 => ?_) (fun g42 => ?_)
                · refine oV vM ?_
                  refine oN ?_
                  refine oV (v_ne rfl rfl) ?_
                  refine oV vT ?_
                  refine o_nil ?_
                  exact cJ J rfl (by clear IH hc hsa h256; rw [hch]; first | (simp_all; done) | (simp_all; omega) | (simp_all; rw [Bool.eq_iff_iff]; simp only [Bool.or_eq_true, Bool.and_eq_true, Bool.not_eq_true', decide_eq_true_eq, decide_eq_false_iff_not]; omega))
                · refine oX ?_
                  refine oX ?_
                  refine oV vQ ?_
                  refine o_nil ?_
                  exact cJ J rfl (by clear IH hc hsa h256; rw [hch]; first | (simp_all; done) | (simp_all; omega) | (simp_all; rw [Bool.eq_iff_iff]; simp only [Bool.or_eq_true, Bool.and_eq_true, Bool.not_eq_true', decide_eq_true_eq, decide_eq_false_iff_not]; omega))
              · refine oX ?_
                refine oX ?_
                refine oV vQ ?_
                refine oV vM ?_
                iterate 2 refine oX ?_
                refine oV vQ ?_
                refine o_nil ?_
                exact cJ J rfl (by clear IH hc hsa h256; rw [hch]; first | (simp_all; done) | (simp_all; omega) | (simp_all; rw [Bool.eq_iff_iff]; simp only [Bool.or_eq_true, Bool.and_eq_true, Bool.not_eq_true', decide_eq_true_eq, decide_eq_false_iff_not]; omega))
            · refine oX ?_
              refine oX ?_
              refine oV vQ ?_
              refine oV vM ?_
              iterate 2 refine oX ?_
              refine oV vQ ?_
              refine oV vM ?_
              iterate 2 refine oX ?_
              refine oV vQ ?_
              refine o_nil ?_
              exact cJ J rfl (by clear IH hc hsa h256; rw [hch]; first | (simp_all; done) | (simp_all; omega) | (simp_all; rw [Bool.eq_iff_iff]; simp only [Bool.or_eq_true, Bool.and_eq_true, Bool.not_eq_true', decide_eq_true_eq, decide_eq_false_iff_not]; omega))
        · refine oX ?_
          iterate 2 refine oX ?_
          iterate 2 refine oU ?_
          iterate 2 refine oX ?_
          refine oV vQ ?_
          refine oV vM ?_
          iterate 2 refine oX ?_
          refine oV vQ ?_
          refine oV vM ?_
          iterate 2 refine oX ?_
          refine oV vQ ?_
          refine oV vM ?_
          iterate 2 refine oX ?_
          refine oV vQ ?_
          refine oV vM ?_
          iterate 2 refine oX ?_
          refine oV vQ ?_
          refine o_nil ?_
          exact cJ J rfl (by clear IH hc hsa h256; rw [hch]; first | (simp_all; done) | (simp_all; omega) | (simp_all; rw [Bool.eq_iff_iff]; simp only [Bool.or_eq_true, Bool.and_eq_true, Bool.not_eq_true', decide_eq_true_eq, decide_eq_false_iff_not]; omega))
      · refine oX ?_
        refine oX ?_
        refine oV vQ ?_
        refine oV (v_not rfl) ?_
        refine oV vM ?_
        refine oN ?_
        refine oV vM ?_
        refine oN ?_
        refine oV (v_ge rfl rfl) ?_
        refine oN ?_
        refine oV vM ?_
        first | refine o_guard_t rfl rfl (fun g24 => ?_) (fun g24 => ?_) | refine o_guard rfl rfl (fun g24 => ?_) (fun g24 => ?_)
        · refine oV vM ?_
          refine oN ?_
          refine oV (v_le rfl rfl) ?_
          refine oN ?_
          refine oV vT ?_
          refine oN ?_
          refine oV (v_not rfl) ?_
          refine oV vT ?_
          refine oV vM ?_
          first | refine o_guard_t rfl rfl (fun g30 => ?_) (fun g30 => ?_) | refine o_guard rfl rfl (fun g30 => ?_) (fun g30 => ?_)
          · refine oV vM ?_
            refine oN ?_
            refine oV (v_ne rfl rfl) ?_
            refine oV vT ?_
            refine oV vM ?_
            first | refine o_guard_t rfl rfl (fun g34 => ?_) (fun g34 => ?_) | refine o_guard rfl rfl (fun g34 => ?_) (fun g34 => ?_)
            · refine oV vM ?_
              refine oN ?_
              refine oV (v_ne rfl rfl) ?_
              refine oV vT ?_
              refine oV vM ?_
              first | refine o_guard_t rfl rfl (fun g38 => ?_) (fun g38 => ?_) | refine o_guard rfl rfl (fun g38 => ?_) (fun g38 => ?_)
              · refine oV vM ?_
                refine oN ?_
                refine oV (v_ne rfl rfl) ?_
                refine oV vT ?_
                refine oV vM ?_
                first | refine o_guard_t rfl rfl (fun g42 => ?_) (fun g42 => ?_) | refine o_guard rfl rfl (fun g42 => ?_) (fun g42 => ?_)
                · refine oV vM ?_
                  refine oN ?_
                  refine oV (v_ne rfl rfl) ?_
                  refine oV vT ?_
                  refine o_nil ?_
                  exact cJ J rfl (by clear IH hc hsa h256; rw [hch]; first | (simp_all; done) | (simp_all; omega) | (simp_all; rw [Bool.eq_iff_iff]; simp only [Bool.or_eq_true, Bool.and_eq_true, Bool.not_eq_true', decide_eq_true_eq, decide_eq_false_iff_not]; omega))
                · refine oX ?_
                  refine oX ?_
                  refine oV vQ ?_
                  refine o_nil ?_
                  exact cJ J rfl (by clear IH hc hsa h256; rw [hch]; first | (simp_all; done) | (simp_all; omega) | (simp_all; rw [Bool.eq_iff_iff]; simp only [Bool.or_eq_true, Bool.and_eq_true, Bool.not_eq_true', decide_eq_true_eq, decide_eq_false_iff_not]; omega))
              · refine oX ?_
                refine oX ?_
                refine oV vQ ?_
                refine oV vM ?_
                iterate 2 refine oX ?_
                refine oV vQ ?_
                refine o_nil ?_
                exact cJ J rfl (by clear IH hc hsa h256; rw [hch]; first | (simp_all; done) | (simp_all; omega) | (simp_all; rw [Bool.eq_iff_iff]; simp only [Bool.or_eq_true, Bool.and_eq_true, Bool.not_eq_true', decide_eq_true_eq, decide_eq_false_iff_not]; omega))
            · refine oX ?_
              refine oX ?_
              refine oV vQ ?_
              refine oV vM ?_
              iterate 2 refine oX ?_
              refine oV vQ ?_
              refine oV vM ?_
              iterate 2 refine oX ?_
              refine oV vQ ?_
              refine o_nil ?_
              exact cJ J rfl (by clear IH hc hsa h256; rw [hch]; first | (simp_all; done) | (simp_all; omega) | (simp_all; rw [Bool.eq_iff_iff]; simp only [Bool.or_eq_true, Bool.and_eq_true, Bool.not_eq_true', decide_eq_true_eq, decide_eq_false_iff_not]; omega))
          · refine oX ?_
            refine oX ?_
            refine oV vQ ?_
            refine oV vM ?_
            iterate 2 refine oX ?_
            refine oV vQ ?_
            refine oV vM ?_
            iterate 2 refine oX ?_
            refine oV vQ ?_
            refine oV vM ?_
            iterate 2 refine oX ?_
            refine oV vQ ?_
            refine o_nil ?_
            exact cJ J rfl (by clear IH hc hsa h256; rw [hch]; first | (simp_all; done) | (simp_all; omega) | (simp_all; rw [Bool.eq_iff_iff]; simp only [Bool.or_eq_true, Bool.and_eq_true, Bool.not_eq_true', decide_eq_true_eq, decide_eq_false_iff_not]; omega))
        · refine oX ?_
          refine oX ?_
          refine oN ?_
          refine oV vQ ?_
          refine oN ?_
          refine oV (v_not rfl) ?_
          refine oV vT ?_
          refine oV vM ?_
          refine oN ?_
          refine oV vM ?_
          refine oN ?_
          refine oV (v_ne rfl rfl) ?_
          refine oV vT ?_
          refine oV vM ?_
          first | refine o_guard_t rfl rfl (fun g34 => ?_) (fun g34 => ?_) | refine o_guard rfl rfl (fun g34 => ?_) (fun g34 => ?_)
          · refine oV vM ?_
            refine oN ?_
            refine oV (v_ne rfl rfl) ?_
            refine oV vT ?_
            refine oV vM ?_
            first | refine o_guard_t rfl rfl (fun g38 => ?_) (fun g38 => ?_) | refine o_guard rfl rfl (fun g38 => ?_) (fun g38 => ?_)
            · refine oV vM ?_
              refine oN ?_
              refine oV (v_ne rfl rfl) ?_
              refine oV vT ?_
              refine oV vM ?_
              first | refine o_guard_t rfl rfl (fun g42 => ?_) (fun g42 => ?_) | refine o_guard rfl rfl (fun g42 => ?_) (fun g42 => ?_)
              · refine oV vM ?_
                refine oN ?_
                refine oV (v_ne rfl rfl) ?_
                refine oV vT ?_
                refine o_nil ?_
                exact cJ J rfl (by clear IH hc hsa h256; rw [hch]; first | (simp_all; done) | (simp_all; omega) | (simp_all; rw [Bool.eq_iff_iff]; simp only [Bool.or_eq_true, Bool.and_eq_true, Bool.not_eq_true', decide_eq_true_eq, decide_eq_false_iff_not]; omega))
              · refine oX ?_
                refine oX ?_
                refine oV vQ ?_
                refine o_nil ?_
                exact cJ J rfl (by clear IH hc hsa h256; rw [hch]; first | (simp_all; done) | (simp_all; omega) | (simp_all; rw [Bool.eq_iff_iff]; simp only [Bool.or_eq_true, Bool.and_eq_true, Bool.not_eq_true', decide_eq_true_eq, decide_eq_false_iff_not]; omega))
            · refine oX ?_
              refine oX ?_
              refine oV vQ ?_
              refine oV vM ?_
              iterate 2 refine oX ?_
              refine oV vQ ?_
              refine o_nil ?_
              exact cJ J rfl (by clear IH hc hsa h256; rw [hch]; first | (simp_all; done) | (simp_all; omega) | (simp_all; rw [Bool.eq_iff_iff]; simp only [Bool.or_eq_true, Bool.and_eq_true, Bool.not_eq_true', decide_eq_true_eq, decide_eq_false_iff_not]; omega))
          · refine oX ?_
            refine oX ?_
            refine oV vQ ?_
            refine oV vM ?_
            iterate 2 refine oX ?_
            refine oV vQ ?_
            refine oV vM ?_
            iterate 2 refine oX ?_
            refine oV vQ ?_
            refine o_nil ?_
            exact cJ J rfl (by clear IH hc hsa h256; rw [hch]; first | (simp_all; done) | (simp_all; omega) | (simp_all; rw [Bool.eq_iff_iff]; simp only [Bool.or_eq_true, Bool.and_eq_true, Bool.not_eq_true', decide_eq_true_eq, decide_eq_false_iff_not]; omega))
    refine c_cond_p rfl (fun hn => ?_) (fun hn => ?_)
    · refine c_seq (c_region ?_)
      refine oV vA ?_
      refine o_nil ?_
      refine c_ret1 Tryz.func43 rfl rfl fun w O hS => ?_
      refine ⟨(), ?_, trivial, trivial⟩
      unfold namedP
      rw [show s.data.toList.all charP = false from List.all_eq_false.2 ⟨_, List.getElem_mem hk', hn⟩, Bool.and_false]
    · refine c_skip (c_inBlock (c_region ?_))
      refine oV vM ?_
      refine oV ((by first | exact v_add64 rfl rfl (by omega) | exact v_add rfl rfl)) ?_
      refine oV vA ?_
      refine o_nil ?_
      refine cU (IH (k + 1) (by first | omega | (dsimp only; omega)) (⟨by omega, fun j h h1 => (Nat.lt_succ_iff_lt_or_eq.1 h1).elim (hc j h) fun q => by subst q; exact Classical.not_not.1 hn⟩))
  · have hall : s.data.toList.all charP = true := List.all_eq_true.2 fun x hx => by
      obtain ⟨j, hj, rfl⟩ := List.mem_iff_getElem.1 hx
      exact hc j hj (by omega)
    refine c_exit rfl ?_
    refine c_seq (c_region ?_)
    refine oV vM ?_
    refine oV (v_len_str Tryz.underlying9 rfl) ?_
    refine oV (v_ge rfl rfl) ?_
    refine oV vM ?_
    refine o_guard_t rfl rfl (fun h1 => ?_) (fun h1 => ?_)
    · refine oV vM ?_
      refine oN ?_
      refine oV (v_len_str Tryz.underlying9 rfl) ?_
      refine oN ?_
      refine oV (v_le rfl rfl) ?_
      refine oV vT ?_
      refine oV vA ?_
      refine o_nil ?_
      refine c_ret1 Tryz.func43 rfl rfl fun w O hS => ?_
      refine ⟨(), ?_, trivial, trivial⟩
      unfold namedP
      rw [hall, Bool.and_true, decide_eq_true (p := 1 ≤ s.size) (by omega), Bool.true_and]
      exact congrArg Value.bool (decide_eq_decide.2 ⟨fun h => by omega, fun h => by omega⟩)
    · refine oX ?_
      iterate 2 refine oX ?_
      refine oV vQ ?_
      refine oV vA ?_
      refine o_nil ?_
      refine c_ret1 Tryz.func43 rfl rfl fun w O hS => ?_
      refine ⟨(), ?_, trivial, trivial⟩
      unfold namedP
      rw [decide_eq_false (p := 1 ≤ s.size) (by omega)]; rfl
end Go.Proofs.YtlfehnnmpkohkaaGreatDoor
/- Chapter 09: sizes of what is read. -/
namespace Go.Proofs.YtlfehnnmpkohkaaGreatDoor
open Go Go.Lib
abbrev big9 : Nat := 1000000
theorem text_ok {most : Int} {s : St9} (h : s.1.length ≤ big9) : (takeText most s).2.size ≤ big9 := by
  unfold takeText
  split
  · split
    · show (sB _).size ≤ _
      rw [sB_size, List.length_take, List.length_drop]; omega
    · exact Nat.zero_le _
  · exact Nat.zero_le _
theorem goes_len {α : Type} {take : St9 → St9 × α} (hg : GoesP take) (s : St9) : (take s).1.1.length ≤ s.1.length := by
  obtain ⟨j, _, e⟩ := hg s
  rw [e, List.length_drop]; omega
theorem many_ok {α : Type} {take : St9 → St9 × α} {ok : α → Prop} (hg : GoesP take) (ho : ∀ s, s.1.length ≤ big9 → ok (take s).2) : ∀ (k : Nat) (s : St9) (out : List α), s.1.length ≤ big9 → (∀ x ∈ out, ok x) → ∀ x ∈ (takeMany take k s out).2, ok x
  | 0, s, out, _, h => h
  | k + 1, s, out, hs, h => by
    rw [takeMany]
    split
    · exact h
    · refine many_ok hg ho k _ _ (Nat.le_trans (goes_len hg s) hs) fun x hx => ?_
      rcases List.mem_append.1 hx with h1 | h1
      · exact h x h1
      · rw [List.mem_singleton.1 h1]; exact ho s hs
theorem many_len {α : Type} {take : St9 → St9 × α} : ∀ (k : Nat) (s : St9) (out : List α), (takeMany take k s out).2.length ≤ out.length + k
  | 0, s, out => Nat.le_refl _
  | k + 1, s, out => by
    rw [takeMany]
    split
    · dsimp only; omega
    · have := many_len (take := take) k (take s).1 (out ++ [(take s).2])
      rw [List.length_append] at this
      simp only [List.length_cons, List.length_nil] at this
      omega
theorem some_ok {α : Type} {take : St9 → St9 × α} {ok : α → Prop} (hg : GoesP take) (ho : ∀ s, s.1.length ≤ big9 → ok (take s).2) {most : Int} {s : St9} (hs : s.1.length ≤ big9) : ∀ x ∈ (takeSome take most s).2, ok x := by
  unfold takeSome
  split
  · exact fun x hx => by cases hx
  · split
    · exact fun x hx => by cases hx
    · exact many_ok hg ho _ _ _ (Nat.le_trans (goes_len goes_num s) hs) fun x hx => by cases hx
theorem some_len {α : Type} {take : St9 → St9 × α} {most : Int} {s : St9} {n : Nat} (hn : most ≤ n) : (takeSome take most s).2.length ≤ n := by
  unfold takeSome
  split
  · exact Nat.zero_le _
  · split
    · exact Nat.zero_le _
    · have := many_len (take := take) (takeNum s).2.toNat (takeNum s).1 []
      simp only [List.length_nil] at this
      omega
/-- Sizes at which a change is looked at. -/
def SizeP (p : Pr9) : Prop := p.2.1.size ≤ 1000000 ∧ p.2.2.1.size ≤ 1000000 ∧ (p.2.2.2.2.1.length ≤ 1000000 ∧ ∀ x ∈ p.2.2.2.2.1, x.size ≤ 1000000) ∧ p.2.2.2.2.2.length ≤ 1000000 ∧ ∀ x ∈ p.2.2.2.2.2, x.size ≤ 1000000
theorem raw_ok {s : St9} (h : s.1.length ≤ big9) : SizeP (rawPrim s).2 := by
  have h1 := Nat.le_trans (goes_len goes_num s) h
  have h2 := Nat.le_trans (goes_len (goes_text 24) (takeNum s).1) h1
  have h3 := Nat.le_trans (goes_len (goes_text 24) (takeText 24 (takeNum s).1).1) h2
  have h4 := Nat.le_trans (goes_len goes_num (takeText 24 (takeText 24 (takeNum s).1).1).1) h3
  have h5 := Nat.le_trans (goes_len (goes_some (goes_text 60) (takeNum (takeText 24 (takeText 24 (takeNum s).1).1).1).1.1.length) (takeNum (takeText 24 (takeText 24 (takeNum s).1).1).1).1) h4
  have ho : ∀ s : St9, s.1.length ≤ big9 → (takeText 60 s).2.size ≤ big9 := fun s hs => text_ok hs
  unfold SizeP rawPrim
  exact ⟨text_ok h1, text_ok h2, ⟨some_len (by exact_mod_cast h4), some_ok (goes_text 60) ho h4⟩, some_len (by exact_mod_cast h5), some_ok (goes_text 60) ho h5⟩
theorem pr0_ok : SizeP pr0 := ⟨Nat.zero_le _, Nat.zero_le _, ⟨Nat.zero_le _, fun _ h => by cases h⟩, Nat.zero_le _, fun _ h => by cases h⟩
theorem prim_ok {s : St9} (h : s.1.length ≤ big9) : SizeP (takePrim s).2 := by
  unfold takePrim
  split
  · exact pr0_ok
  · exact raw_ok h
end Go.Proofs.YtlfehnnmpkohkaaGreatDoor
/- Chapter 09: which changes and patches may be, as the document says it. -/
namespace Go.Proofs.YtlfehnnmpkohkaaGreatDoor
open Go Go.SL Go.Lib L01
theorem ba_none {t : ByteArray} : t = ⟨#[]⟩ ↔ t.size = 0 := ⟨fun h => by subst h; rfl, fun h => by
  apply ByteArray.ext
  apply Array.ext'
  have := ba_len t
  exact List.length_eq_zero_iff.1 (by omega)⟩
attribute [local irreducible] Cfg Kont StepK Val Con Qops Any Sl Own Blk BlkR Rd Pu ExA AllA Has Pick Ent Elem Beside Callable TI Lone OwnO AndA
set_option maxRecDepth 100000 in
theorem rightRef_con (p : Pr9) (ov wv : Value) (hp : SizeP p) : Con Tryz.prog 104 [.agg #[.int .i64 p.1, .string p.2.1, .string p.2.2.1, .int .i64 p.2.2.2.1, ov, wv]] [Sl eStr ov p.2.2.2.2.1, Sl eStr wv p.2.2.2.2.2] (γ := Unit) (fun _ => .bool (rightP p)) (fun _ => True) (fun _ => []) := by
  obtain ⟨k, n, t, a, o, w⟩ := p
  obtain ⟨hn, ht, ⟨ho, hoe⟩, hw, hwe⟩ := hp
  dsimp only at hn ht ho hoe hw hwe ⊢
  have hN := namedRef_con n (by omega)
  have hT := namedRef_con t (by omega)
  have hO := all_ref_con ov o ho hoe
  have hW := all_ref_con wv w hw hwe
  have hOW := same_ref_con ov wv o w ho hw
  rw [all_line] at hO hW
  have htn := ba_none (t := t)
  refine con_of Tryz.func104 rfl (dd rfl) fun w0 O0 => ?_
  refine c_seq (c_region ?_)
  refine o_step (s_box rfl (dd rfl) (fun b1 => ?_))
  refine oV vA ?_
  refine o_nil (c_seq (c_seq ?_))
  refine c_env (env' := [(1, _), (2, _)]) (by repeat (first | exact trivial | refine ⟨rfl, ?_⟩)) ?_
  refine c_joinb (d := 16) (decide (¬ namedP n = true ∨ k < 0 ∨ 3 < k)) ?_ ?_
  rotate_left
  · intro J
    refine c_region ?_
    refine oV (vF 1 Tryz.underlying129 ti9) ?_
    refine oV (vL lone9) ?_
    refine o_step (s_callf_keep cl43 (hN) rfl (dd rfl) (rX (by repeat constructor)) (fun _ => sX) (fun _ _ => ?_))
    refine oV (v_not rfl) ?_
    refine oV vM ?_
    first | refine o_guard_f rfl rfl (fun g7 => ?_) (fun g7 => ?_) | refine o_guard rfl rfl (fun g7 => ?_) (fun g7 => ?_)
    · refine oV (vF 0 Tryz.underlying129 ti3) ?_
      refine oN ?_
      refine oV (vL lone3) ?_
      refine oN ?_
      refine oV (v_lt rfl rfl) ?_
      refine oV vQ ?_
      refine oV vM ?_
      first | refine o_guard_f rfl rfl (fun g12 => ?_) (fun g12 => ?_) | refine o_guard rfl rfl (fun g12 => ?_) (fun g12 => ?_)
      · refine oV (vF 0 Tryz.underlying129 ti3) ?_
        refine oN ?_
        refine oV (vL lone3) ?_
        refine oN ?_
        refine oV (v_gt rfl rfl) ?_
        refine oV vQ ?_
        refine o_nil ?_
        exact cJ J rfl (by first | rfl | (simp_all; done) | (simp_all; omega) | (simp; omega))
      · refine oX ?_
        iterate 2 refine oX ?_
        refine oV vT ?_
        refine o_nil ?_
        exact cJ J rfl (by first | rfl | (simp_all; done) | (simp_all; omega) | (simp; omega))
    · refine oX ?_
      iterate 2 refine oX ?_
      refine oV vT ?_
      refine oV vM ?_
      iterate 3 refine oX ?_
      refine oV vT ?_
      refine o_nil ?_
      exact cJ J rfl (by first | rfl | (simp_all; done) | (simp_all; omega) | (simp; omega))
  refine c_cond_p rfl (fun h1 => ?_) (fun h1 => ?_)
  · have hR : rightP (k, n, t, a, o, w) = false := by
      unfold rightP bareP
      dsimp only
      rcases h1 with h | h
      · rw [show namedP n = false by simpa using h, Bool.false_and]
      · rw [if_neg (by omega), if_neg (by omega), decide_eq_false (p := k = 1) (by omega), decide_eq_false (p := k = 2) (by omega)]
        simp
    refine c_seq (c_region ?_)
    refine oV vA ?_
    refine o_nil ?_
    refine c_ret1 Tryz.func104 rfl rfl fun w O hS => ?_
    exact ⟨(), by rw [hR], trivial, trivial⟩
  · have hnn : namedP n = true := Classical.not_not.1 fun h => h1 (.inl h)
    refine c_skip (c_seq (c_seq (c_region ?_)))
    refine oV (vF 0 Tryz.underlying129 ti3) ?_
    refine oV (vL lone3) ?_
    refine oV (v_eq rfl rfl) ?_
    refine o_nil ?_
    refine c_cond_p rfl (fun h0 => ?_) (fun h0 => ?_)
    · refine c_seq (c_seq ?_)
      refine c_env (env' := [(1, _), (2, _)]) (by repeat (first | exact trivial | refine ⟨rfl, ?_⟩)) ?_
      refine c_joinb (d := 32) (decide (t.size ≠ 0 ∨ a < 0 ∨ 1048576 < a)) ?_ ?_
      rotate_left
      · intro J
        refine c_region ?_
        refine oV (vF 2 Tryz.underlying129 ti9) ?_
        refine oV (vL lone9) ?_
        refine oV (v_sne rfl rfl) ?_
        refine oV vM ?_
        first | refine o_guard_f rfl rfl (fun g23 => ?_) (fun g23 => ?_) | refine o_guard rfl rfl (fun g23 => ?_) (fun g23 => ?_)
        · refine oV (vF 3 Tryz.underlying129 ti3) ?_
          refine oN ?_
          refine oV (vL lone3) ?_
          refine oN ?_
          refine oV (v_lt rfl rfl) ?_
          refine oV vQ ?_
          refine oV vM ?_
          first | refine o_guard_f rfl rfl (fun g28 => ?_) (fun g28 => ?_) | refine o_guard rfl rfl (fun g28 => ?_) (fun g28 => ?_)
          · refine oV (vF 3 Tryz.underlying129 ti3) ?_
            refine oN ?_
            refine oV (vL lone3) ?_
            refine oN ?_
            refine oV (v_gt rfl rfl) ?_
            refine oV vQ ?_
            refine o_nil ?_
            exact cJ J rfl (by first | rfl | (simp_all; done) | (simp_all; omega) | (simp; omega))
          · refine oX ?_
            iterate 2 refine oX ?_
            refine oV vT ?_
            refine o_nil ?_
            exact cJ J rfl (by first | rfl | (simp_all; done) | (simp_all; omega) | (simp; omega))
        · refine oX ?_
          iterate 2 refine oX ?_
          refine oV vT ?_
          refine oV vM ?_
          iterate 3 refine oX ?_
          refine oV vT ?_
          refine o_nil ?_
          exact cJ J rfl (by first | rfl | (simp_all; done) | (simp_all; omega) | (simp; omega))
      refine c_cond_p rfl (fun h2 => ?_) (fun h2 => ?_)
      · have hR : rightP (k, n, t, a, o, w) = false := by
          unfold rightP
          dsimp only
          rw [if_pos h0, hnn, Bool.true_and]
          rcases h2 with h | h | h
          · rw [decide_eq_false h]; simp
          · rw [decide_eq_false (p := 0 ≤ a) (by omega)]; simp
          · rw [decide_eq_false (p := a ≤ 1048576) (by omega)]; simp
        refine c_seq (c_region ?_)
        refine oV vA ?_
        refine o_nil ?_
        refine c_ret1 Tryz.func104 rfl rfl fun w O hS => ?_
        exact ⟨(), by rw [hR], trivial, trivial⟩
      · have hR : rightP (k, n, t, a, o, w) = (o.all lineP && w.all lineP && decide (o ≠ w)) := by
          unfold rightP
          dsimp only
          rw [if_pos h0, hnn, Bool.true_and, decide_eq_true (p := t.size = 0) (by omega), decide_eq_true (p := 0 ≤ a) (by omega), decide_eq_true (p := a ≤ 1048576) (by omega)]
          simp only [Bool.true_and]
        refine c_skip (c_seq (c_region ?_))
        refine oV (vF 4 Tryz.underlying129 ti23) ?_
        refine oV (vL lone23) ?_
        refine o_step (s_callf_keep cl135 (hO) rfl (dd rfl) (rX (by repeat constructor)) (fun _ => sX) (fun _ _ => ?_))
        refine oV vM ?_
        refine o_guard rfl rfl (fun g1 => ?_) (fun g1 => ?_)
        · refine oV (vF 5 Tryz.underlying129 ti23) ?_
          refine oN ?_
          refine oV (vL lone23) ?_
          refine oN ?_
          refine o_step (s_callf_keep cl135 (hW) rfl (dd rfl) (rX (by repeat constructor)) (fun _ => sX) (fun _ _ => ?_))
          refine oV vT ?_
          refine oV vM ?_
          refine o_guard rfl rfl (fun g2 => ?_) (fun g2 => ?_)
          · refine oV (vF 4 Tryz.underlying129 ti23) ?_
            refine oN ?_
            refine oV (vL lone23) ?_
            refine oN ?_
            refine oV (vF 5 Tryz.underlying129 ti23) ?_
            refine oN ?_
            refine oV (vL lone23) ?_
            refine oN ?_
            refine o_step (s_callf_keep cl49 (hOW) rfl (dd rfl) (rX (by repeat constructor)) (fun _ => sX) (fun _ _ => ?_))
            refine oN ?_
            refine oV (v_not rfl) ?_
            refine oV vT ?_
            refine oV vA ?_
            refine o_nil ?_
            refine c_ret1 Tryz.func104 rfl rfl fun w O hS => ?_
            exact ⟨(), by rw [hR, g1, g2]; simp, trivial, trivial⟩
          · refine oX ?_
            iterate 5 refine oX ?_
            refine oV vQ ?_
            refine oV vA ?_
            refine o_nil ?_
            refine c_ret1 Tryz.func104 rfl rfl fun w O hS => ?_
            exact ⟨(), by rw [hR, g1, g2]; rfl, trivial, trivial⟩
        · refine oX ?_
          iterate 2 refine oX ?_
          refine oV vQ ?_
          refine oV vM ?_
          iterate 6 refine oX ?_
          refine oV vQ ?_
          refine oV vA ?_
          refine o_nil ?_
          refine c_ret1 Tryz.func104 rfl rfl fun w O hS => ?_
          exact ⟨(), by rw [hR, g1]; rfl, trivial, trivial⟩
    · refine c_skip (c_seq (c_seq ?_))
      refine c_env (env' := [(1, _), (2, _)]) (by repeat (first | exact trivial | refine ⟨rfl, ?_⟩)) ?_
      refine c_joinb (d := 63) (decide (a ≠ 0 ∨ 0 < o.length ∨ 0 < w.length)) ?_ ?_
      rotate_left
      · intro J
        refine c_region ?_
        refine oV (vF 3 Tryz.underlying129 ti3) ?_
        refine oV (vL lone3) ?_
        refine oV (v_ne rfl rfl) ?_
        refine oV vM ?_
        first | refine o_guard_f rfl rfl (fun g52 => ?_) (fun g52 => ?_) | refine o_guard rfl rfl (fun g52 => ?_) (fun g52 => ?_)
        · refine oV (vF 4 Tryz.underlying129 ti23) ?_
          refine oN ?_
          refine oV (vL lone23) ?_
          refine oN ?_
          refine oV ((by first | exact v_len_form Tryz.underlying23 rfl | exact v_len_sl Tryz.underlying23 rfl (hX (by repeat constructor)))) ?_
          refine oN ?_
          refine oV (v_gt rfl rfl) ?_
          refine oV vQ ?_
          refine oV vM ?_
          first | refine o_guard_f rfl rfl (fun g58 => ?_) (fun g58 => ?_) | refine o_guard rfl rfl (fun g58 => ?_) (fun g58 => ?_)
          · refine oV (vF 5 Tryz.underlying129 ti23) ?_
            refine oN ?_
            refine oV (vL lone23) ?_
            refine oN ?_
            refine oV ((by first | exact v_len_form Tryz.underlying23 rfl | exact v_len_sl Tryz.underlying23 rfl (hX (by repeat constructor)))) ?_
            refine oN ?_
            refine oV (v_gt rfl rfl) ?_
            refine oV vQ ?_
            refine o_nil ?_
            exact cJ J rfl (by first | rfl | (simp_all; done) | (simp_all; omega) | (simp; omega))
          · refine oX ?_
            iterate 3 refine oX ?_
            refine oV vT ?_
            refine o_nil ?_
            exact cJ J rfl (by first | rfl | (simp_all; done) | (simp_all; omega) | (simp; omega))
        · refine oX ?_
          iterate 3 refine oX ?_
          refine oV vT ?_
          refine oV vM ?_
          iterate 4 refine oX ?_
          refine oV vT ?_
          refine o_nil ?_
          exact cJ J rfl (by first | rfl | (simp_all; done) | (simp_all; omega) | (simp; omega))
      refine c_cond_p rfl (fun h3 => ?_) (fun h3 => ?_)
      · have hR : rightP (k, n, t, a, o, w) = false := by
          unfold rightP bareP
          dsimp only
          rw [if_neg h0, hnn, Bool.true_and]
          rcases h3 with h | h | h
          · rw [decide_eq_false (p := a = 0) h]; simp
          · rw [decide_eq_false (p := o.length = 0) (by omega)]; simp
          · rw [decide_eq_false (p := w.length = 0) (by omega)]; simp
        refine c_seq (c_region ?_)
        refine oV vA ?_
        refine o_nil ?_
        refine c_ret1 Tryz.func104 rfl rfl fun w O hS => ?_
        exact ⟨(), by rw [hR], trivial, trivial⟩
      · have hB : bareP (k, n, t, a, o, w) = true := by
          unfold bareP
          dsimp only
          rw [decide_eq_true (p := a = 0) (by omega), decide_eq_true (p := o.length = 0) (by omega), decide_eq_true (p := w.length = 0) (by omega)]; rfl
        refine c_skip (c_seq (c_seq (c_region ?_)))
        refine oV (vF 0 Tryz.underlying129 ti3) ?_
        refine oV (vL lone3) ?_
        refine oV (v_eq rfl rfl) ?_
        refine o_nil ?_
        refine c_cond_p rfl (fun h4 => ?_) (fun h4 => ?_)
        · have hR : rightP (k, n, t, a, o, w) = (namedP t && decide (t ≠ n)) := by
            unfold rightP
            dsimp only
            rw [if_neg h0, if_pos h4, hnn, hB]
            simp only [Bool.true_and]
          refine c_seq (c_region ?_)
          refine oV (vF 2 Tryz.underlying129 ti9) ?_
          refine oV (vL lone9) ?_
          refine o_step (s_callf_keep cl43 (hT) rfl (dd rfl) (rX (by repeat constructor)) (fun _ => sX) (fun _ _ => ?_))
          refine oV vM ?_
          refine o_guard rfl rfl (fun g1 => ?_) (fun g1 => ?_)
          · refine oV (vF 2 Tryz.underlying129 ti9) ?_
            refine oN ?_
            refine oV (vL lone9) ?_
            refine oN ?_
            refine oV (vF 1 Tryz.underlying129 ti9) ?_
            refine oN ?_
            refine oV (vL lone9) ?_
            refine oN ?_
            refine oV (v_sne rfl rfl) ?_
            refine oV vT ?_
            refine oV vA ?_
            refine o_nil ?_
            refine c_ret1 Tryz.func104 rfl rfl fun w O hS => ?_
            exact ⟨(), by rw [hR, g1]; rfl, trivial, trivial⟩
          · refine oX ?_
            iterate 4 refine oX ?_
            refine oV vQ ?_
            refine oV vA ?_
            refine o_nil ?_
            refine c_ret1 Tryz.func104 rfl rfl fun w O hS => ?_
            exact ⟨(), by rw [hR, g1]; rfl, trivial, trivial⟩
        · have hR : rightP (k, n, t, a, o, w) = decide (t.size = 0) := by
            unfold rightP
            dsimp only
            rw [if_neg h0, if_neg h4, hnn, hB]
            have : (decide (k = 1) || decide (k = 2)) = true := by
              rw [Bool.or_eq_true, decide_eq_true_eq, decide_eq_true_eq]; omega
            rw [this]
            simp only [Bool.true_and, Bool.and_true]
          refine c_skip (c_seq (c_region ?_))
          refine oV (vF 2 Tryz.underlying129 ti9) ?_
          refine oV (vL lone9) ?_
          refine oV (v_seq rfl rfl) ?_
          refine oV vA ?_
          refine o_nil ?_
          refine c_ret1 Tryz.func104 rfl rfl fun w O hS => ?_
          exact ⟨(), by rw [hR]; exact congrArg Value.bool (decide_eq_decide.2 htn), trivial, trivial⟩
/-- Sizes at which a patch is looked at. -/
def SizeT (p : Pt9) : Prop := p.2.1.size ≤ 1000000 ∧ p.2.2.1.length ≤ 1000000 ∧ p.2.2.2.length ≤ 1000000 ∧ ∀ q ∈ p.2.2.2, SizeP q
end Go.Proofs.YtlfehnnmpkohkaaGreatDoor
/- Chapter 09: which names and changes may be, as the program says it. -/
namespace Go.Proofs.YtlfehnnmpkohkaaGreatDoor
open Go Go.SL Go.Lib L01
def letters : ByteArray := ⟨#[97, 98, 99, 100, 101, 102, 103, 104, 105, 106, 107, 108, 109, 110, 111, 112, 113, 114, 115, 116, 117, 118, 119, 120, 121, 122, 48, 49, 50, 51, 52, 53, 54, 55, 56, 57, 46, 45, 95, 47]⟩
theorem letter_char : ∀ b : UInt8, letters.data.toList.contains b = charP b := fun b => by
  have h : ∀ n, n < 256 → letters.data.toList.contains (UInt8.ofNat n) = charP (UInt8.ofNat n) := by decide +kernel
  have := h b.toNat (UInt8.toNat_lt b)
  rwa [show UInt8.ofNat b.toNat = b by simp] at this
theorem dropWhile_nil {p : UInt8 → Bool} : ∀ {l : List UInt8}, l.dropWhile p = [] ↔ l.all p = true
  | [] => by simp
  | b :: l => by
    rw [List.dropWhile_cons, List.all_cons]
    by_cases h : p b = true
    · rw [if_pos h, h, Bool.true_and]; exact dropWhile_nil
    · rw [if_neg h]; simp [h]
theorem trim_nil (l : List UInt8) : trimS l letters.data.toList = [] ↔ l.all charP = true := by
  have hp : (fun b => letters.data.toList.contains b) = charP := funext letter_char
  unfold trimS trimLeftS trimRightS
  show (List.dropWhile (fun b => letters.data.toList.contains b) _) = [] ↔ _
  rw [hp, dropWhile_nil]
  constructor
  · intro h
    refine Classical.byContradiction fun k => ?_
    obtain ⟨x, hx, hc⟩ := List.all_eq_false.1 (Bool.eq_false_iff.2 k)
    have h1 : (l.reverse.dropWhile charP) ≠ [] := fun e => by
      have := List.all_eq_true.1 (dropWhile_nil.1 e) x (List.mem_reverse.2 hx)
      exact hc this
    obtain ⟨y, r, e⟩ := List.exists_cons_of_ne_nil h1
    have hy : ¬ charP y = true := by
      have := List.head?_dropWhile_not charP l.reverse
      rw [e] at this
      simpa using this
    rw [e, List.all_reverse, List.all_cons] at h
    simp [hy] at h
  · intro h
    rw [List.all_reverse, List.all_eq_true]
    exact fun x hx => List.all_eq_true.1 h x (List.mem_reverse.1 ((List.dropWhile_sublist _).mem hx))
theorem trim_con (s : ByteArray) (hs : s.size ≤ 1000000) : Con Tryz.prog 126 [.string s, .string letters] [] (γ := Unit) (fun _ => .string (sB (trimS s.data.toList letters.data.toList))) (fun _ => True) (fun _ => []) :=
  con_below fun w _ _ => (Tryz.strings_Trim_set s letters w (by omega) (by decide) (Go.Proofs.ascii_of_all (by decide))).mono fun e w' ⟨he, hw⟩ => ⟨⟨(), he, trivial⟩, hw⟩
attribute [local irreducible] Cfg Kont StepK Val Con Qops Any Sl Own Blk BlkR Rd Pu ExA AllA Has Pick Ent Elem Beside Callable TI Lone OwnO AndA
set_option maxRecDepth 100000 in
theorem named_con (s : ByteArray) (hs : s.size ≤ 1000000) : Con Tryz.prog 86 [.string s] [] (γ := Unit) (fun _ => .bool (namedP s)) (fun _ => True) (fun _ => []) := by
  have hT := trim_con s hs
  unfold letters at hT
  have hn : sB (trimS s.data.toList letters.data.toList) = ⟨#[]⟩ ↔ s.data.toList.all charP = true := by
    rw [← trim_nil]
    exact ⟨fun h => by rw [← sB_list (trimS _ _), h], fun h => by rw [h]; rfl⟩
  unfold namedP
  refine con_of Tryz.func86 rfl (dd rfl) fun w0 O0 => ?_
  refine c_seq (c_region ?_)
  refine oV vA ?_
  refine o_nil (c_seq (c_region ?_))
  refine oV vM ?_
  refine oV (v_len_str Tryz.underlying9 rfl) ?_
  refine oV (v_ge rfl rfl) ?_
  refine oV vM ?_
  refine o_guard_t rfl rfl (fun h1 => ?_) (fun h1 => ?_)
  · refine oV vM ?_
    refine oN ?_
    refine oV (v_len_str Tryz.underlying9 rfl) ?_
    refine oN ?_
    refine oV (v_le rfl rfl) ?_
    refine oV vT ?_
    refine oV vM ?_
    refine o_guard_t rfl rfl (fun h2 => ?_) (fun h2 => ?_)
    · refine oV vM ?_
      refine oN ?_
      refine o_step (s_callf_keep cl126 (hT) rfl (dd rfl) (rX (by repeat constructor)) (fun _ => sX) (fun _ _ => ?_))
      refine oN ?_
      refine oV (v_seq rfl rfl) ?_
      refine oV vT ?_
      refine oV vA ?_
      refine o_nil ?_
      refine c_ret1 Tryz.func86 rfl rfl fun w O hS => ?_
      refine ⟨(), ?_, trivial, trivial⟩
      rw [decide_eq_true (p := 1 ≤ s.size) (by omega), decide_eq_true (p := s.size ≤ 24) (by omega)]
      refine congrArg Value.bool ?_
      rw [Bool.true_and, Bool.true_and, Bool.eq_iff_iff, decide_eq_true_eq]
      exact hn
    · refine oX ?_
      iterate 2 refine oX ?_
      refine oV vQ ?_
      refine oV vA ?_
      refine o_nil ?_
      refine c_ret1 Tryz.func86 rfl rfl fun w O hS => ?_
      exact ⟨(), by rw [decide_eq_false (p := s.size ≤ 24) (by omega), Bool.and_false, Bool.false_and], trivial, trivial⟩
  · refine oX ?_
    iterate 2 refine oX ?_
    refine oV vQ ?_
    refine oV vM ?_
    iterate 3 refine oX ?_
    refine oV vQ ?_
    refine oV vA ?_
    refine o_nil ?_
    refine c_ret1 Tryz.func86 rfl rfl fun w O hS => ?_
    exact ⟨(), by rw [decide_eq_false (p := 1 ≤ s.size) (by omega), Bool.false_and, Bool.false_and], trivial, trivial⟩
end Go.Proofs.YtlfehnnmpkohkaaGreatDoor
/- Chapter 09: which changes may be, as the program says it. -/
namespace Go.Proofs.YtlfehnnmpkohkaaGreatDoor
open Go Go.SL Go.Lib L01
attribute [local irreducible] Cfg Kont StepK Val Con Qops Any Sl Own Blk BlkR Rd Pu ExA AllA Has Pick Ent Elem Beside Callable TI Lone OwnO AndA
set_option maxRecDepth 100000 in
theorem right_prim_con (p : Pr9) (ov wv : Value) (hp : SizeP p) : Con Tryz.prog 129 [.agg #[.int .i64 p.1, .string p.2.1, .string p.2.2.1, .int .i64 p.2.2.2.1, ov, wv]] [Sl eStr ov p.2.2.2.2.1, Sl eStr wv p.2.2.2.2.2] (γ := Unit) (fun _ => .bool (rightP p)) (fun _ => True) (fun _ => []) := by
  obtain ⟨k, n, t, a, o, w⟩ := p
  obtain ⟨hn, ht, ⟨ho, hoe⟩, hw, hwe⟩ := hp
  dsimp only at hn ht ho hoe hw hwe ⊢
  have hN := named_con n hn
  have hT := named_con t ht
  have hO := all_con ov o ho
  have hW := all_con wv w hw
  have hOW := same_con ov wv o w ho hw
  rw [all_line] at hO hW
  have htn := ba_none (t := t)
  refine con_of Tryz.func129 rfl (dd rfl) fun w0 O0 => ?_
  refine c_seq (c_region ?_)
  refine o_step (s_box rfl (dd rfl) (fun b1 => ?_))
  refine oV vA ?_
  refine o_nil (c_seq ?_)
  refine c_env (env' := [(1, _), (2, _)]) (by repeat (first | exact trivial | refine ⟨rfl, ?_⟩)) ?_
  refine c_joinb (d := 3) (decide (a = 0 ∧ o.length = 0 ∧ w.length = 0)) ?_ ?_
  rotate_left
  · intro J
    refine c_region ?_
    refine oV (vF 3 Tryz.underlying74 ti3) ?_
    refine oV (vL lone3) ?_
    refine oV (v_eq rfl rfl) ?_
    refine oV vM ?_
    first | refine o_guard_t rfl rfl (fun g7 => ?_) (fun g7 => ?_) | refine o_guard rfl rfl (fun g7 => ?_) (fun g7 => ?_)
    · refine oV (vF 4 Tryz.underlying74 ti23) ?_
      refine oN ?_
      refine oV (vL lone23) ?_
      refine oN ?_
      refine oV ((by first | exact v_len_form Tryz.underlying23 rfl | exact v_len_sl Tryz.underlying23 rfl (hX (by repeat constructor)))) ?_
      refine oN ?_
      refine oV (v_eq rfl rfl) ?_
      refine oV vT ?_
      refine oV vM ?_
      first | refine o_guard_t rfl rfl (fun g13 => ?_) (fun g13 => ?_) | refine o_guard rfl rfl (fun g13 => ?_) (fun g13 => ?_)
      · refine oV (vF 5 Tryz.underlying74 ti23) ?_
        refine oN ?_
        refine oV (vL lone23) ?_
        refine oN ?_
        refine oV ((by first | exact v_len_form Tryz.underlying23 rfl | exact v_len_sl Tryz.underlying23 rfl (hX (by repeat constructor)))) ?_
        refine oN ?_
        refine oV (v_eq rfl rfl) ?_
        refine oV vT ?_
        refine oV vA ?_
        refine o_nil ?_
        exact cJ J rfl (by first | rfl | (simp_all; done) | (simp_all; omega) | exact decide_eq_decide.2 (by omega) | exact (decide_eq_false (by omega)).symm)
      · refine oX ?_
        iterate 3 refine oX ?_
        refine oV vQ ?_
        refine oV vA ?_
        refine o_nil ?_
        exact cJ J rfl (by first | rfl | (simp_all; done) | (simp_all; omega) | exact decide_eq_decide.2 (by omega) | exact (decide_eq_false (by omega)).symm)
    · refine oX ?_
      iterate 3 refine oX ?_
      refine oV vQ ?_
      refine oV vM ?_
      iterate 4 refine oX ?_
      refine oV vQ ?_
      refine oV vA ?_
      refine o_nil ?_
      exact cJ J rfl (by first | rfl | (simp_all; done) | (simp_all; omega) | exact decide_eq_decide.2 (by omega) | exact (decide_eq_false (by omega)).symm)
  refine c_seq (c_block (c_seq (c_region ?_)))
  refine oV (vF 1 Tryz.underlying74 ti9) ?_
  refine oV (vL lone9) ?_
  have hB : bareP (k, n, t, a, o, w) = decide (a = 0 ∧ o.length = 0 ∧ w.length = 0) := by
    unfold bareP
    dsimp only
    rw [Bool.eq_iff_iff]
    simp only [Bool.and_eq_true, decide_eq_true_eq]
    exact ⟨fun h => ⟨h.1.1, h.1.2, h.2⟩, fun h => ⟨⟨h.1, h.2.1⟩, h.2.2⟩⟩
  refine o_step (s_callf_keep cl86 (hN) rfl (dd rfl) (rX (by repeat constructor)) (fun _ => sX) (fun _ _ => ?_))
  refine oV (v_not rfl) ?_
  refine oV vA ?_
  refine o_nil ?_
  refine c_cond rfl (fun hnn => ?_) (fun hnn => ?_)
  · have hn0 : namedP n = false := by simpa using hnn
    refine c_seq (c_region ?_)
    refine oV vA ?_
    refine o_nil ?_
    refine c_ret1 Tryz.func129 rfl rfl fun w O hS => ?_
    exact ⟨(), by unfold rightP; rw [hn0]; rfl, trivial, trivial⟩
  · have hn1 : namedP n = true := by simpa using hnn
    refine c_seq (c_region ?_)
    refine oV (vF 0 Tryz.underlying74 ti3) ?_
    refine oV (vL lone3) ?_
    refine oV (v_eq rfl rfl) ?_
    refine oV vA ?_
    refine o_nil ?_
    refine c_cond_p rfl (fun h0 => ?_) (fun h0 => ?_)
    · have hR : rightP (k, n, t, a, o, w) = (decide (t.size = 0) && decide (0 ≤ a) && decide (a ≤ 1048576) && o.all lineP && w.all lineP && decide (o ≠ w)) := by
        unfold rightP
        dsimp only
        rw [if_pos h0, hn1, Bool.true_and]
      refine c_seq (c_region ?_)
      refine oV (vF 2 Tryz.underlying74 ti9) ?_
      refine oV (vL lone9) ?_
      refine oV (v_seq rfl rfl) ?_
      refine oV vM ?_
      refine o_guard_t rfl rfl (fun g1 => ?_) (fun g1 => ?_)
      · rw [decide_eq_true (p := t.size = 0) (htn.1 g1)] at hR
        refine oV (vF 3 Tryz.underlying74 ti3) ?_
        refine oN ?_
        refine oV (vL lone3) ?_
        refine oN ?_
        refine oV (v_ge rfl rfl) ?_
        refine oV vT ?_
        refine oV vM ?_
        refine o_guard_t rfl rfl (fun g2 => ?_) (fun g2 => ?_)
        · rw [decide_eq_true (p := 0 ≤ a) (by omega)] at hR
          refine oV (vF 3 Tryz.underlying74 ti3) ?_
          refine oN ?_
          refine oV (vL lone3) ?_
          refine oN ?_
          refine oV (v_le rfl rfl) ?_
          refine oV vT ?_
          refine oV vM ?_
          refine o_guard_t rfl rfl (fun g3 => ?_) (fun g3 => ?_)
          · rw [decide_eq_true (p := a ≤ 1048576) (by omega)] at hR
            simp only [Bool.true_and] at hR
            refine oV (vF 4 Tryz.underlying74 ti23) ?_
            refine oN ?_
            refine oV (vL lone23) ?_
            refine oN ?_
            refine o_step (s_callf_keep cl156 (hO) rfl (dd rfl) (rX (by repeat constructor)) (fun _ => sX) (fun _ _ => ?_))
            refine oV vT ?_
            refine oV vM ?_
            refine o_guard rfl rfl (fun g4 => ?_) (fun g4 => ?_)
            · refine oV (vF 5 Tryz.underlying74 ti23) ?_
              refine oN ?_
              refine oV (vL lone23) ?_
              refine oN ?_
              refine o_step (s_callf_keep cl156 (hW) rfl (dd rfl) (rX (by repeat constructor)) (fun _ => sX) (fun _ _ => ?_))
              refine oV vT ?_
              refine oV vM ?_
              refine o_guard rfl rfl (fun g5 => ?_) (fun g5 => ?_)
              · refine oV (vF 4 Tryz.underlying74 ti23) ?_
                refine oN ?_
                refine oV (vL lone23) ?_
                refine oN ?_
                refine oV (vF 5 Tryz.underlying74 ti23) ?_
                refine oN ?_
                refine oV (vL lone23) ?_
                refine oN ?_
                refine o_step (s_callf_keep cl46 (hOW) rfl (dd rfl) (rX (by repeat constructor)) (fun _ => sX) (fun _ _ => ?_))
                refine oN ?_
                refine oV (v_not rfl) ?_
                refine oV vT ?_
                refine oV vA ?_
                refine o_nil ?_
                refine c_ret1 Tryz.func129 rfl rfl fun w O hS => ?_
                exact ⟨(), by rw [hR, g4, g5]; simp, trivial, trivial⟩
              · refine oX ?_
                iterate 5 refine oX ?_
                refine oV vQ ?_
                refine oV vA ?_
                refine o_nil ?_
                refine c_ret1 Tryz.func129 rfl rfl fun w O hS => ?_
                exact ⟨(), by rw [hR, g4, g5]; rfl, trivial, trivial⟩
            · refine oX ?_
              iterate 2 refine oX ?_
              refine oV vQ ?_
              refine oV vM ?_
              iterate 6 refine oX ?_
              refine oV vQ ?_
              refine oV vA ?_
              refine o_nil ?_
              refine c_ret1 Tryz.func129 rfl rfl fun w O hS => ?_
              exact ⟨(), by rw [hR, g4]; rfl, trivial, trivial⟩
          · refine oX ?_
            iterate 2 refine oX ?_
            refine oV vQ ?_
            refine oV vM ?_
            iterate 3 refine oX ?_
            refine oV vQ ?_
            refine oV vM ?_
            iterate 6 refine oX ?_
            refine oV vQ ?_
            refine oV vA ?_
            refine o_nil ?_
            refine c_ret1 Tryz.func129 rfl rfl fun w O hS => ?_
            exact ⟨(), by rw [hR, decide_eq_false (p := a ≤ 1048576) (by omega)]; simp, trivial, trivial⟩
        · refine oX ?_
          iterate 2 refine oX ?_
          refine oV vQ ?_
          refine oV vM ?_
          iterate 3 refine oX ?_
          refine oV vQ ?_
          refine oV vM ?_
          iterate 3 refine oX ?_
          refine oV vQ ?_
          refine oV vM ?_
          iterate 6 refine oX ?_
          refine oV vQ ?_
          refine oV vA ?_
          refine o_nil ?_
          refine c_ret1 Tryz.func129 rfl rfl fun w O hS => ?_
          exact ⟨(), by rw [hR, decide_eq_false (p := 0 ≤ a) (by omega)]; simp, trivial, trivial⟩
      · refine oX ?_
        iterate 2 refine oX ?_
        refine oV vQ ?_
        refine oV vM ?_
        iterate 3 refine oX ?_
        refine oV vQ ?_
        refine oV vM ?_
        iterate 3 refine oX ?_
        refine oV vQ ?_
        refine oV vM ?_
        iterate 3 refine oX ?_
        refine oV vQ ?_
        refine oV vM ?_
        iterate 6 refine oX ?_
        refine oV vQ ?_
        refine oV vA ?_
        refine o_nil ?_
        refine c_ret1 Tryz.func129 rfl rfl fun w O hS => ?_
        exact ⟨(), by rw [hR, decide_eq_false (p := t.size = 0) (fun h => g1 (htn.2 h))]; simp, trivial, trivial⟩
    · refine c_seq (c_region ?_)
      refine oV (vF 0 Tryz.underlying74 ti3) ?_
      refine oV (vL lone3) ?_
      refine oV (v_eq rfl rfl) ?_
      refine oV vA ?_
      refine o_nil ?_
      refine c_cond_p rfl (fun h3 => ?_) (fun h3 => ?_)
      · have hR : rightP (k, n, t, a, o, w) = (decide (a = 0 ∧ o.length = 0 ∧ w.length = 0) && namedP t && decide (t ≠ n)) := by
          unfold rightP
          dsimp only
          rw [if_neg h0, if_pos h3, hn1, hB]
          simp only [Bool.true_and]
        refine c_seq (c_region ?_)
        iterate 2 refine oV vM ?_
        refine o_guard rfl rfl (fun g1 => ?_) (fun g1 => ?_)
        · refine oV (vF 2 Tryz.underlying74 ti9) ?_
          refine oN ?_
          refine oV (vL lone9) ?_
          refine oN ?_
          refine o_step (s_callf_keep cl86 (hT) rfl (dd rfl) (rX (by repeat constructor)) (fun _ => sX) (fun _ _ => ?_))
          refine oV vT ?_
          refine oV vM ?_
          refine o_guard rfl rfl (fun g2 => ?_) (fun g2 => ?_)
          · refine oV (vF 2 Tryz.underlying74 ti9) ?_
            refine oN ?_
            refine oV (vL lone9) ?_
            refine oN ?_
            refine oV (vF 1 Tryz.underlying74 ti9) ?_
            refine oN ?_
            refine oV (vL lone9) ?_
            refine oN ?_
            refine oV (v_sne rfl rfl) ?_
            refine oV vT ?_
            refine oV vA ?_
            refine o_nil ?_
            refine c_ret1 Tryz.func129 rfl rfl fun w O hS => ?_
            exact ⟨(), by rw [hR, g1, g2]; rfl, trivial, trivial⟩
          · refine oX ?_
            iterate 4 refine oX ?_
            refine oV vQ ?_
            refine oV vA ?_
            refine o_nil ?_
            refine c_ret1 Tryz.func129 rfl rfl fun w O hS => ?_
            exact ⟨(), by rw [hR, g1, g2]; rfl, trivial, trivial⟩
        · refine oX ?_
          iterate 2 refine oX ?_
          refine oV vQ ?_
          refine oV vM ?_
          iterate 5 refine oX ?_
          refine oV vQ ?_
          refine oV vA ?_
          refine o_nil ?_
          refine c_ret1 Tryz.func129 rfl rfl fun w O hS => ?_
          exact ⟨(), by rw [hR, g1]; rfl, trivial, trivial⟩
      · have hR : rightP (k, n, t, a, o, w) = (decide (a = 0 ∧ o.length = 0 ∧ w.length = 0) && decide (t.size = 0) && (decide (k = 1) || decide (k = 2))) := by
          unfold rightP
          dsimp only
          rw [if_neg h0, if_neg h3, hn1, hB]
          simp only [Bool.true_and]
        refine c_skip (c_inBlock (c_seq (c_region ?_)))
        iterate 2 refine oV vM ?_
        refine o_guard rfl rfl (fun g1 => ?_) (fun g1 => ?_)
        · refine oV (vF 2 Tryz.underlying74 ti9) ?_
          refine oN ?_
          refine oV (vL lone9) ?_
          refine oN ?_
          refine oV (v_seq rfl rfl) ?_
          refine oV vT ?_
          refine oV vM ?_
          refine o_guard_t rfl rfl (fun g2 => ?_) (fun g2 => ?_)
          · rw [decide_eq_true (p := t.size = 0) (htn.1 g2)] at hR
            refine oV (vF 0 Tryz.underlying74 ti3) ?_
            refine oN ?_
            refine oV (vL lone3) ?_
            refine oN ?_
            refine oV (v_eq rfl rfl) ?_
            refine oN ?_
            refine oV vM ?_
            refine o_guard_f rfl rfl (fun g3 => ?_) (fun g3 => ?_)
            · refine oV (vF 0 Tryz.underlying74 ti3) ?_
              refine oN ?_
              refine oV (vL lone3) ?_
              refine oN ?_
              refine oV (v_eq rfl rfl) ?_
              refine oN ?_
              refine oV vQ ?_
              refine oV vT ?_
              refine oV vA ?_
              refine o_nil ?_
              refine c_ret1 Tryz.func129 rfl rfl fun w O hS => ?_
              exact ⟨(), by rw [hR, g1, decide_eq_false (p := k = 1) (by omega)]; rfl, trivial, trivial⟩
            · refine oX ?_
              iterate 2 refine oX ?_
              refine oN ?_
              iterate 2 refine oV vT ?_
              refine oV vA ?_
              refine o_nil ?_
              refine c_ret1 Tryz.func129 rfl rfl fun w O hS => ?_
              exact ⟨(), by rw [hR, g1, decide_eq_true (p := k = 1) (by omega)]; rfl, trivial, trivial⟩
          · refine oX ?_
            iterate 3 refine oX ?_
            iterate 3 refine oU ?_
            refine oX ?_
            refine oV vQ ?_
            refine oV vA ?_
            refine o_nil ?_
            refine c_ret1 Tryz.func129 rfl rfl fun w O hS => ?_
            exact ⟨(), by rw [hR, decide_eq_false (p := t.size = 0) (fun h => g2 (htn.2 h))]; simp, trivial, trivial⟩
        · refine oX ?_
          iterate 2 refine oX ?_
          refine oV vQ ?_
          refine oV vM ?_
          iterate 4 refine oX ?_
          iterate 3 refine oU ?_
          refine oX ?_
          refine oV vQ ?_
          refine oV vA ?_
          refine o_nil ?_
          refine c_ret1 Tryz.func129 rfl rfl fun w O hS => ?_
          exact ⟨(), by rw [hR, g1]; rfl, trivial, trivial⟩
end Go.Proofs.YtlfehnnmpkohkaaGreatDoor
/- Chapter 09: which rows of changes, and which patches, may be, as the program says it. -/
namespace Go.Proofs.YtlfehnnmpkohkaaGreatDoor
open Go Go.SL Go.Lib L01
attribute [local irreducible] Cfg Kont StepK Val Con Qops Any Sl Own Blk BlkR Rd Pu ExA AllA Has Pick Ent Elem Beside Callable TI Lone OwnO AndA
set_option maxRecDepth 100000 in
theorem not_right_con (p : Pr9) (ov wv : Value) (hp : SizeP p) : Con Tryz.prog 128 [.agg #[.int .i64 p.1, .string p.2.1, .string p.2.2.1, .int .i64 p.2.2.2.1, ov, wv]] [Sl eStr ov p.2.2.2.2.1, Sl eStr wv p.2.2.2.2.2] (γ := Unit) (fun _ => .bool (!rightP p)) (fun _ => True) (fun _ => []) := by
  have hR := right_prim_con p ov wv hp
  refine con_of Tryz.func128 rfl (dd rfl) fun w0 O0 => ?_
  refine c_seq (c_region ?_)
  refine o_step (s_box rfl (dd rfl) (fun b1 => ?_))
  refine oV vA ?_
  refine o_nil (c_seq (c_region ?_))
  refine oV (vW Tryz.underlying74 ti74) ?_
  refine oC cl129 (hR) fun _ _ => ?_
  refine oV (v_not rfl) ?_
  refine oV vA ?_
  refine o_nil ?_
  refine c_ret1 Tryz.func128 rfl rfl fun w O hS => ?_
  exact ⟨(), rfl, trivial, trivial⟩
set_option maxRecDepth 100000 in
theorem index_prim_con (v : Value) (l : List Pr9) (hl : l.length ≤ 1000000 ∧ ∀ p ∈ l, SizeP p) : Con Tryz.prog 155 [v, .func (.func 128) #[] #[]] [Sl ePr v l] (γ := Int) (fun r => .int .i64 r) (fun r => 0 ≤ r ↔ l.all rightP = false) (fun _ => []) := by
  obtain ⟨hl1, hl2⟩ := hl
  refine con_of Tryz.func155 rfl (dd rfl) fun w0 O0 => ?_
  refine c_seq (c_region ?_)
  refine oV vA ?_
  refine o_nil (c_seq (c_seq (c_region ?_)))
  refine oV vM ?_
  refine oV ((by first | exact v_len_form Tryz.underlying30 rfl | exact v_len_sl Tryz.underlying30 rfl (hX (by repeat constructor)))) ?_
  refine oV vM ?_
  refine o_nil (c_block ?_)
  refine c_loopR (γ := Nat) [(0, _), (1, _), (4, _), (7, _)] (fun k => l.length - k) (fun k => k ≤ l.length ∧ (l.take k).all rightP = true) (fun k => [(8, .int .i64 k)]) (fun _ => [Sl ePr v l]) (0) (⟨Nat.zero_le _, rfl⟩) (by repeat (first | exact trivial | refine ⟨rfl, ?_⟩)) (eX (by repeat constructor)) ?_
  rintro k ⟨hk, hc⟩ IH
  try dsimp only [List.cons_append, List.nil_append]
  refine c_seq (c_region ?_)
  refine oV (v_lt rfl rfl) ?_
  refine o_nil (c_seq ?_)
  refine c_cond_p rfl (fun hlt => ?_) (fun hlt => ?_)
  · have hk' : k < l.length := by omega
    have hR := fun ov wv => not_right_con l[k] ov wv (hl2 _ (List.getElem_mem hk'))
    refine c_skip (c_seq (c_block (c_seq (c_region ?_))))
    refine oV vM ?_
    refine oV vA ?_
    refine o_nil (c_seq (c_region ?_))
    iterate 3 refine oV vM ?_
    refine oV ((by first | exact v_indexAddrN Tryz.underlying30 ti74 rfl rfl (hX (by repeat constructor)) (by omega) | exact v_indexAddr Tryz.underlying30 ti74 rfl rfl (hX (by repeat constructor)) (by omega))) ?_
    refine o_step (s_load_shape ⟨_, Tryz.underlying74⟩ ti74 rfl (dd rfl) (by repeat (first|exact el1 (by omega)|exact el2 (by omega)|exact el3 (by omega)|apply Elem.there)) (pr_open) (fun g => ?_))
    refine o_step (s_call cl128 (hR g.1 g.2) (first := []) (cap := []) rfl rfl (by rfl) (dd rfl) (pXs (by repeat constructor)) fun _ _ => ?_)
    refine o_nil ?_
    refine c_cond rfl (fun hb => ?_) (fun hb => ?_)
    · have hr : rightP l[k] = false := by simpa using hb
      refine c_seq (c_region ?_)
      refine oV vM ?_
      refine oV vA ?_
      refine o_nil ?_
      refine c_ret1 Tryz.func155 rfl rfl fun w O hS => ?_
      exact ⟨k, rfl, ⟨fun _ => List.all_eq_false.2 ⟨_, List.getElem_mem hk', by rw [hr]; decide⟩, fun _ => by omega⟩, trivial⟩
    · have hr : rightP l[k] = true := by simpa using hb
      refine c_skip (c_inBlock (c_region ?_))
      refine oV ((by first | exact v_add64 rfl rfl (by omega) | exact v_add rfl rfl)) ?_
      refine oV vM ?_
      refine o_nil ?_
      refine cU (IH (k + 1) (by first | omega | (dsimp only; omega)) (⟨by omega, by rw [List.take_succ_eq_append_getElem hk', List.all_append, hc]; simp [hr]⟩))
  · rw [List.take_of_length_le (by omega)] at hc
    refine c_exit rfl ?_
    refine c_seq (c_region ?_)
    refine oV vA ?_
    refine o_nil ?_
    refine c_ret1 Tryz.func155 rfl rfl fun w O hS => ?_
    exact ⟨-1, rfl, ⟨fun h => absurd h (by decide), fun h => by rw [hc] at h; cases h⟩, trivial⟩
set_option maxRecDepth 100000 in
theorem contains_prim_con (v : Value) (l : List Pr9) (hl : l.length ≤ 1000000 ∧ ∀ p ∈ l, SizeP p) : Con Tryz.prog 127 [v, .func (.func 128) #[] #[]] [Sl ePr v l] (γ := Unit) (fun _ => .bool (!l.all rightP)) (fun _ => True) (fun _ => []) := by
  have hI := index_prim_con v l hl
  refine con_of Tryz.func127 rfl (dd rfl) fun w0 O0 => ?_
  refine c_seq (c_region ?_)
  refine oV vA ?_
  refine o_nil (c_seq (c_region ?_))
  iterate 2 refine oV vM ?_
  refine oC cl155 (hI) fun r hr => ?_
  refine oV (v_ge rfl rfl) ?_
  refine oV vA ?_
  refine o_nil ?_
  refine c_ret1 Tryz.func127 rfl rfl fun w O hS => ?_
  refine ⟨(), congrArg Value.bool ?_, trivial, trivial⟩
  rw [Bool.eq_iff_iff, decide_eq_true_eq, Bool.not_eq_true', ← hr]
set_option maxRecDepth 100000 in
theorem rights_con (v : Value) (l : List Pr9) (hl : l.length ≤ 1000000 ∧ ∀ p ∈ l, SizeP p) : Con Tryz.prog 88 [v] [Sl ePr v l] (γ := Unit) (fun _ => .bool (l.all rightP)) (fun _ => True) (fun _ => []) := by
  have hI := contains_prim_con v l hl
  refine con_of Tryz.func88 rfl (dd rfl) fun w0 O0 => ?_
  refine c_seq (c_region ?_)
  refine oV vA ?_
  refine o_nil (c_seq (c_region ?_))
  refine oV vM ?_
  refine oC cl127 (hI) fun _ _ => ?_
  refine oV (v_not rfl) ?_
  refine oV vA ?_
  refine o_nil ?_
  refine c_ret1 Tryz.func88 rfl rfl fun w O hS => ?_
  exact ⟨(), by rw [Bool.not_not], trivial, trivial⟩
end Go.Proofs.YtlfehnnmpkohkaaGreatDoor
/- Chapter 09: the program's reader: a change. -/
namespace Go.Proofs.YtlfehnnmpkohkaaGreatDoor
open Go Go.SL Go.Lib
attribute [local irreducible] Cfg Kont StepK Val Con Qops Any Sl Own Blk BlkR Rd Pu ExA AllA Has Pick Ent Elem Beside Callable TI Lone OwnO AndA
set_option maxRecDepth 100000 in
theorem inRaw_con (i : Nat) (bv : Value) (s : St9) (te : TypeId) (pe : Value) : Con Tryz.prog 147 [ptr i] [Blk i 141 [bv, .bool s.2], Sl eByte bv s.1, G1 te pe, G3] (γ := Value × Value × Value)
    (fun g => .agg #[.int .i64 (rawPrim s).2.1, .string (rawPrim s).2.2.1, .string (rawPrim s).2.2.2.1, .int .i64 (rawPrim s).2.2.2.2.1, g.2.1, g.2.2]) (fun _ => True)
    (fun g => [Blk i 141 [g.1, .bool (rawPrim s).1.2], Sl eByte g.1 (rawPrim s).1.1, Sl eStr g.2.1 (rawPrim s).2.2.2.2.2.1, Sl eStr g.2.2 (rawPrim s).2.2.2.2.2.2]) := by
  have c1 := inNum_con i bv s te pe
  obtain ⟨s1, k, h1⟩ : ∃ s1 k, takeNum s = (s1, k) := ⟨_, _, rfl⟩
  rw [h1] at c1
  have c2 := fun v => inText_con i v s1 24 te pe
  obtain ⟨s2, n, h2⟩ : ∃ s2 n, takeText 24 s1 = (s2, n) := ⟨_, _, rfl⟩
  rw [h2] at c2
  have c3 := fun v => inText_con i v s2 24 te pe
  obtain ⟨s3, t, h3⟩ : ∃ s3 t, takeText 24 s2 = (s3, t) := ⟨_, _, rfl⟩
  rw [h3] at c3
  have c4 := fun v => inNum_con i v s3 te pe
  obtain ⟨s4, a, h4⟩ : ∃ s4 a, takeNum s3 = (s4, a) := ⟨_, _, rfl⟩
  rw [h4] at c4
  have c5 := fun v => inTexts_con i v s4 s4.1.length 60 te pe
  obtain ⟨s5, o, h5⟩ : ∃ s5 o, takeTexts s4.1.length 60 s4 = (s5, o) := ⟨_, _, rfl⟩
  rw [h5] at c5
  have c6 := fun v => inTexts_con i v s5 s5.1.length 60 te pe
  obtain ⟨s6, w, h6⟩ : ∃ s6 w, takeTexts s5.1.length 60 s5 = (s6, w) := ⟨_, _, rfl⟩
  rw [h6] at c6
  have hraw : rawPrim s = (s6, (k, n, t, a, o, w)) := by unfold rawPrim; simp only [h1, h2, h3, h4, h5, h6]
  rw [hraw]
  dsimp only at c1 c2 c3 c4 c5 c6 ⊢
  refine con_of Tryz.func147 rfl (dd rfl) fun w0 O0 => ?_
  refine c_seq (c_region ?_)
  refine o_step (s_alloc ti74 (dd rfl) (fun b2 => ?_))
  refine o_nil (c_seq (c_region ?_))
  refine oV vM ?_
  refine oC cl63 (c1) fun v1 _ => ?_
  refine oV vM ?_
  refine oC cl64 (c2 v1) fun v2 _ => ?_
  refine oV vM ?_
  refine oC cl64 (c3 v2) fun v3 _ => ?_
  refine oV vM ?_
  refine oC cl63 (c4 v3) fun v4 _ => ?_
  refine oV (v_buildS (places := [(0, 1), (1, 1), (2, 1), (3, 1), (4, 1), (5, 1)]) (cells := [_, _, _, _, .slice none 0 0, .slice none 0 0]) Tryz.underlying74 ti74 (by kernel_rfl) rfl (by repeat (first | exact PartsC.nil | (apply PartsC.one (by first | exact OneC.lit rfl | exact OneC.sl (hX (by repeat constructor)) )) | (apply PartsC.lit rfl))) rfl) ?_
  refine o_step (s_alloc ti74 (dd rfl) (fun b3 => ?_))
  refine o_step (s_store_all ti74 rfl rfl (by first | exact CellsV.lit rfl | exact CellsV.one (by first | exact OneC.lit rfl | exact OneC.sl (hX (by repeat constructor)) )) (by repeat (first | exact OneAll.nil | (refine OneAll.cons ?_ ?_; · first | exact OneC.lit rfl | exact OneC.sl (hX (by repeat constructor)) ) | exact OneAll.rd (hX (by repeat constructor)))) rfl (pB (by repeat constructor)) rfl (?_))
  refine o_nil (c_seq (c_region ?_))
  iterate 2 refine oV vM ?_
  refine oV (v_nilCheck rfl) ?_
  refine oV (vF 0 Tryz.underlying141 ti38) ?_
  refine oV (vL lone38) ?_
  refine oV ((by first | exact v_len_form Tryz.underlying38 rfl | exact v_len_sl Tryz.underlying38 rfl (hX (by repeat constructor)))) ?_
  refine oC cl66 (c5 v4) fun g5 _ => ?_
  refine oV (vF 4 Tryz.underlying74 ti23) ?_
  refine o_step (s_store1 ti23 rfl rfl (by first | exact OneC.lit rfl | exact OneC.sl (hX (by repeat constructor)) ) (pB (by repeat constructor)) (by first | decide | exact Nat.le_of_ble_eq_true rfl | simp) (by first | (dsimp only [List.set_cons_succ, List.set_cons_zero]; first | done | exact rfl) | rfl) (?_))
  refine o_nil (c_seq (c_region ?_))
  iterate 2 refine oV vM ?_
  refine oV (v_nilCheck rfl) ?_
  refine oV (vF 0 Tryz.underlying141 ti38) ?_
  refine oV (vL lone38) ?_
  refine oV ((by first | exact v_len_form Tryz.underlying38 rfl | exact v_len_sl Tryz.underlying38 rfl (hX (by repeat constructor)))) ?_
  refine oC cl66 (c6 g5.1) fun g6 _ => ?_
  refine oV (vF 5 Tryz.underlying74 ti23) ?_
  refine o_step (s_store1 ti23 rfl rfl (by first | exact OneC.lit rfl | exact OneC.sl (hX (by repeat constructor)) ) (pB (by repeat constructor)) (by first | decide | exact Nat.le_of_ble_eq_true rfl | simp) (by first | (dsimp only [List.set_cons_succ, List.set_cons_zero]; first | done | exact rfl) | rfl) (?_))
  refine o_nil (c_seq (c_region ?_))
  refine oV (vW Tryz.underlying74 ti74) ?_
  refine o_step (s_store_all ti74 rfl rfl (by first | exact CellsV.lit rfl | exact CellsV.one (by first | exact OneC.lit rfl | exact OneC.sl (hX (by repeat constructor)) )) (by repeat (first | exact OneAll.nil | (refine OneAll.cons ?_ ?_; · first | exact OneC.lit rfl | exact OneC.sl (hX (by repeat constructor)) ) | exact OneAll.rd (hX (by repeat constructor)))) rfl (pB (by repeat constructor)) rfl (?_))
  refine o_nil ?_
  refine c_ret_cell Tryz.func147 rfl ⟨_, Tryz.underlying74⟩ ti74 rfl (hX (by repeat constructor)) fun w O hS => ?_
  exact ⟨(g6.1, g5.2, g6.2), rfl, trivial, Ent.get hS (eX (by repeat constructor))⟩
set_option maxRecDepth 100000 in
theorem wholePrim_con (i : Nat) (bv : Value) (s : St9) (hs : s.1.length ≤ big9) (te : TypeId) (pe : Value) : Con Tryz.prog 146 [ptr i, .func (.func 147) #[ptr i] #[], .func (.func 129) #[] #[]] [Blk i 141 [bv, .bool s.2], Sl eByte bv s.1, G1 te pe, G3] (γ := Value × Value × Value)
    (fun g => .agg #[.int .i64 (takePrim s).2.1, .string (takePrim s).2.2.1, .string (takePrim s).2.2.2.1, .int .i64 (takePrim s).2.2.2.2.1, g.2.1, g.2.2]) (fun _ => True)
    (fun g => [Blk i 141 [g.1, .bool (takePrim s).1.2], Sl eByte g.1 (takePrim s).1.1, Sl eStr g.2.1 (takePrim s).2.2.2.2.2.1, Sl eStr g.2.2 (takePrim s).2.2.2.2.2.2]) := by
  have h1 := inRaw_con i bv s te pe
  have hok := raw_ok hs
  unfold takePrim
  obtain ⟨s1, p, hp⟩ : ∃ s1 p, rawPrim s = (s1, p) := ⟨_, _, rfl⟩
  rw [hp] at h1 hok ⊢
  obtain ⟨k, n, t, a, o, w⟩ := p
  have h2 := fun ov wv => right_prim_con (k, n, t, a, o, w) ov wv hok
  dsimp only at h1 h2 ⊢
  refine con_of Tryz.func146 rfl (dd rfl) fun w0 O0 => ?_
  refine c_seq (c_region ?_)
  refine o_step (s_alloc ti74 (dd rfl) (fun b6 => ?_))
  refine o_nil (c_seq (c_region ?_))
  refine oV vM ?_
  refine oV (v_nilCheck rfl) ?_
  refine oV (vF 0 Tryz.underlying141 ti38) ?_
  refine oV (vL lone38) ?_
  refine oV vA ?_
  refine o_nil (c_seq (c_region ?_))
  refine oV vM ?_
  refine o_step (s_call cl147 (h1) (first := [ptr i]) (cap := []) rfl rfl (by rfl) (dd rfl) (pXs (by repeat constructor)) fun g _ => ?_)
  refine o_step (s_alloc ti74 (dd rfl) (fun b8 => ?_))
  refine o_step (s_store_all ti74 rfl rfl (by first | exact CellsV.lit rfl | exact CellsV.one (by first | exact OneC.lit rfl | exact OneC.sl (hX (by repeat constructor)) )) (by repeat (first | exact OneAll.nil | (refine OneAll.cons ?_ ?_; · first | exact OneC.lit rfl | exact OneC.sl (hX (by repeat constructor)) ) | exact OneAll.rd (hX (by repeat constructor)))) rfl (pB (by repeat constructor)) rfl (?_))
  refine o_nil (c_seq (c_seq (c_region ?_)))
  refine oV vM ?_
  refine oV (v_nilCheck rfl) ?_
  refine oV (vF 1 Tryz.underlying141 ti4) ?_
  refine oV (vL lone4) ?_
  refine oV (v_not rfl) ?_
  refine oV vM ?_
  refine o_guard rfl rfl (fun hb => ?_) (fun hb => ?_)
  · have hb2 : s1.2 = false := by simpa using hb
    refine oV vM ?_
    refine oN ?_
    refine oV (vW Tryz.underlying74 ti74) ?_
    refine oN ?_
    refine o_step (s_call_keep cl129 (h2 g.2.1 g.2.2) (first := []) (cap := []) rfl rfl rfl (dd rfl) (rX (by repeat constructor)) (fun _ => sX) (fun _ _ => ?_))
    refine oV vT ?_
    refine o_nil ?_
    refine c_cond rfl (fun hr => ?_) (fun hr => ?_)
    · rw [if_neg (by rintro (q | q); rw [hb2] at q; cases q; rw [hr] at q; cases q)]
      refine c_seq (c_region ?_)
      refine oV (vW Tryz.underlying74 ti74) ?_
      refine o_step (s_store_all ti74 rfl rfl (by first | exact CellsV.lit rfl | exact CellsV.one (by first | exact OneC.lit rfl | exact OneC.sl (hX (by repeat constructor)) )) (by repeat (first | exact OneAll.nil | (refine OneAll.cons ?_ ?_; · first | exact OneC.lit rfl | exact OneC.sl (hX (by repeat constructor)) ) | exact OneAll.rd (hX (by repeat constructor)))) rfl (pB (by repeat constructor)) rfl (?_))
      refine o_nil ?_
      refine c_ret_cell Tryz.func146 rfl ⟨_, Tryz.underlying74⟩ ti74 rfl (hX (by repeat constructor)) fun w O hS => ?_
      exact ⟨g, rfl, trivial, Ent.get hS (eX (by repeat constructor))⟩
    · rw [if_pos (.inr hr)]
      refine c_skip (c_seq (c_region ?_))
      refine o_step (s_alloc ti74 (dd rfl) (fun b9 => ?_))
      refine o_nil (c_seq (c_region ?_))
      iterate 3 refine oV vM ?_
      refine oV (v_nilCheck rfl) ?_
      refine oV (vF 0 Tryz.underlying141 ti38) ?_
      refine o_step (s_store1 ti38 rfl rfl (by first | exact OneC.lit rfl | exact OneC.sl (hX (by repeat constructor)) ) (pB (by repeat constructor)) (by first | decide | exact Nat.le_of_ble_eq_true rfl | simp) (by first | (dsimp only [List.set_cons_succ, List.set_cons_zero]; first | done | exact rfl) | rfl) (?_))
      refine oV (v_nilCheck rfl) ?_
      refine oV (vF 1 Tryz.underlying141 ti4) ?_
      refine o_step (s_store1 ti4 rfl rfl (by first | exact OneC.lit rfl | exact OneC.sl (hX (by repeat constructor)) ) (pB (by repeat constructor)) (by first | decide | exact Nat.le_of_ble_eq_true rfl | simp) (by first | (dsimp only [List.set_cons_succ, List.set_cons_zero]; first | done | exact rfl) | rfl) (?_))
      refine o_nil (c_seq (c_region ?_))
      refine oV (vW Tryz.underlying74 ti74) ?_
      refine o_step (s_store_all ti74 rfl rfl (by first | exact CellsV.lit rfl | exact CellsV.one (by first | exact OneC.lit rfl | exact OneC.sl (hX (by repeat constructor)) )) (by repeat (first | exact OneAll.nil | (refine OneAll.cons ?_ ?_; · first | exact OneC.lit rfl | exact OneC.sl (hX (by repeat constructor)) ) | exact OneAll.rd (hX (by repeat constructor)))) rfl (pB (by repeat constructor)) rfl (?_))
      refine o_nil ?_
      refine c_ret_cell Tryz.func146 rfl ⟨_, Tryz.underlying74⟩ ti74 rfl (hX (by repeat constructor)) fun w O hS => ?_
      exact ⟨(bv, .slice none 0 0, .slice none 0 0), rfl, trivial, Ent.get hS (eX (by repeat constructor))⟩
  · have hb2 : s1.2 = true := by simpa using hb
    rw [if_pos (.inl hb2)]
    iterate 3 refine oX ?_
    refine oV vQ ?_
    refine o_nil ?_
    refine c_cond_f rfl ?_
    refine c_skip (c_seq (c_region ?_))
    refine o_step (s_alloc ti74 (dd rfl) (fun b9 => ?_))
    refine o_nil (c_seq (c_region ?_))
    iterate 3 refine oV vM ?_
    refine oV (v_nilCheck rfl) ?_
    refine oV (vF 0 Tryz.underlying141 ti38) ?_
    refine o_step (s_store1 ti38 rfl rfl (by first | exact OneC.lit rfl | exact OneC.sl (hX (by repeat constructor)) ) (pB (by repeat constructor)) (by first | decide | exact Nat.le_of_ble_eq_true rfl | simp) (by first | (dsimp only [List.set_cons_succ, List.set_cons_zero]; first | done | exact rfl) | rfl) (?_))
    refine oV (v_nilCheck rfl) ?_
    refine oV (vF 1 Tryz.underlying141 ti4) ?_
    refine o_step (s_store1 ti4 rfl rfl (by first | exact OneC.lit rfl | exact OneC.sl (hX (by repeat constructor)) ) (pB (by repeat constructor)) (by first | decide | exact Nat.le_of_ble_eq_true rfl | simp) (by first | (dsimp only [List.set_cons_succ, List.set_cons_zero]; first | done | exact rfl) | rfl) (?_))
    refine o_nil (c_seq (c_region ?_))
    refine oV (vW Tryz.underlying74 ti74) ?_
    refine o_step (s_store_all ti74 rfl rfl (by first | exact CellsV.lit rfl | exact CellsV.one (by first | exact OneC.lit rfl | exact OneC.sl (hX (by repeat constructor)) )) (by repeat (first | exact OneAll.nil | (refine OneAll.cons ?_ ?_; · first | exact OneC.lit rfl | exact OneC.sl (hX (by repeat constructor)) ) | exact OneAll.rd (hX (by repeat constructor)))) rfl (pB (by repeat constructor)) rfl (?_))
    refine o_nil ?_
    refine c_ret_cell Tryz.func146 rfl ⟨_, Tryz.underlying74⟩ ti74 rfl (hX (by repeat constructor)) fun w O hS => ?_
    exact ⟨(bv, .slice none 0 0, .slice none 0 0), rfl, trivial, Ent.get hS (eX (by repeat constructor))⟩
set_option maxRecDepth 100000 in
theorem inPrim_con (i : Nat) (bv : Value) (s : St9) (hs : s.1.length ≤ big9) (te : TypeId) (pe : Value) : Con Tryz.prog 121 [ptr i] [Blk i 141 [bv, .bool s.2], Sl eByte bv s.1, G1 te pe, G3] (γ := Value × Value × Value)
    (fun g => .agg #[.int .i64 (takePrim s).2.1, .string (takePrim s).2.2.1, .string (takePrim s).2.2.2.1, .int .i64 (takePrim s).2.2.2.2.1, g.2.1, g.2.2]) (fun _ => True)
    (fun g => [Blk i 141 [g.1, .bool (takePrim s).1.2], Sl eByte g.1 (takePrim s).1.1, Sl eStr g.2.1 (takePrim s).2.2.2.2.2.1, Sl eStr g.2.2 (takePrim s).2.2.2.2.2.2]) := by
  have h := wholePrim_con i bv s hs te pe
  refine con_of Tryz.func121 rfl (dd rfl) fun w0 O0 => ?_
  refine c_seq (c_region ?_)
  refine o_step (s_alloc ti74 (dd rfl) (fun b2 => ?_))
  refine o_nil (c_seq (c_region ?_))
  iterate 2 refine oV vM ?_
  refine oV (v_makeFunc rfl rfl) ?_
  refine oC cl146 (h) fun g _ => ?_
  refine o_step (s_store_all ti74 rfl rfl (by first | exact CellsV.lit rfl | exact CellsV.one (by first | exact OneC.lit rfl | exact OneC.sl (hX (by repeat constructor)) )) (by repeat (first | exact OneAll.nil | (refine OneAll.cons ?_ ?_; · first | exact OneC.lit rfl | exact OneC.sl (hX (by repeat constructor)) ) | exact OneAll.rd (hX (by repeat constructor)))) rfl (pB (by repeat constructor)) rfl (?_))
  refine o_nil ?_
  refine c_ret_cell Tryz.func121 rfl ⟨_, Tryz.underlying74⟩ ti74 rfl (hX (by repeat constructor)) fun w O hS => ?_
  exact ⟨g, rfl, trivial, Ent.get hS (eX (by repeat constructor))⟩
end Go.Proofs.YtlfehnnmpkohkaaGreatDoor
/- Chapter 09: the document's readers: changes. -/
namespace Go.Proofs.YtlfehnnmpkohkaaGreatDoor
open Go Go.SL Go.Lib
theorem texts_lim {s : St9} (h : s.1.length ≤ big9) : takeTexts 1000000 60 s = takeTexts s.1.length 60 s :=
  takeSome_most (fun _ _ _ e hb => takeText_less e hb) (by unfold big9 at h; omega) (Int.le_refl _)
attribute [local irreducible] Cfg Kont StepK Val Con Qops Any Sl Own Blk BlkR Rd Pu ExA AllA Has Pick Ent Elem Beside Callable TI Lone OwnO AndA
set_option maxRecDepth 100000 in
theorem takePrimRef_con (B : ByteArray) (s : St9) (hB : B.size ≤ big9) (h : EndsB B s) : Con Tryz.prog 124 [inS B s] [] (γ := Value × Value)
    (fun g => .tuple #[inS B (takePrim s).1, .agg #[.int .i64 (takePrim s).2.1, .string (takePrim s).2.2.1, .string (takePrim s).2.2.2.1, .int .i64 (takePrim s).2.2.2.2.1, g.1, g.2]]) (fun _ => True) (fun g => [Sl eStr g.1 (takePrim s).2.2.2.2.2.1, Sl eStr g.2 (takePrim s).2.2.2.2.2.2]) := by
  have hB' : B.size ≤ 4611686018427387904 := by unfold big9 at hB; omega
  have hlen : ∀ {s : St9}, EndsB B s → s.1.length ≤ big9 := fun h => by have := h.at.2.2; unfold big9 at *; omega
  have hok := raw_ok (hlen h)
  have hS := spoilRef_con B s
  have hR := fun ov wv => rightRef_con (rawPrim s).2 ov wv hok
  obtain ⟨s1, k, h1⟩ : ∃ s1 k, takeNum s = (s1, k) := ⟨_, _, rfl⟩
  have c1 := takeNumRef_con B s hB' h
  have e1 := h.goes goes_num
  rw [h1] at c1 e1
  obtain ⟨s2, n, h2⟩ : ∃ s2 n, takeText 24 s1 = (s2, n) := ⟨_, _, rfl⟩
  have c2 := takeTextRef_con B s1 24 hB' e1
  have e2 := e1.goes (goes_text 24)
  rw [h2] at c2 e2
  obtain ⟨s3, t, h3⟩ : ∃ s3 t, takeText 24 s2 = (s3, t) := ⟨_, _, rfl⟩
  have c3 := takeTextRef_con B s2 24 hB' e2
  have e3 := e2.goes (goes_text 24)
  rw [h3] at c3 e3
  obtain ⟨s4, a, h4⟩ : ∃ s4 a, takeNum s3 = (s4, a) := ⟨_, _, rfl⟩
  have c4 := takeNumRef_con B s3 hB' e3
  have e4 := e3.goes goes_num
  rw [h4] at c4 e4
  obtain ⟨s5, o, h5⟩ : ∃ s5 o, takeTexts s4.1.length 60 s4 = (s5, o) := ⟨_, _, rfl⟩
  have c5 := takeTextsRef_con B s4 1000000 60 hB' e4
  have e5 : EndsB B (takeTexts s4.1.length 60 s4).1 := e4.goes (goes_some (goes_text 60) _)
  rw [texts_lim (hlen e4), h5] at c5
  rw [h5] at e5
  obtain ⟨s6, w, h6⟩ : ∃ s6 w, takeTexts s5.1.length 60 s5 = (s6, w) := ⟨_, _, rfl⟩
  have c6 := takeTextsRef_con B s5 1000000 60 hB' e5
  rw [texts_lim (hlen e5), h6] at c6
  have hraw : rawPrim s = (s6, (k, n, t, a, o, w)) := by unfold rawPrim; simp only [h1, h2, h3, h4, h5, h6]
  rw [hraw] at hR
  unfold takePrim
  rw [hraw]
  dsimp only at c1 c2 c3 c4 c5 c6 hR ⊢
  unfold inS inV at *
  refine con_of Tryz.func124 rfl (dd rfl) fun w0 O0 => ?_
  refine c_seq (c_region ?_)
  refine o_step (s_box rfl (dd rfl) (fun b1 => ?_))
  refine o_step (s_alloc ti110 (dd rfl) (fun b2 => ?_))
  refine o_step (s_alloc ti129 (dd rfl) (fun b3 => ?_))
  refine o_nil (c_seq (c_region ?_))
  refine o_step (s_alloc ti129 (dd rfl) (fun b4 => ?_))
  refine o_nil (c_seq (c_region ?_))
  refine oV (vW Tryz.underlying110 ti110) ?_
  refine oC cl69 (c1) fun _ _ => ?_
  refine oV vM ?_
  refine oV vE ?_
  refine oV vE ?_
  refine o_step (s_alloc ti110 (dd rfl) (fun b5 => ?_))
  refine o_step (s_store_all ti110 rfl rfl (by first | exact CellsV.lit rfl | exact CellsV.one (by first | exact OneC.lit rfl | exact OneC.sl (hX (by repeat constructor)) )) (by repeat (first | exact OneAll.nil | (refine OneAll.cons ?_ ?_; · first | exact OneC.lit rfl | exact OneC.sl (hX (by repeat constructor)) ) | exact OneAll.rd (hX (by repeat constructor)))) rfl (pB (by repeat constructor)) rfl (?_))
  refine oV vA ?_
  refine o_nil (c_seq (c_region ?_))
  refine oV (vW Tryz.underlying110 ti110) ?_
  refine oC cl70 (c2) fun _ _ => ?_
  refine oV vM ?_
  refine oV vE ?_
  refine oV vE ?_
  refine o_step (s_store_all ti110 rfl rfl (by first | exact CellsV.lit rfl | exact CellsV.one (by first | exact OneC.lit rfl | exact OneC.sl (hX (by repeat constructor)) )) (by repeat (first | exact OneAll.nil | (refine OneAll.cons ?_ ?_; · first | exact OneC.lit rfl | exact OneC.sl (hX (by repeat constructor)) ) | exact OneAll.rd (hX (by repeat constructor)))) rfl (pB (by repeat constructor)) rfl (?_))
  refine oV vA ?_
  refine o_nil (c_seq (c_region ?_))
  refine oV (vW Tryz.underlying110 ti110) ?_
  refine oC cl70 (c3) fun _ _ => ?_
  refine oV vM ?_
  refine oV vE ?_
  refine oV vE ?_
  refine o_step (s_store_all ti110 rfl rfl (by first | exact CellsV.lit rfl | exact CellsV.one (by first | exact OneC.lit rfl | exact OneC.sl (hX (by repeat constructor)) )) (by repeat (first | exact OneAll.nil | (refine OneAll.cons ?_ ?_; · first | exact OneC.lit rfl | exact OneC.sl (hX (by repeat constructor)) ) | exact OneAll.rd (hX (by repeat constructor)))) rfl (pB (by repeat constructor)) rfl (?_))
  refine oV vA ?_
  refine o_nil (c_seq (c_region ?_))
  refine oV (vW Tryz.underlying110 ti110) ?_
  refine oC cl69 (c4) fun _ _ => ?_
  refine oV vM ?_
  refine oV vE ?_
  refine oV vE ?_
  refine o_step (s_store_all ti110 rfl rfl (by first | exact CellsV.lit rfl | exact CellsV.one (by first | exact OneC.lit rfl | exact OneC.sl (hX (by repeat constructor)) )) (by repeat (first | exact OneAll.nil | (refine OneAll.cons ?_ ?_; · first | exact OneC.lit rfl | exact OneC.sl (hX (by repeat constructor)) ) | exact OneAll.rd (hX (by repeat constructor)))) rfl (pB (by repeat constructor)) rfl (?_))
  refine oV vA ?_
  refine o_nil (c_seq (c_region ?_))
  refine oV (vW Tryz.underlying110 ti110) ?_
  refine oC cl72 (c5) fun g5 _ => ?_
  refine oV vM ?_
  refine oV vE ?_
  refine oV vE ?_
  refine o_step (s_store_all ti110 rfl rfl (by first | exact CellsV.lit rfl | exact CellsV.one (by first | exact OneC.lit rfl | exact OneC.sl (hX (by repeat constructor)) )) (by repeat (first | exact OneAll.nil | (refine OneAll.cons ?_ ?_; · first | exact OneC.lit rfl | exact OneC.sl (hX (by repeat constructor)) ) | exact OneAll.rd (hX (by repeat constructor)))) rfl (pB (by repeat constructor)) rfl (?_))
  refine oV vA ?_
  refine o_nil (c_seq (c_region ?_))
  refine oV (vW Tryz.underlying110 ti110) ?_
  refine oC cl72 (c6) fun g6 _ => ?_
  refine oV vM ?_
  refine oV vE ?_
  refine oV vE ?_
  refine o_step (s_store_all ti110 rfl rfl (by first | exact CellsV.lit rfl | exact CellsV.one (by first | exact OneC.lit rfl | exact OneC.sl (hX (by repeat constructor)) )) (by repeat (first | exact OneAll.nil | (refine OneAll.cons ?_ ?_; · first | exact OneC.lit rfl | exact OneC.sl (hX (by repeat constructor)) ) | exact OneAll.rd (hX (by repeat constructor)))) rfl (pB (by repeat constructor)) rfl (?_))
  refine oV vA ?_
  refine o_nil (c_seq (c_region ?_))
  iterate 6 refine oV vM ?_
  refine oV (v_buildS (places := [(0, 1), (1, 1), (2, 1), (3, 1), (4, 1), (5, 1)]) (cells := [_, _, _, _, _, _]) Tryz.underlying129 ti129 (by kernel_rfl) rfl (by repeat (first | exact PartsC.nil | (apply PartsC.one (by first | exact OneC.lit rfl | exact OneC.sl (hX (by repeat constructor)) )) | (apply PartsC.lit rfl))) rfl) ?_
  refine o_step (s_store_all ti129 rfl rfl (by first | exact CellsV.lit rfl | exact CellsV.one (by first | exact OneC.lit rfl | exact OneC.sl (hX (by repeat constructor)) )) (by repeat (first | exact OneAll.nil | (refine OneAll.cons ?_ ?_; · first | exact OneC.lit rfl | exact OneC.sl (hX (by repeat constructor)) ) | exact OneAll.rd (hX (by repeat constructor)))) rfl (pB (by repeat constructor)) rfl (?_))
  refine o_nil (c_seq (c_seq ?_))
  refine c_env (env' := [(1, _), (2, _), (3, _), (4, _), (5, _)]) (by repeat (first | exact trivial | refine ⟨rfl, ?_⟩)) ?_
  refine c_joinb (d := 55) (decide (s6.2 = true ∨ rightP (k, n, t, a, o, w) = false)) ?_ ?_
  rotate_left
  · intro J
    refine c_region ?_
    refine oV (vF 2 Tryz.underlying110 ti4) ?_
    refine oV (vL lone4) ?_
    refine oV vM ?_
    first | refine o_guard_f rfl rfl (fun g51 => ?_) (fun g51 => ?_) | refine o_guard rfl rfl (fun g51 => ?_) (fun g51 => ?_)
    · refine oV (vW Tryz.underlying129 ti129) ?_
      refine oN ?_
      refine o_step (s_callf_keep cl104 (hR g5 g6) rfl (dd rfl) (rX (by repeat constructor)) (fun _ => sX) (fun _ _ => ?_))
      refine oN ?_
      refine oV (v_not rfl) ?_
      refine oV vQ ?_
      refine o_nil ?_
      exact cJ J rfl (by first | rfl | (simp_all; done) | (simp_all; omega) | (simp; omega))
    · refine oX ?_
      iterate 2 refine oX ?_
      refine oV vT ?_
      refine o_nil ?_
      exact cJ J rfl (by first | rfl | (simp_all; done) | (simp_all; omega) | (simp; omega))
  refine c_cond_p rfl (fun hq => ?_) (fun hq => ?_)
  · rw [if_pos hq]
    refine c_seq (c_region ?_)
    refine oV (vW Tryz.underlying110 ti110) ?_
    refine oC cl123 (hS) fun _ _ => ?_
    refine oV (v_buildS (places := [(0, 1), (1, 1), (2, 1), (3, 1), (4, 1), (5, 1)]) (cells := [.int .i64 0, .string ⟨#[]⟩, .string ⟨#[]⟩, .int .i64 0, .slice none 0 0, .slice none 0 0]) Tryz.underlying129 ti129 (by kernel_rfl) rfl (by repeat (first | exact PartsC.nil | (apply PartsC.one (by first | exact OneC.lit rfl | exact OneC.sl (hX (by repeat constructor)) )) | (apply PartsC.lit rfl))) rfl) ?_
    refine o_step (s_store_all ti110 rfl rfl (by first | exact CellsV.lit rfl | exact CellsV.one (by first | exact OneC.lit rfl | exact OneC.sl (hX (by repeat constructor)) )) (by repeat (first | exact OneAll.nil | (refine OneAll.cons ?_ ?_; · first | exact OneC.lit rfl | exact OneC.sl (hX (by repeat constructor)) ) | exact OneAll.rd (hX (by repeat constructor)))) rfl (pB (by repeat constructor)) rfl (?_))
    refine o_step (s_store_all ti129 rfl rfl (by first | exact CellsV.lit rfl | exact CellsV.one (by first | exact OneC.lit rfl | exact OneC.sl (hX (by repeat constructor)) )) (by repeat (first | exact OneAll.nil | (refine OneAll.cons ?_ ?_; · first | exact OneC.lit rfl | exact OneC.sl (hX (by repeat constructor)) ) | exact OneAll.rd (hX (by repeat constructor)))) rfl (pB (by repeat constructor)) rfl (?_))
    refine o_nil ?_
    refine c_ret_cc Tryz.func124 rfl ⟨_, Tryz.underlying110⟩ ti110 ⟨_, Tryz.underlying129⟩ ti129 rfl rfl (hX (by repeat constructor)) (hX (by repeat constructor)) fun w O hS => ?_
    exact ⟨(.slice none 0 0, .slice none 0 0), rfl, trivial, Ent.get hS (eX (by repeat constructor))⟩
  · rw [if_neg hq]
    refine c_skip (c_seq ?_)
    refine c_held [BlkR b5 110 [.string B, .int .i64 (plc B s6), .bool s6.2], BlkR b4 129 [.int .i64 k, .string n, .string t, .int .i64 a, g5, g6]] rfl ?_
    refine aT 0 rfl (vW Tryz.underlying110 ti110) ?_
    refine aT 1 rfl (vW Tryz.underlying129 ti129) ?_
    refine aS 2 rfl ti110 ?_
    refine aS 3 rfl ti129 ?_
    refine a_done (by kernel_rfl) ?_ _
    refine c_ret_cc Tryz.func124 rfl ⟨_, Tryz.underlying110⟩ ti110 ⟨_, Tryz.underlying129⟩ ti129 rfl rfl (hX (by repeat constructor)) (hX (by repeat constructor)) fun w O hS => ?_
    exact ⟨(g5, g6), rfl, trivial, Ent.get hS (eX (by repeat constructor))⟩
end Go.Proofs.YtlfehnnmpkohkaaGreatDoor
/- Chapter 09: the document's readers: rows of changes, and patches. -/
namespace Go.Proofs.YtlfehnnmpkohkaaGreatDoor
open Go Go.SL Go.Lib
theorem pr_close {z : Pr9} {ov wv : Value} (w : World) (O : Perm) (h : Stars [Sl eStr ov z.2.2.2.2.1, Sl eStr wv z.2.2.2.2.2] w O) : ePr.rd w O [.int .i64 z.1, .string z.2.1, .string z.2.2.1, .int .i64 z.2.2.2.1, ov, wv] z := by
  obtain ⟨O1, O2, s1, h1, O3, O4, s2, h2, _⟩ := h
  refine ⟨[.int .i64 z.1], _, rfl, rfl, [.string z.2.1], _, rfl, rfl, [.string z.2.2.1], _, rfl, rfl, [.int .i64 z.2.2.2.1], _, rfl, rfl, [ov], [wv], rfl, ⟨ov, rfl, h1.mono fun b => s1.l b⟩, wv, rfl, h2.mono fun b => Nat.le_trans (s2.l b) (s1.r b)⟩
attribute [local irreducible] Cfg Kont StepK Val Con Qops Any Sl Own Blk BlkR Rd Pu ExA AllA Has Pick Ent Elem Beside Callable TI Lone OwnO AndA
set_option maxRecDepth 100000 in
theorem takePrimsRef_con (B : ByteArray) (s : St9) (most : Int) (hB : B.size ≤ big9) (h : EndsB B s) : Con Tryz.prog 73 [inS B s, .int .i64 most] [] (γ := Value)
    (fun g => .tuple #[inS B (takePrims most s).1, g]) (fun _ => True) (fun g => [Sl ePr g (takePrims most s).2]) := by
  have hB' : B.size ≤ 4611686018427387904 := by unfold big9 at hB; omega
  have hgn := h.goes goes_num
  have hfar := num_far (s := s)
  have hN := takeNumRef_con B s hB' h
  have hS := spoilRef_con B s
  obtain ⟨n, hn⟩ : ∃ n, n = (takeNum s).2 := ⟨_, rfl⟩
  obtain ⟨s1, hs1⟩ : ∃ s1, s1 = (takeNum s).1 := ⟨_, rfl⟩
  rw [← hn, ← hs1] at hN
  rw [← hn] at hfar
  rw [← hs1] at hgn
  unfold far9 at hfar
  unfold takePrims takeSome
  rw [← hn, ← hs1]
  unfold inS inV at *
  refine con_of Tryz.func73 rfl (dd rfl) fun w0 O0 => ?_
  refine c_seq (c_region ?_)
  refine o_step (s_box rfl (dd rfl) (fun b2 => ?_))
  refine o_step (s_alloc ti110 (dd rfl) (fun b4 => ?_))
  refine oV vA ?_
  refine o_nil (c_seq (c_region ?_))
  refine oV (vW Tryz.underlying110 ti110) ?_
  refine oC cl69 (hN) fun _ _ => ?_
  refine oV vM ?_
  refine oV vE ?_
  refine oV vE ?_
  refine o_step (s_alloc ti110 (dd rfl) (fun b6 => ?_))
  refine o_step (s_store_all ti110 rfl rfl (by first | exact CellsV.lit rfl | exact CellsV.one (by first | exact OneC.lit rfl | exact OneC.sl (hX (by repeat constructor)) )) (by repeat (first | exact OneAll.nil | (refine OneAll.cons ?_ ?_; · first | exact OneC.lit rfl | exact OneC.sl (hX (by repeat constructor)) ) | exact OneAll.rd (hX (by repeat constructor)))) rfl (pB (by repeat constructor)) rfl (?_))
  refine oV vA ?_
  refine o_nil (c_seq (c_seq ?_))
  refine c_env (env' := [(1, _), (2, _), (4, _), (5, _), (6, _), (7, _)]) (by repeat (first | exact trivial | refine ⟨rfl, ?_⟩)) ?_
  refine c_joinb (d := 27) (decide (s1.2 = true ∨ n < 0 ∨ most < n)) ?_ ?_
  rotate_left
  · intro J
    refine c_region ?_
    refine oV (vF 2 Tryz.underlying110 ti4) ?_
    refine oV (vL lone4) ?_
    refine oV vM ?_
    first | refine o_guard_f rfl rfl (fun g19 => ?_) (fun g19 => ?_) | refine o_guard rfl rfl (fun g19 => ?_) (fun g19 => ?_)
    · refine oV vM ?_
      refine oN ?_
      refine oV (v_lt rfl rfl) ?_
      refine oV vQ ?_
      refine oV vM ?_
      first | refine o_guard_f rfl rfl (fun g23 => ?_) (fun g23 => ?_) | refine o_guard rfl rfl (fun g23 => ?_) (fun g23 => ?_)
      · refine oV vM ?_
        refine oN ?_
        refine oV vM ?_
        refine oN ?_
        refine oV (v_gt rfl rfl) ?_
        refine oV vQ ?_
        refine o_nil ?_
        exact cJ J rfl (by first | rfl | (simp_all; done) | (simp_all; omega) | (simp; omega))
      · refine oX ?_
        iterate 2 refine oX ?_
        refine oV vT ?_
        refine o_nil ?_
        exact cJ J rfl (by first | rfl | (simp_all; done) | (simp_all; omega) | (simp; omega))
    · refine oX ?_
      refine oX ?_
      refine oV vT ?_
      refine oV vM ?_
      iterate 3 refine oX ?_
      refine oV vT ?_
      refine o_nil ?_
      exact cJ J rfl (by first | rfl | (simp_all; done) | (simp_all; omega) | (simp; omega))
  refine c_cond_p rfl (fun hq => ?_) (fun hq => ?_)
  · rw [if_pos hq]
    refine c_seq (c_region ?_)
    refine oV (vW Tryz.underlying110 ti110) ?_
    refine oC cl123 (hS) fun _ _ => ?_
    refine o_step (s_store_all ti110 rfl rfl (by first | exact CellsV.lit rfl | exact CellsV.one (by first | exact OneC.lit rfl | exact OneC.sl (hX (by repeat constructor)) )) (by repeat (first | exact OneAll.nil | (refine OneAll.cons ?_ ?_; · first | exact OneC.lit rfl | exact OneC.sl (hX (by repeat constructor)) ) | exact OneAll.rd (hX (by repeat constructor)))) rfl (pB (by repeat constructor)) rfl (?_))
    refine oV vA ?_
    refine o_nil ?_
    refine c_ret_ct Tryz.func73 rfl ⟨_, Tryz.underlying110⟩ ti110 rfl rfl (hX (by repeat constructor)) fun w O hS => ?_
    exact ⟨.slice none 0 0, rfl, trivial, Ent.get hS (eX (by repeat constructor))⟩
  · rw [if_neg hq]
    have hb1 : s1.2 = false := by cases e : s1.2 with | false => rfl | true => exact absurd (.inl e) hq
    refine c_skip (c_seq (c_region ?_))
    refine oV vA ?_
    refine o_nil (c_seq (c_seq (c_region ?_)))
    refine oV vA ?_
    refine o_nil (c_block ?_)
    refine c_loopR (γ := Nat × St9 × List Pr9 × Value) [(2, _), (4, _), (5, _), (6, _), (7, _)] (fun g => n.toNat - g.1) (fun g => g.1 ≤ n.toNat ∧ g.2.1.2 = false ∧ EndsB B g.2.1 ∧ g.2.2.1.length = g.1 ∧ takeMany takePrim (n.toNat - g.1) g.2.1 g.2.2.1 = takeMany takePrim n.toNat s1 []) (fun g => [(9, .int .i64 g.1), (8, g.2.2.2)]) (fun g => [Blk b2 110 [.string B, .int .i64 (plc B s), .bool s.2], Blk b4 110 [.string ⟨#[]⟩, .int .i64 0, .bool false], Blk b6 110 [.string B, .int .i64 (plc B g.2.1), .bool g.2.1.2], Own ePr 129 g.2.2.2 g.2.2.1]) ((0, s1, [], .slice none 0 0)) (⟨Nat.zero_le _, hb1, hgn, rfl, rfl⟩) (by repeat (first | exact trivial | refine ⟨rfl, ?_⟩)) (eX (by repeat constructor)) ?_
    rintro ⟨k, sk, out, v⟩ ⟨hk, hbk, hEk, hlk, hTk⟩ IH
    dsimp only at hk hbk hEk hlk hTk ⊢
    have hTT := takePrimRef_con B sk hB hEk
    unfold inS inV at hTT
    try dsimp only [List.cons_append, List.nil_append]
    refine c_seq (c_seq (c_region ?_))
    iterate 2 refine oV vM ?_
    refine oV (v_lt rfl rfl) ?_
    refine o_nil ?_
    refine c_cond_p rfl (fun hlt => ?_) (fun hlt => ?_)
    · have hkn : k < n.toNat := by omega
      have hst := takeMany_step takePrim (out := out) hkn hbk
      refine c_skip (c_seq (c_block (c_seq (c_region ?_))))
      refine oV (vW Tryz.underlying110 ti110) ?_
      refine oC cl124 (hTT) fun g _ => ?_
      refine oV vM ?_
      refine oV vE ?_
      refine oV vE ?_
      refine o_step (s_alloc ti110 (dd rfl) (fun b10 => ?_))
      refine o_step (s_alloc ti129 (dd rfl) (fun b11 => ?_))
      refine o_step (s_store_all ti110 rfl rfl (by first | exact CellsV.lit rfl | exact CellsV.one (by first | exact OneC.lit rfl | exact OneC.sl (hX (by repeat constructor)) )) (by repeat (first | exact OneAll.nil | (refine OneAll.cons ?_ ?_; · first | exact OneC.lit rfl | exact OneC.sl (hX (by repeat constructor)) ) | exact OneAll.rd (hX (by repeat constructor)))) rfl (pB (by repeat constructor)) rfl (?_))
      refine o_step (s_store_all ti129 rfl rfl (by first | exact CellsV.lit rfl | exact CellsV.one (by first | exact OneC.lit rfl | exact OneC.sl (hX (by repeat constructor)) )) (by repeat (first | exact OneAll.nil | (refine OneAll.cons ?_ ?_; · first | exact OneC.lit rfl | exact OneC.sl (hX (by repeat constructor)) ) | exact OneAll.rd (hX (by repeat constructor)))) rfl (pB (by repeat constructor)) rfl (?_))
      refine o_nil (c_seq (c_seq (c_region ?_)))
      refine oV (vF 2 Tryz.underlying110 ti4) ?_
      refine oV (vL lone4) ?_
      refine o_nil ?_
      refine c_cond rfl (fun hb => ?_) (fun hb => ?_)
      · have hbad := takeMany_bad takePrim (n.toNat - (k + 1)) (takePrim sk).1 (out ++ [(takePrim sk).2]) hb
        refine c_seq (c_region ?_)
        refine oV (vW Tryz.underlying110 ti110) ?_
        refine oC cl123 (hS) fun _ _ => ?_
        refine o_step (s_store_all ti110 rfl rfl (by first | exact CellsV.lit rfl | exact CellsV.one (by first | exact OneC.lit rfl | exact OneC.sl (hX (by repeat constructor)) )) (by repeat (first | exact OneAll.nil | (refine OneAll.cons ?_ ?_; · first | exact OneC.lit rfl | exact OneC.sl (hX (by repeat constructor)) ) | exact OneAll.rd (hX (by repeat constructor)))) rfl (pB (by repeat constructor)) rfl (?_))
        refine oV vA ?_
        refine o_nil ?_
        refine c_ret_ct Tryz.func73 rfl ⟨_, Tryz.underlying110⟩ ti110 rfl rfl (hX (by repeat constructor)) fun w O hS => ?_
        exact ⟨.slice none 0 0, by rw [← hTk, hst, hbad, if_pos hb]; rfl, trivial, by rw [← hTk, hst, hbad, if_pos hb]; exact Ent.get hS (eX (by repeat constructor))⟩
      · refine c_skip (c_seq (c_region ?_))
        refine oV (vW Tryz.underlying110 ti110) ?_
        refine o_step (s_store_all ti110 rfl rfl (by first | exact CellsV.lit rfl | exact CellsV.one (by first | exact OneC.lit rfl | exact OneC.sl (hX (by repeat constructor)) )) (by repeat (first | exact OneAll.nil | (refine OneAll.cons ?_ ?_; · first | exact OneC.lit rfl | exact OneC.sl (hX (by repeat constructor)) ) | exact OneAll.rd (hX (by repeat constructor)))) rfl (pB (by repeat constructor)) rfl (?_))
        refine o_nil (c_region ?_)
        refine oV vM ?_
        refine oV (vW Tryz.underlying129 ti129) ?_
        refine o_step (s_buildSlice Tryz.underlying24 ti129 rfl rfl rfl (by decide) (by decide) (beside_agg1 (beside_of (Lp := [Sl eStr g.1 (takePrim sk).2.2.2.2.2.1, Sl eStr g.2 (takePrim sk).2.2.2.2.2.2]) (pXs (by repeat constructor)) fun w O => pr_close (z := (takePrim sk).2) w O)) rfl rfl (dd rfl) fun v1 => ?_)
        refine o_step (s_append Tryz.underlying24 ti129 rfl (by decide) rfl rfl (dd rfl) (pB (by repeat constructor)) (pX (by repeat constructor)) rfl (by (first | omega | (simp only [maxLen, List.length_append, List.length_drop, List.length_take, List.length_nil, List.length_cons]; omega))) (by (first | omega | (simp only [maxLen, List.length_append, List.length_drop, List.length_take, List.length_nil, List.length_cons]; omega))) fun v2 => ?_)
        refine oV vA ?_
        refine o_nil (c_inBlock (c_region ?_))
        refine oV vM ?_
        refine oV ((by first | exact v_add64 rfl rfl (by omega) | exact v_add rfl rfl)) ?_
        refine oV vA ?_
        refine o_nil ?_
        refine cU (IH ((k + 1, (takePrim sk).1, out ++ [(takePrim sk).2], v2)) (by first | omega | (dsimp only; omega)) (⟨by dsimp only; omega, hb, hEk.goes goes_prim, by simp [hlk], hst.symm.trans hTk⟩))
    · have hend := takeMany_end takePrim (n := n.toNat) (k := k) (s := sk) (out := out) (by omega)
      refine c_exit rfl ?_
      refine c_seq (c_region ?_)
      refine oV (vW Tryz.underlying110 ti110) ?_
      refine oV vM ?_
      refine o_step (s_store_all ti110 rfl rfl (by first | exact CellsV.lit rfl | exact CellsV.one (by first | exact OneC.lit rfl | exact OneC.sl (hX (by repeat constructor)) )) (by repeat (first | exact OneAll.nil | (refine OneAll.cons ?_ ?_; · first | exact OneC.lit rfl | exact OneC.sl (hX (by repeat constructor)) ) | exact OneAll.rd (hX (by repeat constructor)))) rfl (pB (by repeat constructor)) rfl (?_))
      refine oV vA ?_
      refine o_nil ?_
      refine c_ret_ct Tryz.func73 rfl ⟨_, Tryz.underlying110⟩ ti110 rfl rfl (hX (by repeat constructor)) fun w O hS => ?_
      exact ⟨v, by rw [← hTk, hend, if_neg (by rw [hbk]; decide)]; rfl, trivial, by rw [← hTk, hend, if_neg (by rw [hbk]; decide)]; exact Ent.get hS (eX (by repeat constructor))⟩
end Go.Proofs.YtlfehnnmpkohkaaGreatDoor

/- The texts V2, D9, V3, V5, V6, V7, I4, one behind the other. -/
import Derived.Test.YtmgkeippepeggaaGreatDoorZY5
set_option linter.unusedVariables false
set_option linter.unusedSimpArgs false
/- Chapter 09: which names, lines and changes may be, as the document says it. -/
namespace Go.Proofs.YtmgkeippepeggaaGreatDoor
open Go Go.SL Go.Lib L01
theorem right_line (s : ByteArray) : decide (RightS s) = lineP s := by
  rw [Bool.eq_iff_iff, decide_eq_true_eq]
  unfold lineP RightS
  rw [Bool.and_eq_true, decide_eq_true_eq, List.all_eq_true]
  exact ⟨fun h => ⟨h.2, fun x hx => decide_eq_true fun k => h.1 (k ▸ hx)⟩, fun h => ⟨fun k => by have := of_decide_eq_true (h.2 10 k); exact this rfl, h.1⟩⟩
theorem all_line (l : List ByteArray) : decide (∀ x ∈ l, RightS x) = l.all lineP := by
  by_cases h : ∀ x ∈ l, RightS x
  · rw [decide_eq_true h]
    symm
    rw [List.all_eq_true]
    exact fun x hx => (right_line x).symm.trans (decide_eq_true (h x hx))
  · rw [decide_eq_false h]
    symm
    rw [List.all_eq_false]
    obtain ⟨x, h1⟩ := Classical.not_forall.1 h
    obtain ⟨hx, hr⟩ := Classical.not_imp.1 h1
    exact ⟨x, hx, by rw [← right_line, decide_eq_false hr]; decide⟩
theorem charP_eq (b : UInt8) (c : Int) (h : c = (b.toNat : Int)) : charP b = decide ((97 ≤ c ∧ c ≤ 122) ∨ (48 ≤ c ∧ c ≤ 57) ∨ c = 46 ∨ c = 45 ∨ c = 95 ∨ c = 47) := by
  unfold charP
  rw [Bool.eq_iff_iff]
  simp only [Bool.or_eq_true, Bool.and_eq_true, decide_eq_true_eq]
  omega
attribute [local irreducible] Cfg Kont StepK Val Con Qops Any Sl Own Blk BlkR Rd Pu ExA AllA Has Pick Ent Elem Beside Callable TI Lone OwnO AndA
set_option maxRecDepth 100000 in
theorem namedRef_con (s : ByteArray) (hs : s.size ≤ 4611686018427387904) : Con Tryz.prog 66 [.string s] [] (γ := Unit) (fun _ => .bool (namedP s)) (fun _ => True) (fun _ => []) := by
  have hbl := ba_len s
  refine con_of Tryz.func66 rfl (dd rfl) fun w0 O0 => ?_
  refine c_seq ?_
  refine c_region ?_
  refine o_val (v_assign rfl) (dd rfl) ?_
  refine o_nil ?_
  refine c_seq ?_
  refine c_seq ?_
  refine c_region ?_
  refine o_val (v_assign rfl) (dd rfl) ?_
  refine o_nil ?_
  refine c_block ?_
  refine c_loopR (γ := Nat) [(0, _), (2, _)] (fun k => s.size - k) (fun k => k ≤ s.size ∧ ∀ j (h : j < s.data.toList.length), j < k → charP s.data.toList[j] = true) (fun k => [(3, .int .i64 k)]) (fun _ => []) (0) (⟨Nat.zero_le _, fun _ _ h => absurd h (Nat.not_lt_zero _)⟩) (by repeat (first | exact trivial | refine ⟨rfl, ?_⟩)) (eX (by repeat constructor)) ?_
  rintro k ⟨hk, hc⟩ IH
  try dsimp only [List.cons_append, List.nil_append]
  refine c_seq ?_
  refine c_seq ?_
  refine c_region ?_
  refine o_val (v_move rfl) (dd rfl) ?_
  refine o_val (v_move rfl) (dd rfl) ?_
  refine o_val (v_len_str Tryz.underlying9 rfl) (dd rfl) ?_
  refine o_val (v_lt rfl rfl) (dd rfl) ?_
  refine o_nil ?_
  refine c_cond_p rfl (fun hlt => ?_) (fun hlt => ?_)
  · have hk' : k < s.data.toList.length := by omega
    have hsa := sAt_get (B := s) (k := k) hk'
    have hch := charP_eq (s.data.toList[k]'hk') (sAt s k) hsa
    have h256 := UInt8.toNat_lt (s.data.toList[k]'hk')
    refine c_skip ?_
    refine c_seq ?_
    refine c_block ?_
    refine c_seq ?_
    refine c_region ?_
    refine o_val (v_move rfl) (dd rfl) ?_
    refine o_val (v_move rfl) (dd rfl) ?_
    refine o_val (v_index_str Tryz.underlying9 rfl rfl (by omega)) (dd rfl) ?_
    refine o_val (v_assign rfl) (dd rfl) ?_
    refine o_nil ?_
    refine c_seq ?_
    refine c_env (env' := [(0, _), (2, _), (3, _), (4, _), (5, _), (6, _), (7, _), (8, _), (11, _), (12, _), (13, _)]) (by repeat (first | exact trivial | refine ⟨rfl, ?_⟩)) ?_
    refine c_joinb (d := 45) (decide (¬ charP (s.data.toList[k]'hk') = true)) ?_ ?_
    rotate_left
    · intro J
      refine c_region ?_
      refine o_val (v_move rfl) (dd rfl) ?_
      refine o_val (v_ge rfl rfl) (dd rfl) ?_
      refine o_val (v_move rfl) (dd rfl) ?_
      first | refine o_guard_t rfl rfl (fun g16 => ?_) (fun g16 => ?_) | refine o_guard rfl rfl (fun g16 => ?_) (fun g16 => ?_)
      · refine o_val (v_move rfl) (dd rfl) ?_
        refine o_on rfl rfl ?_
        refine o_val (v_le rfl rfl) (dd rfl) ?_
        refine o_val (v_pick_t rfl rfl) (dd rfl) ?_
        refine o_val (v_not rfl) (dd rfl) ?_
        refine o_val (v_move rfl) (dd rfl) ?_
        first | refine o_guard_t rfl rfl (fun g21 => ?_) (fun g21 => ?_) | refine o_guard rfl rfl (fun g21 => ?_) (fun g21 => ?_)
        · refine o_val (v_move rfl) (dd rfl) ?_
          refine o_on rfl rfl ?_
          refine o_val (v_ge rfl rfl) (dd rfl) ?_
          refine o_on rfl rfl ?_
          refine o_val (v_move rfl) (dd rfl) ?_
          first | refine o_guard_t rfl rfl (fun g24 => ?_) (fun g24 => ?_) | refine o_guard rfl rfl (fun g24 => ?_) (fun g24 => ?_)
          · refine o_val (v_move rfl) (dd rfl) ?_
            refine o_on rfl rfl ?_
            refine o_val (v_le rfl rfl) (dd rfl) ?_
            refine o_on rfl rfl ?_
            refine o_val (v_pick_t rfl rfl) (dd rfl) ?_
            refine o_on rfl rfl ?_
            refine o_val (v_not rfl) (dd rfl) ?_
            refine o_val (v_pick_t rfl rfl) (dd rfl) ?_
            refine o_val (v_move rfl) (dd rfl) ?_
            first | refine o_guard_t rfl rfl (fun g30 => ?_) (fun g30 => ?_) | refine o_guard rfl rfl (fun g30 => ?_) (fun g30 => ?_)
            · refine o_val (v_move rfl) (dd rfl) ?_
              refine o_on rfl rfl ?_
              refine o_val (v_ne rfl rfl) (dd rfl) ?_
              refine o_val (v_pick_t rfl rfl) (dd rfl) ?_
              refine o_val (v_move rfl) (dd rfl) ?_
              first | refine o_guard_t rfl rfl (fun g34 => ?_) (fun g34 => ?_) | refine o_guard rfl rfl (fun g34 => ?_) (fun g34 => ?_)
              · refine o_val (v_move rfl) (dd rfl) ?_
                refine o_on rfl rfl ?_
                refine o_val (v_ne rfl rfl) (dd rfl) ?_
                refine o_val (v_pick_t rfl rfl) (dd rfl) ?_
                refine o_val (v_move rfl) (dd rfl) ?_
                first | refine o_guard_t rfl rfl (fun g38 => ?_) (fun g38 => ?_) | refine o_guard rfl rfl (fun g38 => ?_) (fun g38 => ?_)
                · refine o_val (v_move rfl) (dd rfl) ?_
                  refine o_on rfl rfl ?_
                  refine o_val (v_ne rfl rfl) (dd rfl) ?_
                  refine o_val (v_pick_t rfl rfl) (dd rfl) ?_
                  refine o_val (v_move rfl) (dd rfl) ?_
                  first | refine o_guard_t rfl rfl (fun g42 => ?_) (fun g42 => ?_) | refine o_guard rfl rfl (fun g42 => ?_) (fun g42 => ?_)
                  · refine o_val (v_move rfl) (dd rfl) ?_
                    refine o_on rfl rfl ?_
                    refine o_val (v_ne rfl rfl) (dd rfl) ?_
                    refine o_val (v_pick_t rfl rfl) (dd rfl) ?_
                    refine o_nil ?_
                    exact c_use J ⟨Env.as rfl (congrArg Value.bool (by clear IH hc hsa h256; rw [hch]; first | (simp_all; done) | (simp_all; omega) | (simp_all; rw [Bool.eq_iff_iff]; simp only [Bool.or_eq_true, Bool.and_eq_true, Bool.not_eq_true', decide_eq_true_eq, decide_eq_false_iff_not]; omega))), (by repeat (first | exact trivial | refine ⟨rfl, ?_⟩))⟩ (by first | exact Ent.refl _ | exact eX (by repeat constructor))
                  · refine o_off rfl rfl rfl (dd rfl) ?_
                    refine o_off rfl rfl rfl (dd rfl) ?_
                    refine o_val (v_pick_f rfl rfl) (dd rfl) ?_
                    refine o_nil ?_
                    exact c_use J ⟨Env.as rfl (congrArg Value.bool (by clear IH hc hsa h256; rw [hch]; first | (simp_all; done) | (simp_all; omega) | (simp_all; rw [Bool.eq_iff_iff]; simp only [Bool.or_eq_true, Bool.and_eq_true, Bool.not_eq_true', decide_eq_true_eq, decide_eq_false_iff_not]; omega))), (by repeat (first | exact trivial | refine ⟨rfl, ?_⟩))⟩ (by first | exact Ent.refl _ | exact eX (by repeat constructor))
                · refine o_off rfl rfl rfl (dd rfl) ?_
                  refine o_off rfl rfl rfl (dd rfl) ?_
                  refine o_val (v_pick_f rfl rfl) (dd rfl) ?_
                  refine o_val (v_move rfl) (dd rfl) ?_
                  refine o_off rfl rfl rfl (dd rfl) ?_
                  refine o_off rfl rfl rfl (dd rfl) ?_
                  refine o_val (v_pick_f rfl rfl) (dd rfl) ?_
                  refine o_nil ?_
                  exact c_use J ⟨Env.as rfl (congrArg Value.bool (by clear IH hc hsa h256; rw [hch]; first | (simp_all; done) | (simp_all; omega) | (simp_all; rw [Bool.eq_iff_iff]; simp only [Bool.or_eq_true, Bool.and_eq_true, Bool.not_eq_true', decide_eq_true_eq, decide_eq_false_iff_not]; omega))), (by repeat (first | exact trivial | refine ⟨rfl, ?_⟩))⟩ (by first | exact Ent.refl _ | exact eX (by repeat constructor))
              · refine o_off rfl rfl rfl (dd rfl) ?_
                refine o_off rfl rfl rfl (dd rfl) ?_
                refine o_val (v_pick_f rfl rfl) (dd rfl) ?_
                refine o_val (v_move rfl) (dd rfl) ?_
                refine o_off rfl rfl rfl (dd rfl) ?_
                refine o_off rfl rfl rfl (dd rfl) ?_
                refine o_val (v_pick_f rfl rfl) (dd rfl) ?_
                refine o_val (v_move rfl) (dd rfl) ?_
                refine o_off rfl rfl rfl (dd rfl) ?_
                refine o_off rfl rfl rfl (dd rfl) ?_
                refine o_val (v_pick_f rfl rfl) (dd rfl) ?_
                refine o_nil ?_
                exact c_use J ⟨Env.as rfl (congrArg Value.bool (by clear IH hc hsa h256; rw [hch]; first | (simp_all; done) | (simp_all; omega) | (simp_all; rw [Bool.eq_iff_iff]; simp only [Bool.or_eq_true, Bool.and_eq_true, Bool.not_eq_true', decide_eq_true_eq, decide_eq_false_iff_not]; omega))), (by repeat (first | exact trivial | refine ⟨rfl, ?_⟩))⟩ (by first | exact Ent.refl _ | exact eX (by repeat constructor))
            · refine o_off rfl rfl rfl (dd rfl) ?_
              refine o_off rfl rfl rfl (dd rfl) ?_
              refine o_val (v_pick_f rfl rfl) (dd rfl) ?_
              refine o_val (v_move rfl) (dd rfl) ?_
              refine o_off rfl rfl rfl (dd rfl) ?_
              refine o_off rfl rfl rfl (dd rfl) ?_
              refine o_val (v_pick_f rfl rfl) (dd rfl) ?_
              refine o_val (v_move rfl) (dd rfl) ?_
              refine o_off rfl rfl rfl (dd rfl) ?_
              refine o_off rfl rfl rfl (dd rfl) ?_
              refine o_val (v_pick_f rfl rfl) (dd rfl) ?_
              refine o_val (v_move rfl) (dd rfl) ?_
              refine o_off rfl rfl rfl (dd rfl) ?_
              refine o_off rfl rfl rfl (dd rfl) ?_
              refine o_val (v_pick_f rfl rfl) (dd rfl) ?_
              refine o_nil ?_
              exact c_use J ⟨Env.as rfl (congrArg Value.bool (by clear IH hc hsa h256; rw [hch]; first | (simp_all; done) | (simp_all; omega) | (simp_all; rw [Bool.eq_iff_iff]; simp only [Bool.or_eq_true, Bool.and_eq_true, Bool.not_eq_true', decide_eq_true_eq, decide_eq_false_iff_not]; omega))), (by repeat (first | exact trivial | refine ⟨rfl, ?_⟩))⟩ (by first | exact Ent.refl _ | exact eX (by repeat constructor))
          · refine o_off rfl rfl rfl (dd rfl) ?_
            refine o_off rfl rfl rfl (dd rfl) ?_
            refine o_on rfl rfl ?_
            refine o_val (v_pick_f rfl rfl) (dd rfl) ?_
            refine o_on rfl rfl ?_
            refine o_val (v_not rfl) (dd rfl) ?_
            refine o_val (v_pick_t rfl rfl) (dd rfl) ?_
            refine o_val (v_move rfl) (dd rfl) ?_
            refine o_on rfl rfl ?_
            refine o_val (v_move rfl) (dd rfl) ?_
            refine o_on rfl rfl ?_
            refine o_val (v_ne rfl rfl) (dd rfl) ?_
            refine o_val (v_pick_t rfl rfl) (dd rfl) ?_
            refine o_val (v_move rfl) (dd rfl) ?_
            first | refine o_guard_t rfl rfl (fun g34 => ?_) (fun g34 => ?_) | refine o_guard rfl rfl (fun g34 => ?_) (fun g34 => ?_)
            · refine o_val (v_move rfl) (dd rfl) ?_
              refine o_on rfl rfl ?_
              refine o_val (v_ne rfl rfl) (dd rfl) ?_
              refine o_val (v_pick_t rfl rfl) (dd rfl) ?_
              refine o_val (v_move rfl) (dd rfl) ?_
              first | refine o_guard_t rfl rfl (fun g38 => ?_) (fun g38 => ?_) | refine o_guard rfl rfl (fun g38 => ?_) (fun g38 => ?_)
              · refine o_val (v_move rfl) (dd rfl) ?_
                refine o_on rfl rfl ?_
                refine o_val (v_ne rfl rfl) (dd rfl) ?_
                refine o_val (v_pick_t rfl rfl) (dd rfl) ?_
                refine o_val (v_move rfl) (dd rfl) ?_
                first | refine o_guard_t rfl rfl (fun g42 => ?_) (fun g42 => ?_) | refine o_guard rfl rfl (fun g42 => ?_) (fun g42 => ?_)
                · refine o_val (v_move rfl) (dd rfl) ?_
                  refine o_on rfl rfl ?_
                  refine o_val (v_ne rfl rfl) (dd rfl) ?_
                  refine o_val (v_pick_t rfl rfl) (dd rfl) ?_
                  refine o_nil ?_
                  exact c_use J ⟨Env.as rfl (congrArg Value.bool (by clear IH hc hsa h256; rw [hch]; first | (simp_all; done) | (simp_all; omega) | (simp_all; rw [Bool.eq_iff_iff]; simp only [Bool.or_eq_true, Bool.and_eq_true, Bool.not_eq_true', decide_eq_true_eq, decide_eq_false_iff_not]; omega))), (by repeat (first | exact trivial | refine ⟨rfl, ?_⟩))⟩ (by first | exact Ent.refl _ | exact eX (by repeat constructor))
                · refine o_off rfl rfl rfl (dd rfl) ?_
                  refine o_off rfl rfl rfl (dd rfl) ?_
                  refine o_val (v_pick_f rfl rfl) (dd rfl) ?_
                  refine o_nil ?_
                  exact c_use J ⟨Env.as rfl (congrArg Value.bool (by clear IH hc hsa h256; rw [hch]; first | (simp_all; done) | (simp_all; omega) | (simp_all; rw [Bool.eq_iff_iff]; simp only [Bool.or_eq_true, Bool.and_eq_true, Bool.not_eq_true', decide_eq_true_eq, decide_eq_false_iff_not]; omega))), (by repeat (first | exact trivial | refine ⟨rfl, ?_⟩))⟩ (by first | exact Ent.refl _ | exact eX (by repeat constructor))
              · refine o_off rfl rfl rfl (dd rfl) ?_
                refine o_off rfl rfl rfl (dd rfl) ?_
                refine o_val (v_pick_f rfl rfl) (dd rfl) ?_
                refine o_val (v_move rfl) (dd rfl) ?_
                refine o_off rfl rfl rfl (dd rfl) ?_
                refine o_off rfl rfl rfl (dd rfl) ?_
                refine o_val (v_pick_f rfl rfl) (dd rfl) ?_
                refine o_nil ?_
                exact c_use J ⟨Env.as rfl (congrArg Value.bool (by clear IH hc hsa h256; rw [hch]; first | (simp_all; done) | (simp_all; omega) | (simp_all; rw [Bool.eq_iff_iff]; simp only [Bool.or_eq_true, Bool.and_eq_true, Bool.not_eq_true', decide_eq_true_eq, decide_eq_false_iff_not]; omega))), (by repeat (first | exact trivial | refine ⟨rfl, ?_⟩))⟩ (by first | exact Ent.refl _ | exact eX (by repeat constructor))
            · refine o_off rfl rfl rfl (dd rfl) ?_
              refine o_off rfl rfl rfl (dd rfl) ?_
              refine o_val (v_pick_f rfl rfl) (dd rfl) ?_
              refine o_val (v_move rfl) (dd rfl) ?_
              refine o_off rfl rfl rfl (dd rfl) ?_
              refine o_off rfl rfl rfl (dd rfl) ?_
              refine o_val (v_pick_f rfl rfl) (dd rfl) ?_
              refine o_val (v_move rfl) (dd rfl) ?_
              refine o_off rfl rfl rfl (dd rfl) ?_
              refine o_off rfl rfl rfl (dd rfl) ?_
              refine o_val (v_pick_f rfl rfl) (dd rfl) ?_
              refine o_nil ?_
              exact c_use J ⟨Env.as rfl (congrArg Value.bool (by clear IH hc hsa h256; rw [hch]; first | (simp_all; done) | (simp_all; omega) | (simp_all; rw [Bool.eq_iff_iff]; simp only [Bool.or_eq_true, Bool.and_eq_true, Bool.not_eq_true', decide_eq_true_eq, decide_eq_false_iff_not]; omega))), (by repeat (first | exact trivial | refine ⟨rfl, ?_⟩))⟩ (by first | exact Ent.refl _ | exact eX (by repeat constructor))
        · refine o_off rfl rfl rfl (dd rfl) ?_
          refine o_off rfl rfl rfl (dd rfl) ?_
          refine o_off rfl rfl rfl (dd rfl) ?_
          refine o_offu rfl rfl (dd rfl) ?_
          refine o_offu rfl rfl (dd rfl) ?_
          refine o_off rfl rfl rfl (dd rfl) ?_
          refine o_off rfl rfl rfl (dd rfl) ?_
          refine o_val (v_pick_f rfl rfl) (dd rfl) ?_
          refine o_val (v_move rfl) (dd rfl) ?_
          refine o_off rfl rfl rfl (dd rfl) ?_
          refine o_off rfl rfl rfl (dd rfl) ?_
          refine o_val (v_pick_f rfl rfl) (dd rfl) ?_
          refine o_val (v_move rfl) (dd rfl) ?_
          refine o_off rfl rfl rfl (dd rfl) ?_
          refine o_off rfl rfl rfl (dd rfl) ?_
          refine o_val (v_pick_f rfl rfl) (dd rfl) ?_
          refine o_val (v_move rfl) (dd rfl) ?_
          refine o_off rfl rfl rfl (dd rfl) ?_
          refine o_off rfl rfl rfl (dd rfl) ?_
          refine o_val (v_pick_f rfl rfl) (dd rfl) ?_
          refine o_val (v_move rfl) (dd rfl) ?_
          refine o_off rfl rfl rfl (dd rfl) ?_
          refine o_off rfl rfl rfl (dd rfl) ?_
          refine o_val (v_pick_f rfl rfl) (dd rfl) ?_
          refine o_nil ?_
          exact c_use J ⟨Env.as rfl (congrArg Value.bool (by clear IH hc hsa h256; rw [hch]; first | (simp_all; done) | (simp_all; omega) | (simp_all; rw [Bool.eq_iff_iff]; simp only [Bool.or_eq_true, Bool.and_eq_true, Bool.not_eq_true', decide_eq_true_eq, decide_eq_false_iff_not]; omega))), (by repeat (first | exact trivial | refine ⟨rfl, ?_⟩))⟩ (by first | exact Ent.refl _ | exact eX (by repeat constructor))
      · refine o_off rfl rfl rfl (dd rfl) ?_
        refine o_off rfl rfl rfl (dd rfl) ?_
        refine o_val (v_pick_f rfl rfl) (dd rfl) ?_
        refine o_val (v_not rfl) (dd rfl) ?_
        refine o_val (v_move rfl) (dd rfl) ?_
        refine o_on rfl rfl ?_
        refine o_val (v_move rfl) (dd rfl) ?_
        refine o_on rfl rfl ?_
        refine o_val (v_ge rfl rfl) (dd rfl) ?_
        refine o_on rfl rfl ?_
        refine o_val (v_move rfl) (dd rfl) ?_
        first | refine o_guard_t rfl rfl (fun g24 => ?_) (fun g24 => ?_) | refine o_guard rfl rfl (fun g24 => ?_) (fun g24 => ?_)
        · refine o_val (v_move rfl) (dd rfl) ?_
          refine o_on rfl rfl ?_
          refine o_val (v_le rfl rfl) (dd rfl) ?_
          refine o_on rfl rfl ?_
          refine o_val (v_pick_t rfl rfl) (dd rfl) ?_
          refine o_on rfl rfl ?_
          refine o_val (v_not rfl) (dd rfl) ?_
          refine o_val (v_pick_t rfl rfl) (dd rfl) ?_
          refine o_val (v_move rfl) (dd rfl) ?_
          first | refine o_guard_t rfl rfl (fun g30 => ?_) (fun g30 => ?_) | refine o_guard rfl rfl (fun g30 => ?_) (fun g30 => ?_)
          · refine o_val (v_move rfl) (dd rfl) ?_
            refine o_on rfl rfl ?_
            refine o_val (v_ne rfl rfl) (dd rfl) ?_
            refine o_val (v_pick_t rfl rfl) (dd rfl) ?_
            refine o_val (v_move rfl) (dd rfl) ?_
            first | refine o_guard_t rfl rfl (fun g34 => ?_) (fun g34 => ?_) | refine o_guard rfl rfl (fun g34 => ?_) (fun g34 => ?_)
            · refine o_val (v_move rfl) (dd rfl) ?_
              refine o_on rfl rfl ?_
              refine o_val (v_ne rfl rfl) (dd rfl) ?_
              refine o_val (v_pick_t rfl rfl) (dd rfl) ?_
              refine o_val (v_move rfl) (dd rfl) ?_
              first | refine o_guard_t rfl rfl (fun g38 => ?_) (fun g38 => ?_) | refine o_guard rfl rfl (fun g38 => ?_) (fun g38 => ?_)
              · refine o_val (v_move rfl) (dd rfl) ?_
                refine o_on rfl rfl ?_
                refine o_val (v_ne rfl rfl) (dd rfl) ?_
                refine o_val (v_pick_t rfl rfl) (dd rfl) ?_
                refine o_val (v_move rfl) (dd rfl) ?_
                first | refine o_guard_t rfl rfl (fun g42 => ?_) (fun g42 => ?_) | refine o_guard rfl rfl (fun g42 => ?_) (fun g42 => ?_)
                · refine o_val (v_move rfl) (dd rfl) ?_
                  refine o_on rfl rfl ?_
                  refine o_val (v_ne rfl rfl) (dd rfl) ?_
                  refine o_val (v_pick_t rfl rfl) (dd rfl) ?_
                  refine o_nil ?_
                  exact c_use J ⟨Env.as rfl (congrArg Value.bool (by clear IH hc hsa h256; rw [hch]; first | (simp_all; done) | (simp_all; omega) | (simp_all; rw [Bool.eq_iff_iff]; simp only [Bool.or_eq_true, Bool.and_eq_true, Bool.not_eq_true', decide_eq_true_eq, decide_eq_false_iff_not]; omega))), (by repeat (first | exact trivial | refine ⟨rfl, ?_⟩))⟩ (by first | exact Ent.refl _ | exact eX (by repeat constructor))
                · refine o_off rfl rfl rfl (dd rfl) ?_
                  refine o_off rfl rfl rfl (dd rfl) ?_
                  refine o_val (v_pick_f rfl rfl) (dd rfl) ?_
                  refine o_nil ?_
                  exact c_use J ⟨Env.as rfl (congrArg Value.bool (by clear IH hc hsa h256; rw [hch]; first | (simp_all; done) | (simp_all; omega) | (simp_all; rw [Bool.eq_iff_iff]; simp only [Bool.or_eq_true, Bool.and_eq_true, Bool.not_eq_true', decide_eq_true_eq, decide_eq_false_iff_not]; omega))), (by repeat (first | exact trivial | refine ⟨rfl, ?_⟩))⟩ (by first | exact Ent.refl _ | exact eX (by repeat constructor))
              · refine o_off rfl rfl rfl (dd rfl) ?_
                refine o_off rfl rfl rfl (dd rfl) ?_
                refine o_val (v_pick_f rfl rfl) (dd rfl) ?_
                refine o_val (v_move rfl) (dd rfl) ?_
                refine o_off rfl rfl rfl (dd rfl) ?_
                refine o_off rfl rfl rfl (dd rfl) ?_
                refine o_val (v_pick_f rfl rfl) (dd rfl) ?_
                refine o_nil ?_
                exact c_use J ⟨Env.as rfl (congrArg Value.bool (by clear IH hc hsa h256; rw [hch]; first | (simp_all; done) | (simp_all; omega) | (simp_all; rw [Bool.eq_iff_iff]; simp only [Bool.or_eq_true, Bool.and_eq_true, Bool.not_eq_true', decide_eq_true_eq, decide_eq_false_iff_not]; omega))), (by repeat (first | exact trivial | refine ⟨rfl, ?_⟩))⟩ (by first | exact Ent.refl _ | exact eX (by repeat constructor))
            · refine o_off rfl rfl rfl (dd rfl) ?_
              refine o_off rfl rfl rfl (dd rfl) ?_
              refine o_val (v_pick_f rfl rfl) (dd rfl) ?_
              refine o_val (v_move rfl) (dd rfl) ?_
              refine o_off rfl rfl rfl (dd rfl) ?_
              refine o_off rfl rfl rfl (dd rfl) ?_
              refine o_val (v_pick_f rfl rfl) (dd rfl) ?_
              refine o_val (v_move rfl) (dd rfl) ?_
              refine o_off rfl rfl rfl (dd rfl) ?_
              refine o_off rfl rfl rfl (dd rfl) ?_
              refine o_val (v_pick_f rfl rfl) (dd rfl) ?_
              refine o_nil ?_
              exact c_use J ⟨Env.as rfl (congrArg Value.bool (by clear IH hc hsa h256; rw [hch]; first | (simp_all; done) | (simp_all; omega) | (simp_all; rw [Bool.eq_iff_iff]; simp only [Bool.or_eq_true, Bool.and_eq_true, Bool.not_eq_true', decide_eq_true_eq, decide_eq_false_iff_not]; omega))), (by repeat (first | exact trivial | refine ⟨rfl, ?_⟩))⟩ (by first | exact Ent.refl _ | exact eX (by repeat constructor))
          · refine o_off rfl rfl rfl (dd rfl) ?_
            refine o_off rfl rfl rfl (dd rfl) ?_
            refine o_val (v_pick_f rfl rfl) (dd rfl) ?_
            refine o_val (v_move rfl) (dd rfl) ?_
            refine o_off rfl rfl rfl (dd rfl) ?_
            refine o_off rfl rfl rfl (dd rfl) ?_
            refine o_val (v_pick_f rfl rfl) (dd rfl) ?_
            refine o_val (v_move rfl) (dd rfl) ?_
            refine o_off rfl rfl rfl (dd rfl) ?_
            refine o_off rfl rfl rfl (dd rfl) ?_
            refine o_val (v_pick_f rfl rfl) (dd rfl) ?_
            refine o_val (v_move rfl) (dd rfl) ?_
            refine o_off rfl rfl rfl (dd rfl) ?_
            refine o_off rfl rfl rfl (dd rfl) ?_
            refine o_val (v_pick_f rfl rfl) (dd rfl) ?_
            refine o_nil ?_
            exact c_use J ⟨Env.as rfl (congrArg Value.bool (by clear IH hc hsa h256; rw [hch]; first | (simp_all; done) | (simp_all; omega) | (simp_all; rw [Bool.eq_iff_iff]; simp only [Bool.or_eq_true, Bool.and_eq_true, Bool.not_eq_true', decide_eq_true_eq, decide_eq_false_iff_not]; omega))), (by repeat (first | exact trivial | refine ⟨rfl, ?_⟩))⟩ (by first | exact Ent.refl _ | exact eX (by repeat constructor))
        · refine o_off rfl rfl rfl (dd rfl) ?_
          refine o_off rfl rfl rfl (dd rfl) ?_
          refine o_on rfl rfl ?_
          refine o_val (v_pick_f rfl rfl) (dd rfl) ?_
          refine o_on rfl rfl ?_
          refine o_val (v_not rfl) (dd rfl) ?_
          refine o_val (v_pick_t rfl rfl) (dd rfl) ?_
          refine o_val (v_move rfl) (dd rfl) ?_
          refine o_on rfl rfl ?_
          refine o_val (v_move rfl) (dd rfl) ?_
          refine o_on rfl rfl ?_
          refine o_val (v_ne rfl rfl) (dd rfl) ?_
          refine o_val (v_pick_t rfl rfl) (dd rfl) ?_
          refine o_val (v_move rfl) (dd rfl) ?_
          first | refine o_guard_t rfl rfl (fun g34 => ?_) (fun g34 => ?_) | refine o_guard rfl rfl (fun g34 => ?_) (fun g34 => ?_)
          · refine o_val (v_move rfl) (dd rfl) ?_
            refine o_on rfl rfl ?_
            refine o_val (v_ne rfl rfl) (dd rfl) ?_
            refine o_val (v_pick_t rfl rfl) (dd rfl) ?_
            refine o_val (v_move rfl) (dd rfl) ?_
            first | refine o_guard_t rfl rfl (fun g38 => ?_) (fun g38 => ?_) | refine o_guard rfl rfl (fun g38 => ?_) (fun g38 => ?_)
            · refine o_val (v_move rfl) (dd rfl) ?_
              refine o_on rfl rfl ?_
              refine o_val (v_ne rfl rfl) (dd rfl) ?_
              refine o_val (v_pick_t rfl rfl) (dd rfl) ?_
              refine o_val (v_move rfl) (dd rfl) ?_
              first | refine o_guard_t rfl rfl (fun g42 => ?_) (fun g42 => ?_) | refine o_guard rfl rfl (fun g42 => ?_) (fun g42 => ?_)
              · refine o_val (v_move rfl) (dd rfl) ?_
                refine o_on rfl rfl ?_
                refine o_val (v_ne rfl rfl) (dd rfl) ?_
                refine o_val (v_pick_t rfl rfl) (dd rfl) ?_
                refine o_nil ?_
                exact c_use J ⟨Env.as rfl (congrArg Value.bool (by clear IH hc hsa h256; rw [hch]; first | (simp_all; done) | (simp_all; omega) | (simp_all; rw [Bool.eq_iff_iff]; simp only [Bool.or_eq_true, Bool.and_eq_true, Bool.not_eq_true', decide_eq_true_eq, decide_eq_false_iff_not]; omega))), (by repeat (first | exact trivial | refine ⟨rfl, ?_⟩))⟩ (by first | exact Ent.refl _ | exact eX (by repeat constructor))
              · refine o_off rfl rfl rfl (dd rfl) ?_
                refine o_off rfl rfl rfl (dd rfl) ?_
                refine o_val (v_pick_f rfl rfl) (dd rfl) ?_
                refine o_nil ?_
                exact c_use J ⟨Env.as rfl (congrArg Value.bool (by clear IH hc hsa h256; rw [hch]; first | (simp_all; done) | (simp_all; omega) | (simp_all; rw [Bool.eq_iff_iff]; simp only [Bool.or_eq_true, Bool.and_eq_true, Bool.not_eq_true', decide_eq_true_eq, decide_eq_false_iff_not]; omega))), (by repeat (first | exact trivial | refine ⟨rfl, ?_⟩))⟩ (by first | exact Ent.refl _ | exact eX (by repeat constructor))
            · refine o_off rfl rfl rfl (dd rfl) ?_
              refine o_off rfl rfl rfl (dd rfl) ?_
              refine o_val (v_pick_f rfl rfl) (dd rfl) ?_
              refine o_val (v_move rfl) (dd rfl) ?_
              refine o_off rfl rfl rfl (dd rfl) ?_
              refine o_off rfl rfl rfl (dd rfl) ?_
              refine o_val (v_pick_f rfl rfl) (dd rfl) ?_
              refine o_nil ?_
              exact c_use J ⟨Env.as rfl (congrArg Value.bool (by clear IH hc hsa h256; rw [hch]; first | (simp_all; done) | (simp_all; omega) | (simp_all; rw [Bool.eq_iff_iff]; simp only [Bool.or_eq_true, Bool.and_eq_true, Bool.not_eq_true', decide_eq_true_eq, decide_eq_false_iff_not]; omega))), (by repeat (first | exact trivial | refine ⟨rfl, ?_⟩))⟩ (by first | exact Ent.refl _ | exact eX (by repeat constructor))
          · refine o_off rfl rfl rfl (dd rfl) ?_
            refine o_off rfl rfl rfl (dd rfl) ?_
            refine o_val (v_pick_f rfl rfl) (dd rfl) ?_
            refine o_val (v_move rfl) (dd rfl) ?_
            refine o_off rfl rfl rfl (dd rfl) ?_
            refine o_off rfl rfl rfl (dd rfl) ?_
            refine o_val (v_pick_f rfl rfl) (dd rfl) ?_
            refine o_val (v_move rfl) (dd rfl) ?_
            refine o_off rfl rfl rfl (dd rfl) ?_
            refine o_off rfl rfl rfl (dd rfl) ?_
            refine o_val (v_pick_f rfl rfl) (dd rfl) ?_
            refine o_nil ?_
            exact c_use J ⟨Env.as rfl (congrArg Value.bool (by clear IH hc hsa h256; rw [hch]; first | (simp_all; done) | (simp_all; omega) | (simp_all; rw [Bool.eq_iff_iff]; simp only [Bool.or_eq_true, Bool.and_eq_true, Bool.not_eq_true', decide_eq_true_eq, decide_eq_false_iff_not]; omega))), (by repeat (first | exact trivial | refine ⟨rfl, ?_⟩))⟩ (by first | exact Ent.refl _ | exact eX (by repeat constructor))
    refine c_cond_p rfl (fun hn => ?_) (fun hn => ?_)
    · refine c_seq ?_
      refine c_region ?_
      refine o_val (v_assign rfl) (dd rfl) ?_
      refine o_nil ?_
      refine c_ret1 Tryz.func66 rfl rfl fun w O hS => ?_
      refine ⟨(), ?_, trivial, trivial⟩
      unfold namedP
      rw [show s.data.toList.all charP = false from List.all_eq_false.2 ⟨_, List.getElem_mem hk', hn⟩, Bool.and_false]
    · refine c_skip ?_
      refine c_inBlock ?_
      refine c_region ?_
      refine o_val (v_move rfl) (dd rfl) ?_
      refine o_val ((by first | exact v_add64 rfl rfl (by omega) | exact v_add rfl rfl)) (dd rfl) ?_
      refine o_val (v_assign rfl) (dd rfl) ?_
      refine o_nil ?_
      refine c_use (IH (k + 1) (by first | omega | (dsimp only; omega)) (⟨by omega, fun j h h1 => (Nat.lt_succ_iff_lt_or_eq.1 h1).elim (hc j h) fun q => by subst q; exact Classical.not_not.1 hn⟩)) (by repeat (first | exact trivial | refine ⟨rfl, ?_⟩)) (eX (by repeat constructor))
  · have hall : s.data.toList.all charP = true := List.all_eq_true.2 fun x hx => by
      obtain ⟨j, hj, rfl⟩ := List.mem_iff_getElem.1 hx
      exact hc j hj (by omega)
    refine c_exit rfl ?_
    refine c_seq ?_
    refine c_region ?_
    refine o_val (v_move rfl) (dd rfl) ?_
    refine o_val (v_len_str Tryz.underlying9 rfl) (dd rfl) ?_
    refine o_val (v_ge rfl rfl) (dd rfl) ?_
    refine o_val (v_move rfl) (dd rfl) ?_
    refine o_guard_t rfl rfl (fun h1 => ?_) (fun h1 => ?_)
    · refine o_val (v_move rfl) (dd rfl) ?_
      refine o_on rfl rfl ?_
      refine o_val (v_len_str Tryz.underlying9 rfl) (dd rfl) ?_
      refine o_on rfl rfl ?_
      refine o_val (v_le rfl rfl) (dd rfl) ?_
      refine o_val (v_pick_t rfl rfl) (dd rfl) ?_
      refine o_val (v_assign rfl) (dd rfl) ?_
      refine o_nil ?_
      refine c_ret1 Tryz.func66 rfl rfl fun w O hS => ?_
      refine ⟨(), ?_, trivial, trivial⟩
      unfold namedP
      rw [hall, Bool.and_true, decide_eq_true (p := 1 ≤ s.size) (by omega), Bool.true_and]
      exact congrArg Value.bool (decide_eq_decide.2 ⟨fun h => by omega, fun h => by omega⟩)
    · refine o_off rfl rfl rfl (dd rfl) ?_
      refine o_off rfl rfl rfl (dd rfl) ?_
      refine o_off rfl rfl rfl (dd rfl) ?_
      refine o_val (v_pick_f rfl rfl) (dd rfl) ?_
      refine o_val (v_assign rfl) (dd rfl) ?_
      refine o_nil ?_
      refine c_ret1 Tryz.func66 rfl rfl fun w O hS => ?_
      refine ⟨(), ?_, trivial, trivial⟩
      unfold namedP
      rw [decide_eq_false (p := 1 ≤ s.size) (by omega)]; rfl
end Go.Proofs.YtmgkeippepeggaaGreatDoor
/- Chapter 09: sizes of what is read. -/
namespace Go.Proofs.YtmgkeippepeggaaGreatDoor
open Go Go.Lib
abbrev big9 : Nat := 1000000
theorem text_ok {most : Int} {s : St9} (h : s.1.length ≤ big9) : (takeText most s).2.size ≤ big9 := by
  unfold takeText
  split
  · split
    · show (sB _).size ≤ _
      rw [sB_size, List.length_take, List.length_drop]; omega
    · exact Nat.zero_le _
  · exact Nat.zero_le _
theorem goes_len {α : Type} {take : St9 → St9 × α} (hg : GoesP take) (s : St9) : (take s).1.1.length ≤ s.1.length := by
  obtain ⟨j, _, e⟩ := hg s
  rw [e, List.length_drop]; omega
theorem many_ok {α : Type} {take : St9 → St9 × α} {ok : α → Prop} (hg : GoesP take) (ho : ∀ s, s.1.length ≤ big9 → ok (take s).2) : ∀ (k : Nat) (s : St9) (out : List α), s.1.length ≤ big9 → (∀ x ∈ out, ok x) → ∀ x ∈ (takeMany take k s out).2, ok x
  | 0, s, out, _, h => h
  | k + 1, s, out, hs, h => by
    rw [takeMany]
    split
    · exact h
    · refine many_ok hg ho k _ _ (Nat.le_trans (goes_len hg s) hs) fun x hx => ?_
      rcases List.mem_append.1 hx with h1 | h1
      · exact h x h1
      · rw [List.mem_singleton.1 h1]; exact ho s hs
theorem many_len {α : Type} {take : St9 → St9 × α} : ∀ (k : Nat) (s : St9) (out : List α), (takeMany take k s out).2.length ≤ out.length + k
  | 0, s, out => Nat.le_refl _
  | k + 1, s, out => by
    rw [takeMany]
    split
    · dsimp only; omega
    · have := many_len (take := take) k (take s).1 (out ++ [(take s).2])
      rw [List.length_append] at this
      simp only [List.length_cons, List.length_nil] at this
      omega
theorem some_ok {α : Type} {take : St9 → St9 × α} {ok : α → Prop} (hg : GoesP take) (ho : ∀ s, s.1.length ≤ big9 → ok (take s).2) {most : Int} {s : St9} (hs : s.1.length ≤ big9) : ∀ x ∈ (takeSome take most s).2, ok x := by
  unfold takeSome
  split
  · exact fun x hx => by cases hx
  · split
    · exact fun x hx => by cases hx
    · exact many_ok hg ho _ _ _ (Nat.le_trans (goes_len goes_num s) hs) fun x hx => by cases hx
theorem some_len {α : Type} {take : St9 → St9 × α} {most : Int} {s : St9} {n : Nat} (hn : most ≤ n) : (takeSome take most s).2.length ≤ n := by
  unfold takeSome
  split
  · exact Nat.zero_le _
  · split
    · exact Nat.zero_le _
    · have := many_len (take := take) (takeNum s).2.toNat (takeNum s).1 []
      simp only [List.length_nil] at this
      omega
/-- Sizes at which a change is looked at. -/
def SizeP (p : Pr9) : Prop := p.2.1.size ≤ 1000000 ∧ p.2.2.1.size ≤ 1000000 ∧ (p.2.2.2.2.1.length ≤ 1000000 ∧ ∀ x ∈ p.2.2.2.2.1, x.size ≤ 1000000) ∧ p.2.2.2.2.2.length ≤ 1000000 ∧ ∀ x ∈ p.2.2.2.2.2, x.size ≤ 1000000
theorem raw_ok {s : St9} (h : s.1.length ≤ big9) : SizeP (rawPrim s).2 := by
  have h1 := Nat.le_trans (goes_len goes_num s) h
  have h2 := Nat.le_trans (goes_len (goes_text 24) (takeNum s).1) h1
  have h3 := Nat.le_trans (goes_len (goes_text 24) (takeText 24 (takeNum s).1).1) h2
  have h4 := Nat.le_trans (goes_len goes_num (takeText 24 (takeText 24 (takeNum s).1).1).1) h3
  have h5 := Nat.le_trans (goes_len (goes_some (goes_text 60) (takeNum (takeText 24 (takeText 24 (takeNum s).1).1).1).1.1.length) (takeNum (takeText 24 (takeText 24 (takeNum s).1).1).1).1) h4
  have ho : ∀ s : St9, s.1.length ≤ big9 → (takeText 60 s).2.size ≤ big9 := fun s hs => text_ok hs
  unfold SizeP rawPrim
  exact ⟨text_ok h1, text_ok h2, ⟨some_len (by exact_mod_cast h4), some_ok (goes_text 60) ho h4⟩, some_len (by exact_mod_cast h5), some_ok (goes_text 60) ho h5⟩
theorem pr0_ok : SizeP pr0 := ⟨Nat.zero_le _, Nat.zero_le _, ⟨Nat.zero_le _, fun _ h => by cases h⟩, Nat.zero_le _, fun _ h => by cases h⟩
theorem prim_ok {s : St9} (h : s.1.length ≤ big9) : SizeP (takePrim s).2 := by
  unfold takePrim
  split
  · exact pr0_ok
  · exact raw_ok h
end Go.Proofs.YtmgkeippepeggaaGreatDoor
/- Chapter 09: which changes and patches may be, as the document says it. -/
namespace Go.Proofs.YtmgkeippepeggaaGreatDoor
open Go Go.SL Go.Lib L01
theorem ba_none {t : ByteArray} : t = ⟨#[]⟩ ↔ t.size = 0 := ⟨fun h => by subst h; rfl, fun h => by
  apply ByteArray.ext
  apply Array.ext'
  have := ba_len t
  exact List.length_eq_zero_iff.1 (by omega)⟩
attribute [local irreducible] Cfg Kont StepK Val Con Qops Any Sl Own Blk BlkR Rd Pu ExA AllA Has Pick Ent Elem Beside Callable TI Lone OwnO AndA
set_option maxRecDepth 100000 in
theorem rightRef_con (p : Pr9) (ov wv : Value) (hp : SizeP p) : Con Tryz.prog 21 [.agg #[.int .i64 p.1, .string p.2.1, .string p.2.2.1, .int .i64 p.2.2.2.1, ov, wv]] [Sl eStr ov p.2.2.2.2.1, Sl eStr wv p.2.2.2.2.2] (γ := Unit) (fun _ => .bool (rightP p)) (fun _ => True) (fun _ => []) := by
  obtain ⟨k, n, t, a, o, w⟩ := p
  obtain ⟨hn, ht, ⟨ho, hoe⟩, hw, hwe⟩ := hp
  dsimp only at hn ht ho hoe hw hwe ⊢
  have hN := namedRef_con n (by omega)
  have hT := namedRef_con t (by omega)
  have hO := all_ref_con ov o ho hoe
  have hW := all_ref_con wv w hw hwe
  have hOW := same_ref_con ov wv o w ho hw
  rw [all_line] at hO hW
  have htn := ba_none (t := t)
  refine con_of Tryz.func21 rfl (dd rfl) fun w0 O0 => ?_
  refine c_seq ?_
  refine c_region ?_
  refine o_step (s_box rfl (dd rfl) (fun b1 => ?_))
  refine o_val (v_assign rfl) (dd rfl) ?_
  refine o_nil ?_
  refine c_seq ?_
  refine c_seq ?_
  refine c_env (env' := [(1, _), (2, _)]) (by repeat (first | exact trivial | refine ⟨rfl, ?_⟩)) ?_
  refine c_joinb (d := 16) (decide (¬ namedP n = true ∨ k < 0 ∨ 3 < k)) ?_ ?_
  rotate_left
  · intro J
    refine c_region ?_
    refine o_val (v_fieldAddrC 1 Tryz.underlying30 rfl ti9 (by decide) rfl) (dd rfl) ?_
    refine o_val (v_load lone9 rfl (hX (by repeat constructor)) rfl) (dd rfl) ?_
    refine o_step (s_callf_keep cl66 (hN) rfl (dd rfl) (rX (by repeat constructor)) (fun _ => sX) (fun _ _ => ?_))
    refine o_val (v_not rfl) (dd rfl) ?_
    refine o_val (v_move rfl) (dd rfl) ?_
    first | refine o_guard_f rfl rfl (fun g7 => ?_) (fun g7 => ?_) | refine o_guard rfl rfl (fun g7 => ?_) (fun g7 => ?_)
    · refine o_val (v_fieldAddrC 0 Tryz.underlying30 rfl ti3 (by decide) rfl) (dd rfl) ?_
      refine o_on rfl rfl ?_
      refine o_val (v_load lone3 rfl (hX (by repeat constructor)) rfl) (dd rfl) ?_
      refine o_on rfl rfl ?_
      refine o_val (v_lt rfl rfl) (dd rfl) ?_
      refine o_val (v_pick_f rfl rfl) (dd rfl) ?_
      refine o_val (v_move rfl) (dd rfl) ?_
      first | refine o_guard_f rfl rfl (fun g12 => ?_) (fun g12 => ?_) | refine o_guard rfl rfl (fun g12 => ?_) (fun g12 => ?_)
      · refine o_val (v_fieldAddrC 0 Tryz.underlying30 rfl ti3 (by decide) rfl) (dd rfl) ?_
        refine o_on rfl rfl ?_
        refine o_val (v_load lone3 rfl (hX (by repeat constructor)) rfl) (dd rfl) ?_
        refine o_on rfl rfl ?_
        refine o_val (v_gt rfl rfl) (dd rfl) ?_
        refine o_val (v_pick_f rfl rfl) (dd rfl) ?_
        refine o_nil ?_
        exact c_use J ⟨Env.as rfl (congrArg Value.bool (by first | rfl | (simp_all; done) | (simp_all; omega) | (simp; omega))), (by repeat (first | exact trivial | refine ⟨rfl, ?_⟩))⟩ (by first | exact Ent.refl _ | exact eX (by repeat constructor))
      · refine o_off rfl rfl rfl (dd rfl) ?_
        refine o_off rfl rfl rfl (dd rfl) ?_
        refine o_off rfl rfl rfl (dd rfl) ?_
        refine o_val (v_pick_t rfl rfl) (dd rfl) ?_
        refine o_nil ?_
        exact c_use J ⟨Env.as rfl (congrArg Value.bool (by first | rfl | (simp_all; done) | (simp_all; omega) | (simp; omega))), (by repeat (first | exact trivial | refine ⟨rfl, ?_⟩))⟩ (by first | exact Ent.refl _ | exact eX (by repeat constructor))
    · refine o_off rfl rfl rfl (dd rfl) ?_
      refine o_off rfl rfl rfl (dd rfl) ?_
      refine o_off rfl rfl rfl (dd rfl) ?_
      refine o_val (v_pick_t rfl rfl) (dd rfl) ?_
      refine o_val (v_move rfl) (dd rfl) ?_
      refine o_off rfl rfl rfl (dd rfl) ?_
      refine o_off rfl rfl rfl (dd rfl) ?_
      refine o_off rfl rfl rfl (dd rfl) ?_
      refine o_val (v_pick_t rfl rfl) (dd rfl) ?_
      refine o_nil ?_
      exact c_use J ⟨Env.as rfl (congrArg Value.bool (by first | rfl | (simp_all; done) | (simp_all; omega) | (simp; omega))), (by repeat (first | exact trivial | refine ⟨rfl, ?_⟩))⟩ (by first | exact Ent.refl _ | exact eX (by repeat constructor))
  refine c_cond_p rfl (fun h1 => ?_) (fun h1 => ?_)
  · have hR : rightP (k, n, t, a, o, w) = false := by
      unfold rightP bareP
      dsimp only
      rcases h1 with h | h
      · rw [show namedP n = false by simpa using h, Bool.false_and]
      · rw [if_neg (by omega), if_neg (by omega), decide_eq_false (p := k = 1) (by omega), decide_eq_false (p := k = 2) (by omega)]
        simp
    refine c_seq ?_
    refine c_region ?_
    refine o_val (v_assign rfl) (dd rfl) ?_
    refine o_nil ?_
    refine c_ret1 Tryz.func21 rfl rfl fun w O hS => ?_
    exact ⟨(), by rw [hR], trivial, trivial⟩
  · have hnn : namedP n = true := Classical.not_not.1 fun h => h1 (.inl h)
    refine c_skip ?_
    refine c_seq ?_
    refine c_seq ?_
    refine c_region ?_
    refine o_val (v_fieldAddrC 0 Tryz.underlying30 rfl ti3 (by decide) rfl) (dd rfl) ?_
    refine o_val (v_load lone3 rfl (hX (by repeat constructor)) rfl) (dd rfl) ?_
    refine o_val (v_eq rfl rfl) (dd rfl) ?_
    refine o_nil ?_
    refine c_cond_p rfl (fun h0 => ?_) (fun h0 => ?_)
    · refine c_seq ?_
      refine c_seq ?_
      refine c_env (env' := [(1, _), (2, _)]) (by repeat (first | exact trivial | refine ⟨rfl, ?_⟩)) ?_
      refine c_joinb (d := 32) (decide (t.size ≠ 0 ∨ a < 0 ∨ 1048576 < a)) ?_ ?_
      rotate_left
      · intro J
        refine c_region ?_
        refine o_val (v_fieldAddrC 2 Tryz.underlying30 rfl ti9 (by decide) rfl) (dd rfl) ?_
        refine o_val (v_load lone9 rfl (hX (by repeat constructor)) rfl) (dd rfl) ?_
        refine o_val (v_sne rfl rfl) (dd rfl) ?_
        refine o_val (v_move rfl) (dd rfl) ?_
        first | refine o_guard_f rfl rfl (fun g23 => ?_) (fun g23 => ?_) | refine o_guard rfl rfl (fun g23 => ?_) (fun g23 => ?_)
        · refine o_val (v_fieldAddrC 3 Tryz.underlying30 rfl ti3 (by decide) rfl) (dd rfl) ?_
          refine o_on rfl rfl ?_
          refine o_val (v_load lone3 rfl (hX (by repeat constructor)) rfl) (dd rfl) ?_
          refine o_on rfl rfl ?_
          refine o_val (v_lt rfl rfl) (dd rfl) ?_
          refine o_val (v_pick_f rfl rfl) (dd rfl) ?_
          refine o_val (v_move rfl) (dd rfl) ?_
          first | refine o_guard_f rfl rfl (fun g28 => ?_) (fun g28 => ?_) | refine o_guard rfl rfl (fun g28 => ?_) (fun g28 => ?_)
          · refine o_val (v_fieldAddrC 3 Tryz.underlying30 rfl ti3 (by decide) rfl) (dd rfl) ?_
            refine o_on rfl rfl ?_
            refine o_val (v_load lone3 rfl (hX (by repeat constructor)) rfl) (dd rfl) ?_
            refine o_on rfl rfl ?_
            refine o_val (v_gt rfl rfl) (dd rfl) ?_
            refine o_val (v_pick_f rfl rfl) (dd rfl) ?_
            refine o_nil ?_
            exact c_use J ⟨Env.as rfl (congrArg Value.bool (by first | rfl | (simp_all; done) | (simp_all; omega) | (simp; omega))), (by repeat (first | exact trivial | refine ⟨rfl, ?_⟩))⟩ (by first | exact Ent.refl _ | exact eX (by repeat constructor))
          · refine o_off rfl rfl rfl (dd rfl) ?_
            refine o_off rfl rfl rfl (dd rfl) ?_
            refine o_off rfl rfl rfl (dd rfl) ?_
            refine o_val (v_pick_t rfl rfl) (dd rfl) ?_
            refine o_nil ?_
            exact c_use J ⟨Env.as rfl (congrArg Value.bool (by first | rfl | (simp_all; done) | (simp_all; omega) | (simp; omega))), (by repeat (first | exact trivial | refine ⟨rfl, ?_⟩))⟩ (by first | exact Ent.refl _ | exact eX (by repeat constructor))
        · refine o_off rfl rfl rfl (dd rfl) ?_
          refine o_off rfl rfl rfl (dd rfl) ?_
          refine o_off rfl rfl rfl (dd rfl) ?_
          refine o_val (v_pick_t rfl rfl) (dd rfl) ?_
          refine o_val (v_move rfl) (dd rfl) ?_
          refine o_off rfl rfl rfl (dd rfl) ?_
          refine o_off rfl rfl rfl (dd rfl) ?_
          refine o_off rfl rfl rfl (dd rfl) ?_
          refine o_val (v_pick_t rfl rfl) (dd rfl) ?_
          refine o_nil ?_
          exact c_use J ⟨Env.as rfl (congrArg Value.bool (by first | rfl | (simp_all; done) | (simp_all; omega) | (simp; omega))), (by repeat (first | exact trivial | refine ⟨rfl, ?_⟩))⟩ (by first | exact Ent.refl _ | exact eX (by repeat constructor))
      refine c_cond_p rfl (fun h2 => ?_) (fun h2 => ?_)
      · have hR : rightP (k, n, t, a, o, w) = false := by
          unfold rightP
          dsimp only
          rw [if_pos h0, hnn, Bool.true_and]
          rcases h2 with h | h | h
          · rw [decide_eq_false h]; simp
          · rw [decide_eq_false (p := 0 ≤ a) (by omega)]; simp
          · rw [decide_eq_false (p := a ≤ 1048576) (by omega)]; simp
        refine c_seq ?_
        refine c_region ?_
        refine o_val (v_assign rfl) (dd rfl) ?_
        refine o_nil ?_
        refine c_ret1 Tryz.func21 rfl rfl fun w O hS => ?_
        exact ⟨(), by rw [hR], trivial, trivial⟩
      · have hR : rightP (k, n, t, a, o, w) = (o.all lineP && w.all lineP && decide (o ≠ w)) := by
          unfold rightP
          dsimp only
          rw [if_pos h0, hnn, Bool.true_and, decide_eq_true (p := t.size = 0) (by omega), decide_eq_true (p := 0 ≤ a) (by omega), decide_eq_true (p := a ≤ 1048576) (by omega)]
          simp only [Bool.true_and]
        refine c_skip ?_
        refine c_seq ?_
        refine c_region ?_
        refine o_val (v_fieldAddrC 4 Tryz.underlying30 rfl ti28 (by decide) rfl) (dd rfl) ?_
        refine o_val (v_load lone28 rfl (hX (by repeat constructor)) rfl) (dd rfl) ?_
        refine o_step (s_callf_keep cl67 (hO) rfl (dd rfl) (rX (by repeat constructor)) (fun _ => sX) (fun _ _ => ?_))
        refine o_val (v_move rfl) (dd rfl) ?_
        refine o_guard rfl rfl (fun g1 => ?_) (fun g1 => ?_)
        · refine o_val (v_fieldAddrC 5 Tryz.underlying30 rfl ti28 (by decide) rfl) (dd rfl) ?_
          refine o_on rfl rfl ?_
          refine o_val (v_load lone28 rfl (hX (by repeat constructor)) rfl) (dd rfl) ?_
          refine o_on rfl rfl ?_
          refine o_step (s_callf_keep cl67 (hW) rfl (dd rfl) (rX (by repeat constructor)) (fun _ => sX) (fun _ _ => ?_))
          refine o_val (v_pick_t rfl rfl) (dd rfl) ?_
          refine o_val (v_move rfl) (dd rfl) ?_
          refine o_guard rfl rfl (fun g2 => ?_) (fun g2 => ?_)
          · refine o_val (v_fieldAddrC 4 Tryz.underlying30 rfl ti28 (by decide) rfl) (dd rfl) ?_
            refine o_on rfl rfl ?_
            refine o_val (v_load lone28 rfl (hX (by repeat constructor)) rfl) (dd rfl) ?_
            refine o_on rfl rfl ?_
            refine o_val (v_fieldAddrC 5 Tryz.underlying30 rfl ti28 (by decide) rfl) (dd rfl) ?_
            refine o_on rfl rfl ?_
            refine o_val (v_load lone28 rfl (hX (by repeat constructor)) rfl) (dd rfl) ?_
            refine o_on rfl rfl ?_
            refine o_step (s_callf_keep cl23 (hOW) rfl (dd rfl) (rX (by repeat constructor)) (fun _ => sX) (fun _ _ => ?_))
            refine o_on rfl rfl ?_
            refine o_val (v_not rfl) (dd rfl) ?_
            refine o_val (v_pick_t rfl rfl) (dd rfl) ?_
            refine o_val (v_assign rfl) (dd rfl) ?_
            refine o_nil ?_
            refine c_ret1 Tryz.func21 rfl rfl fun w O hS => ?_
            exact ⟨(), by rw [hR, g1, g2]; simp, trivial, trivial⟩
          · refine o_off rfl rfl rfl (dd rfl) ?_
            refine o_off rfl rfl rfl (dd rfl) ?_
            refine o_off rfl rfl rfl (dd rfl) ?_
            refine o_off rfl rfl rfl (dd rfl) ?_
            refine o_off rfl rfl rfl (dd rfl) ?_
            refine o_off rfl rfl rfl (dd rfl) ?_
            refine o_val (v_pick_f rfl rfl) (dd rfl) ?_
            refine o_val (v_assign rfl) (dd rfl) ?_
            refine o_nil ?_
            refine c_ret1 Tryz.func21 rfl rfl fun w O hS => ?_
            exact ⟨(), by rw [hR, g1, g2]; rfl, trivial, trivial⟩
        · refine o_off rfl rfl rfl (dd rfl) ?_
          refine o_off rfl rfl rfl (dd rfl) ?_
          refine o_off rfl rfl rfl (dd rfl) ?_
          refine o_val (v_pick_f rfl rfl) (dd rfl) ?_
          refine o_val (v_move rfl) (dd rfl) ?_
          refine o_off rfl rfl rfl (dd rfl) ?_
          refine o_off rfl rfl rfl (dd rfl) ?_
          refine o_off rfl rfl rfl (dd rfl) ?_
          refine o_off rfl rfl rfl (dd rfl) ?_
          refine o_off rfl rfl rfl (dd rfl) ?_
          refine o_off rfl rfl rfl (dd rfl) ?_
          refine o_val (v_pick_f rfl rfl) (dd rfl) ?_
          refine o_val (v_assign rfl) (dd rfl) ?_
          refine o_nil ?_
          refine c_ret1 Tryz.func21 rfl rfl fun w O hS => ?_
          exact ⟨(), by rw [hR, g1]; rfl, trivial, trivial⟩
    · refine c_skip ?_
      refine c_seq ?_
      refine c_seq ?_
      refine c_env (env' := [(1, _), (2, _)]) (by repeat (first | exact trivial | refine ⟨rfl, ?_⟩)) ?_
      refine c_joinb (d := 63) (decide (a ≠ 0 ∨ 0 < o.length ∨ 0 < w.length)) ?_ ?_
      rotate_left
      · intro J
        refine c_region ?_
        refine o_val (v_fieldAddrC 3 Tryz.underlying30 rfl ti3 (by decide) rfl) (dd rfl) ?_
        refine o_val (v_load lone3 rfl (hX (by repeat constructor)) rfl) (dd rfl) ?_
        refine o_val (v_ne rfl rfl) (dd rfl) ?_
        refine o_val (v_move rfl) (dd rfl) ?_
        first | refine o_guard_f rfl rfl (fun g52 => ?_) (fun g52 => ?_) | refine o_guard rfl rfl (fun g52 => ?_) (fun g52 => ?_)
        · refine o_val (v_fieldAddrC 4 Tryz.underlying30 rfl ti28 (by decide) rfl) (dd rfl) ?_
          refine o_on rfl rfl ?_
          refine o_val (v_load lone28 rfl (hX (by repeat constructor)) rfl) (dd rfl) ?_
          refine o_on rfl rfl ?_
          refine o_val ((by first | exact v_len_form Tryz.underlying28 rfl | exact v_len_sl Tryz.underlying28 rfl (hX (by repeat constructor)))) (dd rfl) ?_
          refine o_on rfl rfl ?_
          refine o_val (v_gt rfl rfl) (dd rfl) ?_
          refine o_val (v_pick_f rfl rfl) (dd rfl) ?_
          refine o_val (v_move rfl) (dd rfl) ?_
          first | refine o_guard_f rfl rfl (fun g58 => ?_) (fun g58 => ?_) | refine o_guard rfl rfl (fun g58 => ?_) (fun g58 => ?_)
          · refine o_val (v_fieldAddrC 5 Tryz.underlying30 rfl ti28 (by decide) rfl) (dd rfl) ?_
            refine o_on rfl rfl ?_
            refine o_val (v_load lone28 rfl (hX (by repeat constructor)) rfl) (dd rfl) ?_
            refine o_on rfl rfl ?_
            refine o_val ((by first | exact v_len_form Tryz.underlying28 rfl | exact v_len_sl Tryz.underlying28 rfl (hX (by repeat constructor)))) (dd rfl) ?_
            refine o_on rfl rfl ?_
            refine o_val (v_gt rfl rfl) (dd rfl) ?_
            refine o_val (v_pick_f rfl rfl) (dd rfl) ?_
            refine o_nil ?_
            exact c_use J ⟨Env.as rfl (congrArg Value.bool (by first | rfl | (simp_all; done) | (simp_all; omega) | (simp; omega))), (by repeat (first | exact trivial | refine ⟨rfl, ?_⟩))⟩ (by first | exact Ent.refl _ | exact eX (by repeat constructor))
          · refine o_off rfl rfl rfl (dd rfl) ?_
            refine o_off rfl rfl rfl (dd rfl) ?_
            refine o_off rfl rfl rfl (dd rfl) ?_
            refine o_off rfl rfl rfl (dd rfl) ?_
            refine o_val (v_pick_t rfl rfl) (dd rfl) ?_
            refine o_nil ?_
            exact c_use J ⟨Env.as rfl (congrArg Value.bool (by first | rfl | (simp_all; done) | (simp_all; omega) | (simp; omega))), (by repeat (first | exact trivial | refine ⟨rfl, ?_⟩))⟩ (by first | exact Ent.refl _ | exact eX (by repeat constructor))
        · refine o_off rfl rfl rfl (dd rfl) ?_
          refine o_off rfl rfl rfl (dd rfl) ?_
          refine o_off rfl rfl rfl (dd rfl) ?_
          refine o_off rfl rfl rfl (dd rfl) ?_
          refine o_val (v_pick_t rfl rfl) (dd rfl) ?_
          refine o_val (v_move rfl) (dd rfl) ?_
          refine o_off rfl rfl rfl (dd rfl) ?_
          refine o_off rfl rfl rfl (dd rfl) ?_
          refine o_off rfl rfl rfl (dd rfl) ?_
          refine o_off rfl rfl rfl (dd rfl) ?_
          refine o_val (v_pick_t rfl rfl) (dd rfl) ?_
          refine o_nil ?_
          exact c_use J ⟨Env.as rfl (congrArg Value.bool (by first | rfl | (simp_all; done) | (simp_all; omega) | (simp; omega))), (by repeat (first | exact trivial | refine ⟨rfl, ?_⟩))⟩ (by first | exact Ent.refl _ | exact eX (by repeat constructor))
      refine c_cond_p rfl (fun h3 => ?_) (fun h3 => ?_)
      · have hR : rightP (k, n, t, a, o, w) = false := by
          unfold rightP bareP
          dsimp only
          rw [if_neg h0, hnn, Bool.true_and]
          rcases h3 with h | h | h
          · rw [decide_eq_false (p := a = 0) h]; simp
          · rw [decide_eq_false (p := o.length = 0) (by omega)]; simp
          · rw [decide_eq_false (p := w.length = 0) (by omega)]; simp
        refine c_seq ?_
        refine c_region ?_
        refine o_val (v_assign rfl) (dd rfl) ?_
        refine o_nil ?_
        refine c_ret1 Tryz.func21 rfl rfl fun w O hS => ?_
        exact ⟨(), by rw [hR], trivial, trivial⟩
      · have hB : bareP (k, n, t, a, o, w) = true := by
          unfold bareP
          dsimp only
          rw [decide_eq_true (p := a = 0) (by omega), decide_eq_true (p := o.length = 0) (by omega), decide_eq_true (p := w.length = 0) (by omega)]; rfl
        refine c_skip ?_
        refine c_seq ?_
        refine c_seq ?_
        refine c_region ?_
        refine o_val (v_fieldAddrC 0 Tryz.underlying30 rfl ti3 (by decide) rfl) (dd rfl) ?_
        refine o_val (v_load lone3 rfl (hX (by repeat constructor)) rfl) (dd rfl) ?_
        refine o_val (v_eq rfl rfl) (dd rfl) ?_
        refine o_nil ?_
        refine c_cond_p rfl (fun h4 => ?_) (fun h4 => ?_)
        · have hR : rightP (k, n, t, a, o, w) = (namedP t && decide (t ≠ n)) := by
            unfold rightP
            dsimp only
            rw [if_neg h0, if_pos h4, hnn, hB]
            simp only [Bool.true_and]
          refine c_seq ?_
          refine c_region ?_
          refine o_val (v_fieldAddrC 2 Tryz.underlying30 rfl ti9 (by decide) rfl) (dd rfl) ?_
          refine o_val (v_load lone9 rfl (hX (by repeat constructor)) rfl) (dd rfl) ?_
          refine o_step (s_callf_keep cl66 (hT) rfl (dd rfl) (rX (by repeat constructor)) (fun _ => sX) (fun _ _ => ?_))
          refine o_val (v_move rfl) (dd rfl) ?_
          refine o_guard rfl rfl (fun g1 => ?_) (fun g1 => ?_)
          · refine o_val (v_fieldAddrC 2 Tryz.underlying30 rfl ti9 (by decide) rfl) (dd rfl) ?_
            refine o_on rfl rfl ?_
            refine o_val (v_load lone9 rfl (hX (by repeat constructor)) rfl) (dd rfl) ?_
            refine o_on rfl rfl ?_
            refine o_val (v_fieldAddrC 1 Tryz.underlying30 rfl ti9 (by decide) rfl) (dd rfl) ?_
            refine o_on rfl rfl ?_
            refine o_val (v_load lone9 rfl (hX (by repeat constructor)) rfl) (dd rfl) ?_
            refine o_on rfl rfl ?_
            refine o_val (v_sne rfl rfl) (dd rfl) ?_
            refine o_val (v_pick_t rfl rfl) (dd rfl) ?_
            refine o_val (v_assign rfl) (dd rfl) ?_
            refine o_nil ?_
            refine c_ret1 Tryz.func21 rfl rfl fun w O hS => ?_
            exact ⟨(), by rw [hR, g1]; rfl, trivial, trivial⟩
          · refine o_off rfl rfl rfl (dd rfl) ?_
            refine o_off rfl rfl rfl (dd rfl) ?_
            refine o_off rfl rfl rfl (dd rfl) ?_
            refine o_off rfl rfl rfl (dd rfl) ?_
            refine o_off rfl rfl rfl (dd rfl) ?_
            refine o_val (v_pick_f rfl rfl) (dd rfl) ?_
            refine o_val (v_assign rfl) (dd rfl) ?_
            refine o_nil ?_
            refine c_ret1 Tryz.func21 rfl rfl fun w O hS => ?_
            exact ⟨(), by rw [hR, g1]; rfl, trivial, trivial⟩
        · have hR : rightP (k, n, t, a, o, w) = decide (t.size = 0) := by
            unfold rightP
            dsimp only
            rw [if_neg h0, if_neg h4, hnn, hB]
            have : (decide (k = 1) || decide (k = 2)) = true := by
              rw [Bool.or_eq_true, decide_eq_true_eq, decide_eq_true_eq]; omega
            rw [this]
            simp only [Bool.true_and, Bool.and_true]
          refine c_skip ?_
          refine c_seq ?_
          refine c_region ?_
          refine o_val (v_fieldAddrC 2 Tryz.underlying30 rfl ti9 (by decide) rfl) (dd rfl) ?_
          refine o_val (v_load lone9 rfl (hX (by repeat constructor)) rfl) (dd rfl) ?_
          refine o_val (v_seq rfl rfl) (dd rfl) ?_
          refine o_val (v_assign rfl) (dd rfl) ?_
          refine o_nil ?_
          refine c_ret1 Tryz.func21 rfl rfl fun w O hS => ?_
          exact ⟨(), by rw [hR]; exact congrArg Value.bool (decide_eq_decide.2 htn), trivial, trivial⟩
set_option maxRecDepth 100000 in
theorem rightsRef_con (v : Value) (l : List Pr9) (hl : l.length ≤ 1000000 ∧ ∀ p ∈ l, SizeP p) : Con Tryz.prog 69 [v] [Sl ePr v l] (γ := Unit) (fun _ => .bool (l.all rightP)) (fun _ => True) (fun _ => []) := by
  obtain ⟨hl1, hl2⟩ := hl
  refine con_of Tryz.func69 rfl (dd rfl) fun w0 O0 => ?_
  refine c_seq ?_
  refine c_region ?_
  refine o_val (v_assign rfl) (dd rfl) ?_
  refine o_nil ?_
  refine c_seq ?_
  refine c_seq ?_
  refine c_region ?_
  refine o_val (v_assign rfl) (dd rfl) ?_
  refine o_nil ?_
  refine c_block ?_
  refine c_loopR (γ := Nat) [(0, _), (2, _)] (fun k => l.length - k) (fun k => k ≤ l.length ∧ (l.take k).all rightP = true) (fun k => [(3, .int .i64 k)]) (fun _ => [Sl ePr v l]) (0) (⟨Nat.zero_le _, rfl⟩) (by repeat (first | exact trivial | refine ⟨rfl, ?_⟩)) (eX (by repeat constructor)) ?_
  rintro k ⟨hk, hc⟩ IH
  try dsimp only [List.cons_append, List.nil_append]
  refine c_seq ?_
  refine c_seq ?_
  refine c_region ?_
  refine o_val (v_move rfl) (dd rfl) ?_
  refine o_val (v_move rfl) (dd rfl) ?_
  refine o_val ((by first | exact v_len_form Tryz.underlying31 rfl | exact v_len_sl Tryz.underlying31 rfl (hX (by repeat constructor)))) (dd rfl) ?_
  refine o_val (v_lt rfl rfl) (dd rfl) ?_
  refine o_nil ?_
  refine c_cond_p rfl (fun hlt => ?_) (fun hlt => ?_)
  · have hk' : k < l.length := by omega
    have hR := fun ov wv => rightRef_con l[k] ov wv (hl2 _ (List.getElem_mem hk'))
    refine c_skip ?_
    refine c_seq ?_
    refine c_block ?_
    refine c_seq ?_
    refine c_region ?_
    refine o_val (v_move rfl) (dd rfl) ?_
    refine o_val (v_move rfl) (dd rfl) ?_
    refine o_val ((by first | exact v_indexAddrN Tryz.underlying31 ti30 rfl rfl (hX (by repeat constructor)) (by omega) | exact v_indexAddr Tryz.underlying31 ti30 rfl rfl (hX (by repeat constructor)) (by omega))) (dd rfl) ?_
    refine o_step (s_load_shape ⟨_, Tryz.underlying30⟩ ti30 rfl (dd rfl) (by repeat (first|exact el1 (by omega)|exact el2 (by omega)|exact el3 (by omega)|apply Elem.there)) (pr_open) (fun g => ?_))
    refine o_step (s_callf cl21 (hR g.1 g.2) rfl (dd rfl) (pXs (by repeat constructor)) fun _ _ => ?_)
    refine o_val (v_not rfl) (dd rfl) ?_
    refine o_nil ?_
    refine c_cond rfl (fun hb => ?_) (fun hb => ?_)
    · have hr : rightP l[k] = false := by cases e : rightP l[k] with | false => rfl | true => rw [e] at hb; cases hb
      refine c_seq ?_
      refine c_region ?_
      refine o_val (v_assign rfl) (dd rfl) ?_
      refine o_nil ?_
      refine c_ret1 Tryz.func69 rfl rfl fun w O hS => ?_
      refine ⟨(), ?_, trivial, trivial⟩
      rw [show l.all rightP = false from List.all_eq_false.2 ⟨_, List.getElem_mem hk', by rw [hr]; decide⟩]
    · have hr : rightP l[k] = true := by cases e : rightP l[k] with | true => rfl | false => rw [e] at hb; cases hb
      refine c_skip ?_
      refine c_inBlock ?_
      refine c_region ?_
      refine o_val (v_move rfl) (dd rfl) ?_
      refine o_val ((by first | exact v_add64 rfl rfl (by omega) | exact v_add rfl rfl)) (dd rfl) ?_
      refine o_val (v_assign rfl) (dd rfl) ?_
      refine o_nil ?_
      refine c_use (IH (k + 1) (by first | omega | (dsimp only; omega)) (⟨by omega, by rw [List.take_succ_eq_append_getElem hk', List.all_append, hc]; simp [hr]⟩)) (by repeat (first | exact trivial | refine ⟨rfl, ?_⟩)) (eX (by repeat constructor))
  · rw [List.take_of_length_le (by omega)] at hc
    refine c_exit rfl ?_
    refine c_seq ?_
    refine c_region ?_
    refine o_val (v_assign rfl) (dd rfl) ?_
    refine o_nil ?_
    refine c_ret1 Tryz.func69 rfl rfl fun w O hS => ?_
    exact ⟨(), by rw [hc], trivial, trivial⟩
theorem depsP_iff (id : Int) : ∀ (l : List Int) (last : Int), depsP id last l = true ↔ ∀ k (h : k < l.length), (if k = 0 then last else l[k - 1]) < l[k] ∧ l[k] ≤ 1000000000 ∧ l[k] ≠ id
  | [], last => by simp [depsP]
  | n :: l, last => by
    rw [depsP]
    simp only [Bool.and_eq_true, decide_eq_true_eq]
    rw [depsP_iff id l n]
    constructor
    · rintro ⟨⟨⟨h1, h2⟩, h3⟩, h4⟩ k hk
      cases k with
      | zero => exact ⟨h1, h2, h3⟩
      | succ k =>
        have := h4 k (by simpa using hk)
        rw [if_neg (by omega)]
        simp only [Nat.add_sub_cancel, List.getElem_cons_succ]
        cases k with
        | zero => simpa using this
        | succ k => simpa using this
    · intro h
      refine ⟨⟨⟨?_, ?_⟩, ?_⟩, fun k hk => ?_⟩
      · exact (h 0 (by simp)).1
      · exact (h 0 (by simp)).2.1
      · exact (h 0 (by simp)).2.2
      · have := h (k + 1) (by simpa using hk)
        rw [if_neg (by omega)] at this
        simp only [Nat.add_sub_cancel, List.getElem_cons_succ] at this
        cases k with
        | zero => simpa using this
        | succ k => simpa using this
theorem depsP0_iff (id : Int) (l : List Int) : depsP id 0 l = true ↔ ∀ k (h : k < l.length), 1 ≤ l[k] ∧ l[k] ≤ 1000000000 ∧ l[k] ≠ id ∧ (k = 0 ∨ l[k - 1] < l[k]) := by
  rw [depsP_iff]
  constructor
  · intro h
    have hp : ∀ k (hk : k < l.length), 1 ≤ l[k] := fun k => by
      induction k with
      | zero => intro hk; have := (h 0 hk).1; rw [if_pos rfl] at this; omega
      | succ k ih => intro hk; have := (h (k + 1) hk).1; rw [if_neg (by omega)] at this; have h2 := ih (by omega); simp only [Nat.add_sub_cancel] at this; omega
    intro k hk
    obtain ⟨h1, h2, h3⟩ := h k hk
    refine ⟨hp k hk, h2, h3, ?_⟩
    by_cases h0 : k = 0
    · exact .inl h0
    · rw [if_neg h0] at h1; exact .inr h1
  · intro h k hk
    obtain ⟨h1, h2, h3, h4⟩ := h k hk
    refine ⟨?_, h2, h3⟩
    by_cases h0 : k = 0
    · rw [if_pos h0]; omega
    · rw [if_neg h0]; exact h4.resolve_left h0
/-- Sizes at which a patch is looked at. -/
def SizeT (p : Pt9) : Prop := p.2.1.size ≤ 1000000 ∧ p.2.2.1.length ≤ 1000000 ∧ p.2.2.2.length ≤ 1000000 ∧ ∀ q ∈ p.2.2.2, SizeP q
set_option maxRecDepth 100000 in
theorem rightTRef_con (p : Pt9) (dv lv : Value) (hp : SizeT p) : Con Tryz.prog 22 [.agg #[.int .i64 p.1, .string p.2.1, dv, lv]] [Sl (eInt .i64) dv p.2.2.1, Sl ePr lv p.2.2.2] (γ := Unit) (fun _ => .bool (rightT p)) (fun _ => True) (fun _ => []) := by
  obtain ⟨id, n, d, l⟩ := p
  obtain ⟨hn, hd, hl, hle⟩ := hp
  dsimp only at hn hd hl hle ⊢
  have hN := right_ref_con n hn
  rw [right_line] at hN
  have hL := rightsRef_con lv l ⟨hl, hle⟩
  refine con_of Tryz.func22 rfl (dd rfl) fun w0 O0 => ?_
  refine c_seq ?_
  refine c_region ?_
  refine o_step (s_box rfl (dd rfl) (fun b1 => ?_))
  refine o_val (v_assign rfl) (dd rfl) ?_
  refine o_nil ?_
  refine c_seq ?_
  refine c_seq ?_
  refine c_env (env' := [(1, _), (2, _)]) (by repeat (first | exact trivial | refine ⟨rfl, ?_⟩)) ?_
  refine c_joinb (d := 35) (decide (id < 1 ∨ 1000000000 < id ∨ ¬ lineP n = true ∨ 8 < d.length ∨ l.length < 1 ∨ 24 < l.length)) ?_ ?_
  rotate_left
  · intro J
    refine c_region ?_
    refine o_val (v_fieldAddrC 0 Tryz.underlying34 rfl ti3 (by decide) rfl) (dd rfl) ?_
    refine o_val (v_load lone3 rfl (hX (by repeat constructor)) rfl) (dd rfl) ?_
    refine o_val (v_lt rfl rfl) (dd rfl) ?_
    refine o_val (v_move rfl) (dd rfl) ?_
    first | refine o_guard_f rfl rfl (fun g7 => ?_) (fun g7 => ?_) | refine o_guard rfl rfl (fun g7 => ?_) (fun g7 => ?_)
    · refine o_val (v_fieldAddrC 0 Tryz.underlying34 rfl ti3 (by decide) rfl) (dd rfl) ?_
      refine o_on rfl rfl ?_
      refine o_val (v_load lone3 rfl (hX (by repeat constructor)) rfl) (dd rfl) ?_
      refine o_on rfl rfl ?_
      refine o_val (v_gt rfl rfl) (dd rfl) ?_
      refine o_val (v_pick_f rfl rfl) (dd rfl) ?_
      refine o_val (v_move rfl) (dd rfl) ?_
      first | refine o_guard_f rfl rfl (fun g12 => ?_) (fun g12 => ?_) | refine o_guard rfl rfl (fun g12 => ?_) (fun g12 => ?_)
      · refine o_val (v_fieldAddrC 1 Tryz.underlying34 rfl ti9 (by decide) rfl) (dd rfl) ?_
        refine o_on rfl rfl ?_
        refine o_val (v_load lone9 rfl (hX (by repeat constructor)) rfl) (dd rfl) ?_
        refine o_on rfl rfl ?_
        refine o_step (s_callf_keep cl68 (hN) rfl (dd rfl) (rX (by repeat constructor)) (fun _ => sX) (fun _ _ => ?_))
        refine o_on rfl rfl ?_
        refine o_val (v_not rfl) (dd rfl) ?_
        refine o_val (v_pick_f rfl rfl) (dd rfl) ?_
        refine o_val (v_move rfl) (dd rfl) ?_
        first | refine o_guard_f rfl rfl (fun g18 => ?_) (fun g18 => ?_) | refine o_guard rfl rfl (fun g18 => ?_) (fun g18 => ?_)
        · refine o_val (v_fieldAddrC 2 Tryz.underlying34 rfl ti32 (by decide) rfl) (dd rfl) ?_
          refine o_on rfl rfl ?_
          refine o_val (v_load lone32 rfl (hX (by repeat constructor)) rfl) (dd rfl) ?_
          refine o_on rfl rfl ?_
          refine o_val ((by first | exact v_len_form Tryz.underlying32 rfl | exact v_len_sl Tryz.underlying32 rfl (hX (by repeat constructor)))) (dd rfl) ?_
          refine o_on rfl rfl ?_
          refine o_val (v_gt rfl rfl) (dd rfl) ?_
          refine o_val (v_pick_f rfl rfl) (dd rfl) ?_
          refine o_val (v_move rfl) (dd rfl) ?_
          first | refine o_guard_f rfl rfl (fun g24 => ?_) (fun g24 => ?_) | refine o_guard rfl rfl (fun g24 => ?_) (fun g24 => ?_)
          · refine o_val (v_fieldAddrC 3 Tryz.underlying34 rfl ti31 (by decide) rfl) (dd rfl) ?_
            refine o_on rfl rfl ?_
            refine o_val (v_load lone31 rfl (hX (by repeat constructor)) rfl) (dd rfl) ?_
            refine o_on rfl rfl ?_
            refine o_val ((by first | exact v_len_form Tryz.underlying31 rfl | exact v_len_sl Tryz.underlying31 rfl (hX (by repeat constructor)))) (dd rfl) ?_
            refine o_on rfl rfl ?_
            refine o_val (v_lt rfl rfl) (dd rfl) ?_
            refine o_val (v_pick_f rfl rfl) (dd rfl) ?_
            refine o_val (v_move rfl) (dd rfl) ?_
            first | refine o_guard_f rfl rfl (fun g30 => ?_) (fun g30 => ?_) | refine o_guard rfl rfl (fun g30 => ?_) (fun g30 => ?_)
            · refine o_val (v_fieldAddrC 3 Tryz.underlying34 rfl ti31 (by decide) rfl) (dd rfl) ?_
              refine o_on rfl rfl ?_
              refine o_val (v_load lone31 rfl (hX (by repeat constructor)) rfl) (dd rfl) ?_
              refine o_on rfl rfl ?_
              refine o_val ((by first | exact v_len_form Tryz.underlying31 rfl | exact v_len_sl Tryz.underlying31 rfl (hX (by repeat constructor)))) (dd rfl) ?_
              refine o_on rfl rfl ?_
              refine o_val (v_gt rfl rfl) (dd rfl) ?_
              refine o_val (v_pick_f rfl rfl) (dd rfl) ?_
              refine o_nil ?_
              exact c_use J ⟨Env.as rfl (congrArg Value.bool (by first | rfl | (simp_all; done) | (simp_all; omega) | exact decide_eq_decide.2 ⟨fun h => .inr (.inr (.inr (.inr (.inr (by omega))))), fun h => by rcases h with h | h | h | h | h | h <;> first | omega | (simp_all; done)⟩ | exact (decide_eq_true (.inr (.inr (.inr (.inr (.inl (by omega))))))).symm)), (by repeat (first | exact trivial | refine ⟨rfl, ?_⟩))⟩ (by first | exact Ent.refl _ | exact eX (by repeat constructor))
            · refine o_off rfl rfl rfl (dd rfl) ?_
              refine o_off rfl rfl rfl (dd rfl) ?_
              refine o_off rfl rfl rfl (dd rfl) ?_
              refine o_off rfl rfl rfl (dd rfl) ?_
              refine o_val (v_pick_t rfl rfl) (dd rfl) ?_
              refine o_nil ?_
              exact c_use J ⟨Env.as rfl (congrArg Value.bool (by first | rfl | (simp_all; done) | (simp_all; omega) | exact decide_eq_decide.2 ⟨fun h => .inr (.inr (.inr (.inr (.inr (by omega))))), fun h => by rcases h with h | h | h | h | h | h <;> first | omega | (simp_all; done)⟩ | exact (decide_eq_true (.inr (.inr (.inr (.inr (.inl (by omega))))))).symm)), (by repeat (first | exact trivial | refine ⟨rfl, ?_⟩))⟩ (by first | exact Ent.refl _ | exact eX (by repeat constructor))
          · refine o_off rfl rfl rfl (dd rfl) ?_
            refine o_off rfl rfl rfl (dd rfl) ?_
            refine o_off rfl rfl rfl (dd rfl) ?_
            refine o_off rfl rfl rfl (dd rfl) ?_
            refine o_val (v_pick_t rfl rfl) (dd rfl) ?_
            refine o_val (v_move rfl) (dd rfl) ?_
            refine o_off rfl rfl rfl (dd rfl) ?_
            refine o_off rfl rfl rfl (dd rfl) ?_
            refine o_off rfl rfl rfl (dd rfl) ?_
            refine o_off rfl rfl rfl (dd rfl) ?_
            refine o_val (v_pick_t rfl rfl) (dd rfl) ?_
            refine o_nil ?_
            exact c_use J ⟨Env.as rfl (congrArg Value.bool (by first | rfl | (simp_all; done) | (simp_all; omega) | exact decide_eq_decide.2 ⟨fun h => .inr (.inr (.inr (.inr (.inr (by omega))))), fun h => by rcases h with h | h | h | h | h | h <;> first | omega | (simp_all; done)⟩ | exact (decide_eq_true (.inr (.inr (.inr (.inr (.inl (by omega))))))).symm)), (by repeat (first | exact trivial | refine ⟨rfl, ?_⟩))⟩ (by first | exact Ent.refl _ | exact eX (by repeat constructor))
        · refine o_off rfl rfl rfl (dd rfl) ?_
          refine o_off rfl rfl rfl (dd rfl) ?_
          refine o_off rfl rfl rfl (dd rfl) ?_
          refine o_off rfl rfl rfl (dd rfl) ?_
          refine o_val (v_pick_t rfl rfl) (dd rfl) ?_
          refine o_val (v_move rfl) (dd rfl) ?_
          refine o_off rfl rfl rfl (dd rfl) ?_
          refine o_off rfl rfl rfl (dd rfl) ?_
          refine o_off rfl rfl rfl (dd rfl) ?_
          refine o_off rfl rfl rfl (dd rfl) ?_
          refine o_val (v_pick_t rfl rfl) (dd rfl) ?_
          refine o_val (v_move rfl) (dd rfl) ?_
          refine o_off rfl rfl rfl (dd rfl) ?_
          refine o_off rfl rfl rfl (dd rfl) ?_
          refine o_off rfl rfl rfl (dd rfl) ?_
          refine o_off rfl rfl rfl (dd rfl) ?_
          refine o_val (v_pick_t rfl rfl) (dd rfl) ?_
          refine o_nil ?_
          exact c_use J ⟨Env.as rfl (congrArg Value.bool (by first | rfl | (simp_all; done) | (simp_all; omega) | exact decide_eq_decide.2 ⟨fun h => .inr (.inr (.inr (.inr (.inr (by omega))))), fun h => by rcases h with h | h | h | h | h | h <;> first | omega | (simp_all; done)⟩ | exact (decide_eq_true (.inr (.inr (.inr (.inr (.inl (by omega))))))).symm)), (by repeat (first | exact trivial | refine ⟨rfl, ?_⟩))⟩ (by first | exact Ent.refl _ | exact eX (by repeat constructor))
      · refine o_off rfl rfl rfl (dd rfl) ?_
        refine o_off rfl rfl rfl (dd rfl) ?_
        refine o_off rfl rfl rfl (dd rfl) ?_
        refine o_off rfl rfl rfl (dd rfl) ?_
        refine o_val (v_pick_t rfl rfl) (dd rfl) ?_
        refine o_val (v_move rfl) (dd rfl) ?_
        refine o_off rfl rfl rfl (dd rfl) ?_
        refine o_off rfl rfl rfl (dd rfl) ?_
        refine o_off rfl rfl rfl (dd rfl) ?_
        refine o_off rfl rfl rfl (dd rfl) ?_
        refine o_val (v_pick_t rfl rfl) (dd rfl) ?_
        refine o_val (v_move rfl) (dd rfl) ?_
        refine o_off rfl rfl rfl (dd rfl) ?_
        refine o_off rfl rfl rfl (dd rfl) ?_
        refine o_off rfl rfl rfl (dd rfl) ?_
        refine o_off rfl rfl rfl (dd rfl) ?_
        refine o_val (v_pick_t rfl rfl) (dd rfl) ?_
        refine o_val (v_move rfl) (dd rfl) ?_
        refine o_off rfl rfl rfl (dd rfl) ?_
        refine o_off rfl rfl rfl (dd rfl) ?_
        refine o_off rfl rfl rfl (dd rfl) ?_
        refine o_off rfl rfl rfl (dd rfl) ?_
        refine o_val (v_pick_t rfl rfl) (dd rfl) ?_
        refine o_nil ?_
        exact c_use J ⟨Env.as rfl (congrArg Value.bool (by first | rfl | (simp_all; done) | (simp_all; omega) | exact decide_eq_decide.2 ⟨fun h => .inr (.inr (.inr (.inr (.inr (by omega))))), fun h => by rcases h with h | h | h | h | h | h <;> first | omega | (simp_all; done)⟩ | exact (decide_eq_true (.inr (.inr (.inr (.inr (.inl (by omega))))))).symm)), (by repeat (first | exact trivial | refine ⟨rfl, ?_⟩))⟩ (by first | exact Ent.refl _ | exact eX (by repeat constructor))
    · refine o_off rfl rfl rfl (dd rfl) ?_
      refine o_off rfl rfl rfl (dd rfl) ?_
      refine o_off rfl rfl rfl (dd rfl) ?_
      refine o_val (v_pick_t rfl rfl) (dd rfl) ?_
      refine o_val (v_move rfl) (dd rfl) ?_
      refine o_off rfl rfl rfl (dd rfl) ?_
      refine o_off rfl rfl rfl (dd rfl) ?_
      refine o_off rfl rfl rfl (dd rfl) ?_
      refine o_off rfl rfl rfl (dd rfl) ?_
      refine o_val (v_pick_t rfl rfl) (dd rfl) ?_
      refine o_val (v_move rfl) (dd rfl) ?_
      refine o_off rfl rfl rfl (dd rfl) ?_
      refine o_off rfl rfl rfl (dd rfl) ?_
      refine o_off rfl rfl rfl (dd rfl) ?_
      refine o_off rfl rfl rfl (dd rfl) ?_
      refine o_val (v_pick_t rfl rfl) (dd rfl) ?_
      refine o_val (v_move rfl) (dd rfl) ?_
      refine o_off rfl rfl rfl (dd rfl) ?_
      refine o_off rfl rfl rfl (dd rfl) ?_
      refine o_off rfl rfl rfl (dd rfl) ?_
      refine o_off rfl rfl rfl (dd rfl) ?_
      refine o_val (v_pick_t rfl rfl) (dd rfl) ?_
      refine o_val (v_move rfl) (dd rfl) ?_
      refine o_off rfl rfl rfl (dd rfl) ?_
      refine o_off rfl rfl rfl (dd rfl) ?_
      refine o_off rfl rfl rfl (dd rfl) ?_
      refine o_off rfl rfl rfl (dd rfl) ?_
      refine o_val (v_pick_t rfl rfl) (dd rfl) ?_
      refine o_nil ?_
      exact c_use J ⟨Env.as rfl (congrArg Value.bool (by first | rfl | (simp_all; done) | (simp_all; omega) | exact decide_eq_decide.2 ⟨fun h => .inr (.inr (.inr (.inr (.inr (by omega))))), fun h => by rcases h with h | h | h | h | h | h <;> first | omega | (simp_all; done)⟩ | exact (decide_eq_true (.inr (.inr (.inr (.inr (.inl (by omega))))))).symm)), (by repeat (first | exact trivial | refine ⟨rfl, ?_⟩))⟩ (by first | exact Ent.refl _ | exact eX (by repeat constructor))
  refine c_cond_p rfl (fun h1 => ?_) (fun h1 => ?_)
  · have hR : rightT (id, n, d, l) = false := by
      rw [Bool.eq_false_iff]
      intro k
      unfold rightT at k
      simp only [Bool.and_eq_true, decide_eq_true_eq] at k
      obtain ⟨⟨⟨⟨⟨⟨⟨k1, k2⟩, k3⟩, k4⟩, _⟩, k5⟩, k6⟩, _⟩ := k
      rcases h1 with h | h | h | h | h | h
      · omega
      · omega
      · exact h k3
      · omega
      · omega
      · omega
    refine c_seq ?_
    refine c_region ?_
    refine o_val (v_assign rfl) (dd rfl) ?_
    refine o_nil ?_
    refine c_ret1 Tryz.func22 rfl rfl fun w O hS => ?_
    exact ⟨(), by rw [hR], trivial, trivial⟩
  · have hln : lineP n = true := Classical.not_not.1 fun h => h1 (.inr (.inr (.inl h)))
    have hR : rightT (id, n, d, l) = (depsP id 0 d && l.all rightP) := by
      unfold rightT
      dsimp only
      rw [decide_eq_true (p := 1 ≤ id) (by omega), decide_eq_true (p := id ≤ 1000000000) (by omega), hln, decide_eq_true (p := d.length ≤ 8) (by omega), decide_eq_true (p := 1 ≤ l.length) (by omega), decide_eq_true (p := l.length ≤ 24) (by omega)]
      simp only [Bool.true_and, Bool.and_true]
    have hdp := depsP0_iff id d
    refine c_skip ?_
    refine c_seq ?_
    refine c_seq ?_
    refine c_region ?_
    refine o_val (v_assign rfl) (dd rfl) ?_
    refine o_nil ?_
    refine c_block ?_
    refine c_loopR (γ := Nat) [(1, _), (2, _)] (fun k => d.length - k) (fun k => k ≤ d.length ∧ ∀ j (h : j < d.length), j < k → 1 ≤ d[j] ∧ d[j] ≤ 1000000000 ∧ d[j] ≠ id ∧ (j = 0 ∨ d[j - 1] < d[j])) (fun k => [(3, .int .i64 k)]) (fun _ => [Blk b1 34 [.int .i64 id, .string n, dv, lv], Sl (eInt .i64) dv d, Sl ePr lv l]) (0) (⟨Nat.zero_le _, fun _ _ h => absurd h (Nat.not_lt_zero _)⟩) (by repeat (first | exact trivial | refine ⟨rfl, ?_⟩)) (eX (by repeat constructor)) ?_
    rintro k ⟨hk, hc⟩ IH
    try dsimp only [List.cons_append, List.nil_append]
    refine c_seq ?_
    refine c_seq ?_
    refine c_region ?_
    refine o_val (v_move rfl) (dd rfl) ?_
    refine o_val (v_fieldAddrC 2 Tryz.underlying34 rfl ti32 (by decide) rfl) (dd rfl) ?_
    refine o_val (v_load lone32 rfl (hX (by repeat constructor)) rfl) (dd rfl) ?_
    refine o_val ((by first | exact v_len_form Tryz.underlying32 rfl | exact v_len_sl Tryz.underlying32 rfl (hX (by repeat constructor)))) (dd rfl) ?_
    refine o_val (v_lt rfl rfl) (dd rfl) ?_
    refine o_nil ?_
    refine c_cond_p rfl (fun hlt => ?_) (fun hlt => ?_)
    · have hk' : k < d.length := by omega
      refine c_skip ?_
      refine c_seq ?_
      refine c_block ?_
      refine c_seq ?_
      refine c_env (env' := [(1, _), (2, _), (3, _), (36, _), (37, _), (38, _), (39, _), (40, _)]) (by repeat (first | exact trivial | refine ⟨rfl, ?_⟩)) ?_
      refine c_joinb (d := 84) (decide (¬ (1 ≤ d[k] ∧ d[k] ≤ 1000000000 ∧ d[k] ≠ id ∧ (k = 0 ∨ d[k - 1] < d[k])))) ?_ ?_
      rotate_left
      · intro J
        refine c_quiet rfl (by kernel_rfl) ?_
        refine q_val (v_fieldAddrC 2 Tryz.underlying34 rfl ti32 (by decide) rfl) (dd rfl) ?_
        refine q_val (v_load lone32 rfl (hX (by repeat constructor)) rfl) (dd rfl) ?_
        refine q_val (v_move rfl) (dd rfl) ?_
        refine q_val ((by first | exact v_indexAddrN Tryz.underlying32 ti3 rfl rfl (hX (by repeat constructor)) (by omega) | exact v_indexAddr Tryz.underlying32 ti3 rfl rfl (hX (by repeat constructor)) (by omega))) (dd rfl) ?_
        refine q_val (v_load_int lone3 rfl (by repeat (first | exact Elem.sl (List.getElem?_eq_getElem (by omega)) | exact Elem.own (List.getElem?_eq_getElem (by omega)) | exact Elem.ownO (List.getElem?_eq_getElem (by omega)) | apply Elem.there))) (dd rfl) ?_
        refine q_val (v_lt rfl rfl) (dd rfl) ?_
        refine q_val (v_move rfl) (dd rfl) ?_
        first | refine q_guard_f rfl rfl (fun g49 => ?_) (fun g49 => ?_) | refine q_guard rfl rfl (fun g49 => ?_) (fun g49 => ?_)
        · refine q_val (v_fieldAddrC 2 Tryz.underlying34 rfl ti32 (by decide) rfl) (dd rfl) ?_
          refine q_on rfl rfl ?_
          refine q_val (v_load lone32 rfl (hX (by repeat constructor)) rfl) (dd rfl) ?_
          refine q_on rfl rfl ?_
          refine q_val (v_move rfl) (dd rfl) ?_
          refine q_on rfl rfl ?_
          refine q_val ((by first | exact v_indexAddrN Tryz.underlying32 ti3 rfl rfl (hX (by repeat constructor)) (by omega) | exact v_indexAddr Tryz.underlying32 ti3 rfl rfl (hX (by repeat constructor)) (by omega))) (dd rfl) ?_
          refine q_on rfl rfl ?_
          refine q_val (v_load_int lone3 rfl (by repeat (first | exact Elem.sl (List.getElem?_eq_getElem (by omega)) | exact Elem.own (List.getElem?_eq_getElem (by omega)) | exact Elem.ownO (List.getElem?_eq_getElem (by omega)) | apply Elem.there))) (dd rfl) ?_
          refine q_on rfl rfl ?_
          refine q_val (v_gt rfl rfl) (dd rfl) ?_
          refine q_val (v_pick_f rfl rfl) (dd rfl) ?_
          refine q_val (v_move rfl) (dd rfl) ?_
          first | refine q_guard_f rfl rfl (fun g57 => ?_) (fun g57 => ?_) | refine q_guard rfl rfl (fun g57 => ?_) (fun g57 => ?_)
          · refine q_val (v_fieldAddrC 2 Tryz.underlying34 rfl ti32 (by decide) rfl) (dd rfl) ?_
            refine q_on rfl rfl ?_
            refine q_val (v_load lone32 rfl (hX (by repeat constructor)) rfl) (dd rfl) ?_
            refine q_on rfl rfl ?_
            refine q_val (v_move rfl) (dd rfl) ?_
            refine q_on rfl rfl ?_
            refine q_val ((by first | exact v_indexAddrN Tryz.underlying32 ti3 rfl rfl (hX (by repeat constructor)) (by omega) | exact v_indexAddr Tryz.underlying32 ti3 rfl rfl (hX (by repeat constructor)) (by omega))) (dd rfl) ?_
            refine q_on rfl rfl ?_
            refine q_val (v_load_int lone3 rfl (by repeat (first | exact Elem.sl (List.getElem?_eq_getElem (by omega)) | exact Elem.own (List.getElem?_eq_getElem (by omega)) | exact Elem.ownO (List.getElem?_eq_getElem (by omega)) | apply Elem.there))) (dd rfl) ?_
            refine q_on rfl rfl ?_
            refine q_val (v_fieldAddrC 0 Tryz.underlying34 rfl ti3 (by decide) rfl) (dd rfl) ?_
            refine q_on rfl rfl ?_
            refine q_val (v_load lone3 rfl (hX (by repeat constructor)) rfl) (dd rfl) ?_
            refine q_on rfl rfl ?_
            refine q_val (v_eq rfl rfl) (dd rfl) ?_
            refine q_val (v_pick_f rfl rfl) (dd rfl) ?_
            refine q_val (v_move rfl) (dd rfl) ?_
            first | refine q_guard_f rfl rfl (fun g67 => ?_) (fun g67 => ?_) | refine q_guard rfl rfl (fun g67 => ?_) (fun g67 => ?_)
            · refine q_val (v_move rfl) (dd rfl) ?_
              refine q_on rfl rfl ?_
              refine q_val (v_gt rfl rfl) (dd rfl) ?_
              refine q_on rfl rfl ?_
              refine q_val (v_move rfl) (dd rfl) ?_
              first | refine q_guard_t rfl rfl (fun g70 => ?_) (fun g70 => ?_) | refine q_guard rfl rfl (fun g70 => ?_) (fun g70 => ?_)
              · refine q_val (v_fieldAddrC 2 Tryz.underlying34 rfl ti32 (by decide) rfl) (dd rfl) ?_
                refine q_on rfl rfl ?_
                refine q_val (v_load lone32 rfl (hX (by repeat constructor)) rfl) (dd rfl) ?_
                refine q_on rfl rfl ?_
                refine q_val (v_move rfl) (dd rfl) ?_
                refine q_on rfl rfl ?_
                refine q_val ((by first | exact v_indexAddrN Tryz.underlying32 ti3 rfl rfl (hX (by repeat constructor)) (by omega) | exact v_indexAddr Tryz.underlying32 ti3 rfl rfl (hX (by repeat constructor)) (by omega))) (dd rfl) ?_
                refine q_on rfl rfl ?_
                refine q_val (v_load_int lone3 rfl (by repeat (first | exact Elem.sl (List.getElem?_eq_getElem (by omega)) | exact Elem.own (List.getElem?_eq_getElem (by omega)) | exact Elem.ownO (List.getElem?_eq_getElem (by omega)) | apply Elem.there))) (dd rfl) ?_
                refine q_on rfl rfl ?_
                refine q_val (v_fieldAddrC 2 Tryz.underlying34 rfl ti32 (by decide) rfl) (dd rfl) ?_
                refine q_on rfl rfl ?_
                refine q_val (v_load lone32 rfl (hX (by repeat constructor)) rfl) (dd rfl) ?_
                refine q_on rfl rfl ?_
                refine q_val (v_move rfl) (dd rfl) ?_
                refine q_on rfl rfl ?_
                refine q_val ((by first | exact v_sub64 rfl rfl (by omega) | exact v_sub rfl rfl)) (dd rfl) ?_
                refine q_on rfl rfl ?_
                refine q_val ((by first | exact v_indexAddrN Tryz.underlying32 ti3 rfl rfl (hX (by repeat constructor)) (by omega) | exact v_indexAddr Tryz.underlying32 ti3 rfl rfl (hX (by repeat constructor)) (by omega))) (dd rfl) ?_
                refine q_on rfl rfl ?_
                refine q_val (v_load_int lone3 rfl (by repeat (first | exact Elem.sl (List.getElem?_eq_getElem (by omega)) | exact Elem.own (List.getElem?_eq_getElem (by omega)) | exact Elem.ownO (List.getElem?_eq_getElem (by omega)) | apply Elem.there))) (dd rfl) ?_
                refine q_on rfl rfl ?_
                refine q_val (v_le rfl rfl) (dd rfl) ?_
                refine q_on rfl rfl ?_
                refine q_val (v_pick_t rfl rfl) (dd rfl) ?_
                refine q_val (v_pick_f rfl rfl) (dd rfl) ?_
                refine q_nil ?_
                exact c_use J ⟨Env.as rfl (congrArg Value.bool (by clear IH hc; first | rfl | (simp_all; done) | (simp_all; omega) | (rw [Bool.eq_iff_iff]; simp_all; done) | (rw [Bool.eq_iff_iff]; simp_all; omega) | (simp_all; trace_state; done))), (by repeat (first | exact trivial | refine ⟨rfl, ?_⟩))⟩ (by first | exact Ent.refl _ | exact eX (by repeat constructor))
              · refine q_off rfl rfl rfl (dd rfl) ?_
                refine q_off rfl rfl rfl (dd rfl) ?_
                refine q_off rfl rfl rfl (dd rfl) ?_
                refine q_off rfl rfl rfl (dd rfl) ?_
                refine q_off rfl rfl rfl (dd rfl) ?_
                refine q_off rfl rfl rfl (dd rfl) ?_
                refine q_off rfl rfl rfl (dd rfl) ?_
                refine q_off rfl rfl rfl (dd rfl) ?_
                refine q_off rfl rfl rfl (dd rfl) ?_
                refine q_off rfl rfl rfl (dd rfl) ?_
                refine q_off rfl rfl rfl (dd rfl) ?_
                refine q_off rfl rfl rfl (dd rfl) ?_
                refine q_on rfl rfl ?_
                refine q_val (v_pick_f rfl rfl) (dd rfl) ?_
                refine q_val (v_pick_f rfl rfl) (dd rfl) ?_
                refine q_nil ?_
                exact c_use J ⟨Env.as rfl (congrArg Value.bool (by clear IH hc; first | rfl | (simp_all; done) | (simp_all; omega) | (rw [Bool.eq_iff_iff]; simp_all; done) | (rw [Bool.eq_iff_iff]; simp_all; omega) | (simp_all; trace_state; done))), (by repeat (first | exact trivial | refine ⟨rfl, ?_⟩))⟩ (by first | exact Ent.refl _ | exact eX (by repeat constructor))
            · refine q_off rfl rfl rfl (dd rfl) ?_
              refine q_off rfl rfl rfl (dd rfl) ?_
              refine q_off rfl rfl rfl (dd rfl) ?_
              refine q_offu rfl rfl (dd rfl) ?_
              refine q_offu rfl rfl (dd rfl) ?_
              refine q_offu rfl rfl (dd rfl) ?_
              refine q_offu rfl rfl (dd rfl) ?_
              refine q_offu rfl rfl (dd rfl) ?_
              refine q_offu rfl rfl (dd rfl) ?_
              refine q_offu rfl rfl (dd rfl) ?_
              refine q_offu rfl rfl (dd rfl) ?_
              refine q_offu rfl rfl (dd rfl) ?_
              refine q_offu rfl rfl (dd rfl) ?_
              refine q_offu rfl rfl (dd rfl) ?_
              refine q_offu rfl rfl (dd rfl) ?_
              refine q_off rfl rfl rfl (dd rfl) ?_
              refine q_val (v_pick_t rfl rfl) (dd rfl) ?_
              refine q_nil ?_
              exact c_use J ⟨Env.as rfl (congrArg Value.bool (by clear IH hc; first | rfl | (simp_all; done) | (simp_all; omega) | (rw [Bool.eq_iff_iff]; simp_all; done) | (rw [Bool.eq_iff_iff]; simp_all; omega) | (simp_all; trace_state; done))), (by repeat (first | exact trivial | refine ⟨rfl, ?_⟩))⟩ (by first | exact Ent.refl _ | exact eX (by repeat constructor))
          · refine q_off rfl rfl rfl (dd rfl) ?_
            refine q_off rfl rfl rfl (dd rfl) ?_
            refine q_off rfl rfl rfl (dd rfl) ?_
            refine q_off rfl rfl rfl (dd rfl) ?_
            refine q_off rfl rfl rfl (dd rfl) ?_
            refine q_off rfl rfl rfl (dd rfl) ?_
            refine q_off rfl rfl rfl (dd rfl) ?_
            refine q_off rfl rfl rfl (dd rfl) ?_
            refine q_val (v_pick_t rfl rfl) (dd rfl) ?_
            refine q_val (v_move rfl) (dd rfl) ?_
            refine q_off rfl rfl rfl (dd rfl) ?_
            refine q_off rfl rfl rfl (dd rfl) ?_
            refine q_off rfl rfl rfl (dd rfl) ?_
            refine q_offu rfl rfl (dd rfl) ?_
            refine q_offu rfl rfl (dd rfl) ?_
            refine q_offu rfl rfl (dd rfl) ?_
            refine q_offu rfl rfl (dd rfl) ?_
            refine q_offu rfl rfl (dd rfl) ?_
            refine q_offu rfl rfl (dd rfl) ?_
            refine q_offu rfl rfl (dd rfl) ?_
            refine q_offu rfl rfl (dd rfl) ?_
            refine q_offu rfl rfl (dd rfl) ?_
            refine q_offu rfl rfl (dd rfl) ?_
            refine q_offu rfl rfl (dd rfl) ?_
            refine q_offu rfl rfl (dd rfl) ?_
            refine q_off rfl rfl rfl (dd rfl) ?_
            refine q_val (v_pick_t rfl rfl) (dd rfl) ?_
            refine q_nil ?_
            exact c_use J ⟨Env.as rfl (congrArg Value.bool (by clear IH hc; first | rfl | (simp_all; done) | (simp_all; omega) | (rw [Bool.eq_iff_iff]; simp_all; done) | (rw [Bool.eq_iff_iff]; simp_all; omega) | (simp_all; trace_state; done))), (by repeat (first | exact trivial | refine ⟨rfl, ?_⟩))⟩ (by first | exact Ent.refl _ | exact eX (by repeat constructor))
        · refine q_off rfl rfl rfl (dd rfl) ?_
          refine q_off rfl rfl rfl (dd rfl) ?_
          refine q_off rfl rfl rfl (dd rfl) ?_
          refine q_off rfl rfl rfl (dd rfl) ?_
          refine q_off rfl rfl rfl (dd rfl) ?_
          refine q_off rfl rfl rfl (dd rfl) ?_
          refine q_val (v_pick_t rfl rfl) (dd rfl) ?_
          refine q_val (v_move rfl) (dd rfl) ?_
          refine q_off rfl rfl rfl (dd rfl) ?_
          refine q_off rfl rfl rfl (dd rfl) ?_
          refine q_off rfl rfl rfl (dd rfl) ?_
          refine q_off rfl rfl rfl (dd rfl) ?_
          refine q_off rfl rfl rfl (dd rfl) ?_
          refine q_off rfl rfl rfl (dd rfl) ?_
          refine q_off rfl rfl rfl (dd rfl) ?_
          refine q_off rfl rfl rfl (dd rfl) ?_
          refine q_val (v_pick_t rfl rfl) (dd rfl) ?_
          refine q_val (v_move rfl) (dd rfl) ?_
          refine q_off rfl rfl rfl (dd rfl) ?_
          refine q_off rfl rfl rfl (dd rfl) ?_
          refine q_off rfl rfl rfl (dd rfl) ?_
          refine q_offu rfl rfl (dd rfl) ?_
          refine q_offu rfl rfl (dd rfl) ?_
          refine q_offu rfl rfl (dd rfl) ?_
          refine q_offu rfl rfl (dd rfl) ?_
          refine q_offu rfl rfl (dd rfl) ?_
          refine q_offu rfl rfl (dd rfl) ?_
          refine q_offu rfl rfl (dd rfl) ?_
          refine q_offu rfl rfl (dd rfl) ?_
          refine q_offu rfl rfl (dd rfl) ?_
          refine q_offu rfl rfl (dd rfl) ?_
          refine q_offu rfl rfl (dd rfl) ?_
          refine q_offu rfl rfl (dd rfl) ?_
          refine q_off rfl rfl rfl (dd rfl) ?_
          refine q_val (v_pick_t rfl rfl) (dd rfl) ?_
          refine q_nil ?_
          exact c_use J ⟨Env.as rfl (congrArg Value.bool (by clear IH hc; first | rfl | (simp_all; done) | (simp_all; omega) | (rw [Bool.eq_iff_iff]; simp_all; done) | (rw [Bool.eq_iff_iff]; simp_all; omega) | (simp_all; trace_state; done))), (by repeat (first | exact trivial | refine ⟨rfl, ?_⟩))⟩ (by first | exact Ent.refl _ | exact eX (by repeat constructor))
      refine c_cond_p rfl (fun hbad => ?_) (fun hbad => ?_)
      · have hno : depsP id 0 d = false := by
          rw [Bool.eq_false_iff]
          exact fun h => hbad (hdp.1 h k hk')
        refine c_seq ?_
        refine c_region ?_
        refine o_val (v_assign rfl) (dd rfl) ?_
        refine o_nil ?_
        refine c_ret1 Tryz.func22 rfl rfl fun w O hS => ?_
        exact ⟨(), by rw [hR, hno]; rfl, trivial, trivial⟩
      · refine c_skip ?_
        refine c_inBlock ?_
        refine c_region ?_
        refine o_val (v_move rfl) (dd rfl) ?_
        refine o_val ((by first | exact v_add64 rfl rfl (by omega) | exact v_add rfl rfl)) (dd rfl) ?_
        refine o_val (v_assign rfl) (dd rfl) ?_
        refine o_nil ?_
        refine c_use (IH (k + 1) (by first | omega | (dsimp only; omega)) (⟨by omega, fun j h h1 => (Nat.lt_succ_iff_lt_or_eq.1 h1).elim (hc j h) fun q => by subst q; exact Classical.not_not.1 hbad⟩)) (by repeat (first | exact trivial | refine ⟨rfl, ?_⟩)) (eX (by repeat constructor))
    · have hall := hdp.2 fun j hj => hc j hj (by omega)
      refine c_exit rfl ?_
      refine c_seq ?_
      refine c_region ?_
      refine o_val (v_fieldAddrC 3 Tryz.underlying34 rfl ti31 (by decide) rfl) (dd rfl) ?_
      refine o_val (v_load lone31 rfl (hX (by repeat constructor)) rfl) (dd rfl) ?_
      refine o_step (s_callf cl69 (hL) rfl (dd rfl) (pXs (by repeat constructor)) fun _ _ => ?_)
      refine o_val (v_assign rfl) (dd rfl) ?_
      refine o_nil ?_
      refine c_ret1 Tryz.func22 rfl rfl fun w O hS => ?_
      exact ⟨(), by rw [hR, hall, Bool.true_and], trivial, trivial⟩
end Go.Proofs.YtmgkeippepeggaaGreatDoor
/- Chapter 09: which names and changes may be, as the program says it. -/
namespace Go.Proofs.YtmgkeippepeggaaGreatDoor
open Go Go.SL Go.Lib L01
def letters : ByteArray := ⟨#[97, 98, 99, 100, 101, 102, 103, 104, 105, 106, 107, 108, 109, 110, 111, 112, 113, 114, 115, 116, 117, 118, 119, 120, 121, 122, 48, 49, 50, 51, 52, 53, 54, 55, 56, 57, 46, 45, 95, 47]⟩
theorem letter_char : ∀ b : UInt8, letters.data.toList.contains b = charP b := fun b => by
  have h : ∀ n, n < 256 → letters.data.toList.contains (UInt8.ofNat n) = charP (UInt8.ofNat n) := by decide +kernel
  have := h b.toNat (UInt8.toNat_lt b)
  rwa [show UInt8.ofNat b.toNat = b by simp] at this
theorem dropWhile_nil {p : UInt8 → Bool} : ∀ {l : List UInt8}, l.dropWhile p = [] ↔ l.all p = true
  | [] => by simp
  | b :: l => by
    rw [List.dropWhile_cons, List.all_cons]
    by_cases h : p b = true
    · rw [if_pos h, h, Bool.true_and]; exact dropWhile_nil
    · rw [if_neg h]; simp [h]
theorem trim_nil (l : List UInt8) : trimS l letters.data.toList = [] ↔ l.all charP = true := by
  have hp : (fun b => letters.data.toList.contains b) = charP := funext letter_char
  unfold trimS trimLeftS trimRightS
  show (List.dropWhile (fun b => letters.data.toList.contains b) _) = [] ↔ _
  rw [hp, dropWhile_nil]
  constructor
  · intro h
    refine Classical.byContradiction fun k => ?_
    obtain ⟨x, hx, hc⟩ := List.all_eq_false.1 (Bool.eq_false_iff.2 k)
    have h1 : (l.reverse.dropWhile charP) ≠ [] := fun e => by
      have := List.all_eq_true.1 (dropWhile_nil.1 e) x (List.mem_reverse.2 hx)
      exact hc this
    obtain ⟨y, r, e⟩ := List.exists_cons_of_ne_nil h1
    have hy : ¬ charP y = true := by
      have := List.head?_dropWhile_not charP l.reverse
      rw [e] at this
      simpa using this
    rw [e, List.all_reverse, List.all_cons] at h
    simp [hy] at h
  · intro h
    rw [List.all_reverse, List.all_eq_true]
    exact fun x hx => List.all_eq_true.1 h x (List.mem_reverse.1 ((List.dropWhile_sublist _).mem hx))
theorem trim_con (s : ByteArray) (hs : s.size ≤ 1000000) : Con Tryz.prog 110 [.string s, .string letters] [] (γ := Unit) (fun _ => .string (sB (trimS s.data.toList letters.data.toList))) (fun _ => True) (fun _ => []) :=
  con_below fun w _ _ => (Tryz.strings_Trim_set s letters w (by omega) (by decide) (Go.Proofs.ascii_of_all (by decide))).mono fun e w' ⟨he, hw⟩ => ⟨⟨(), he, trivial⟩, hw⟩
attribute [local irreducible] Cfg Kont StepK Val Con Qops Any Sl Own Blk BlkR Rd Pu ExA AllA Has Pick Ent Elem Beside Callable TI Lone OwnO AndA
set_option maxRecDepth 100000 in
theorem named_con (s : ByteArray) (hs : s.size ≤ 1000000) : Con Tryz.prog 93 [.string s] [] (γ := Unit) (fun _ => .bool (namedP s)) (fun _ => True) (fun _ => []) := by
  have hT := trim_con s hs
  unfold letters at hT
  have hn : sB (trimS s.data.toList letters.data.toList) = ⟨#[]⟩ ↔ s.data.toList.all charP = true := by
    rw [← trim_nil]
    exact ⟨fun h => by rw [← sB_list (trimS _ _), h], fun h => by rw [h]; rfl⟩
  unfold namedP
  refine con_of Tryz.func93 rfl (dd rfl) fun w0 O0 => ?_
  refine c_seq ?_
  refine c_region ?_
  refine o_val (v_assign rfl) (dd rfl) ?_
  refine o_nil ?_
  refine c_seq ?_
  refine c_region ?_
  refine o_val (v_move rfl) (dd rfl) ?_
  refine o_val (v_len_str Tryz.underlying9 rfl) (dd rfl) ?_
  refine o_val (v_ge rfl rfl) (dd rfl) ?_
  refine o_val (v_move rfl) (dd rfl) ?_
  refine o_guard_t rfl rfl (fun h1 => ?_) (fun h1 => ?_)
  · refine o_val (v_move rfl) (dd rfl) ?_
    refine o_on rfl rfl ?_
    refine o_val (v_len_str Tryz.underlying9 rfl) (dd rfl) ?_
    refine o_on rfl rfl ?_
    refine o_val (v_le rfl rfl) (dd rfl) ?_
    refine o_val (v_pick_t rfl rfl) (dd rfl) ?_
    refine o_val (v_move rfl) (dd rfl) ?_
    refine o_guard_t rfl rfl (fun h2 => ?_) (fun h2 => ?_)
    · refine o_val (v_move rfl) (dd rfl) ?_
      refine o_on rfl rfl ?_
      refine o_step (s_callf_keep cl110 (hT) rfl (dd rfl) (rX (by repeat constructor)) (fun _ => sX) (fun _ _ => ?_))
      refine o_on rfl rfl ?_
      refine o_val (v_seq rfl rfl) (dd rfl) ?_
      refine o_val (v_pick_t rfl rfl) (dd rfl) ?_
      refine o_val (v_assign rfl) (dd rfl) ?_
      refine o_nil ?_
      refine c_ret1 Tryz.func93 rfl rfl fun w O hS => ?_
      refine ⟨(), ?_, trivial, trivial⟩
      rw [decide_eq_true (p := 1 ≤ s.size) (by omega), decide_eq_true (p := s.size ≤ 24) (by omega)]
      refine congrArg Value.bool ?_
      rw [Bool.true_and, Bool.true_and, Bool.eq_iff_iff, decide_eq_true_eq]
      exact hn
    · refine o_off rfl rfl rfl (dd rfl) ?_
      refine o_off rfl rfl rfl (dd rfl) ?_
      refine o_off rfl rfl rfl (dd rfl) ?_
      refine o_val (v_pick_f rfl rfl) (dd rfl) ?_
      refine o_val (v_assign rfl) (dd rfl) ?_
      refine o_nil ?_
      refine c_ret1 Tryz.func93 rfl rfl fun w O hS => ?_
      exact ⟨(), by rw [decide_eq_false (p := s.size ≤ 24) (by omega), Bool.and_false, Bool.false_and], trivial, trivial⟩
  · refine o_off rfl rfl rfl (dd rfl) ?_
    refine o_off rfl rfl rfl (dd rfl) ?_
    refine o_off rfl rfl rfl (dd rfl) ?_
    refine o_val (v_pick_f rfl rfl) (dd rfl) ?_
    refine o_val (v_move rfl) (dd rfl) ?_
    refine o_off rfl rfl rfl (dd rfl) ?_
    refine o_off rfl rfl rfl (dd rfl) ?_
    refine o_off rfl rfl rfl (dd rfl) ?_
    refine o_val (v_pick_f rfl rfl) (dd rfl) ?_
    refine o_val (v_assign rfl) (dd rfl) ?_
    refine o_nil ?_
    refine c_ret1 Tryz.func93 rfl rfl fun w O hS => ?_
    exact ⟨(), by rw [decide_eq_false (p := 1 ≤ s.size) (by omega), Bool.false_and, Bool.false_and], trivial, trivial⟩
end Go.Proofs.YtmgkeippepeggaaGreatDoor
/- Chapter 09: which changes may be, as the program says it. -/
namespace Go.Proofs.YtmgkeippepeggaaGreatDoor
open Go Go.SL Go.Lib L01
attribute [local irreducible] Cfg Kont StepK Val Con Qops Any Sl Own Blk BlkR Rd Pu ExA AllA Has Pick Ent Elem Beside Callable TI Lone OwnO AndA
set_option maxRecDepth 100000 in
theorem right_prim_con (p : Pr9) (ov wv : Value) (hp : SizeP p) : Con Tryz.prog 72 [.agg #[.int .i64 p.1, .string p.2.1, .string p.2.2.1, .int .i64 p.2.2.2.1, ov, wv]] [Sl eStr ov p.2.2.2.2.1, Sl eStr wv p.2.2.2.2.2] (γ := Unit) (fun _ => .bool (rightP p)) (fun _ => True) (fun _ => []) := by
  obtain ⟨k, n, t, a, o, w⟩ := p
  obtain ⟨hn, ht, ⟨ho, hoe⟩, hw, hwe⟩ := hp
  dsimp only at hn ht ho hoe hw hwe ⊢
  have hN := named_con n hn
  have hT := named_con t ht
  have hO := all_con ov o ho
  have hW := all_con wv w hw
  have hOW := same_con ov wv o w ho hw
  rw [all_line] at hO hW
  have htn := ba_none (t := t)
  refine con_of Tryz.func72 rfl (dd rfl) fun w0 O0 => ?_
  refine c_seq ?_
  refine c_region ?_
  refine o_step (s_box rfl (dd rfl) (fun b1 => ?_))
  refine o_val (v_assign rfl) (dd rfl) ?_
  refine o_nil ?_
  refine c_seq ?_
  refine c_env (env' := [(1, _), (2, _)]) (by repeat (first | exact trivial | refine ⟨rfl, ?_⟩)) ?_
  refine c_joinb (d := 3) (decide (a = 0 ∧ o.length = 0 ∧ w.length = 0)) ?_ ?_
  rotate_left
  · intro J
    refine c_region ?_
    refine o_val (v_fieldAddrC 3 Tryz.underlying58 rfl ti3 (by decide) rfl) (dd rfl) ?_
    refine o_val (v_load lone3 rfl (hX (by repeat constructor)) rfl) (dd rfl) ?_
    refine o_val (v_eq rfl rfl) (dd rfl) ?_
    refine o_val (v_move rfl) (dd rfl) ?_
    first | refine o_guard_t rfl rfl (fun g7 => ?_) (fun g7 => ?_) | refine o_guard rfl rfl (fun g7 => ?_) (fun g7 => ?_)
    · refine o_val (v_fieldAddrC 4 Tryz.underlying58 rfl ti28 (by decide) rfl) (dd rfl) ?_
      refine o_on rfl rfl ?_
      refine o_val (v_load lone28 rfl (hX (by repeat constructor)) rfl) (dd rfl) ?_
      refine o_on rfl rfl ?_
      refine o_val ((by first | exact v_len_form Tryz.underlying28 rfl | exact v_len_sl Tryz.underlying28 rfl (hX (by repeat constructor)))) (dd rfl) ?_
      refine o_on rfl rfl ?_
      refine o_val (v_eq rfl rfl) (dd rfl) ?_
      refine o_val (v_pick_t rfl rfl) (dd rfl) ?_
      refine o_val (v_move rfl) (dd rfl) ?_
      first | refine o_guard_t rfl rfl (fun g13 => ?_) (fun g13 => ?_) | refine o_guard rfl rfl (fun g13 => ?_) (fun g13 => ?_)
      · refine o_val (v_fieldAddrC 5 Tryz.underlying58 rfl ti28 (by decide) rfl) (dd rfl) ?_
        refine o_on rfl rfl ?_
        refine o_val (v_load lone28 rfl (hX (by repeat constructor)) rfl) (dd rfl) ?_
        refine o_on rfl rfl ?_
        refine o_val ((by first | exact v_len_form Tryz.underlying28 rfl | exact v_len_sl Tryz.underlying28 rfl (hX (by repeat constructor)))) (dd rfl) ?_
        refine o_on rfl rfl ?_
        refine o_val (v_eq rfl rfl) (dd rfl) ?_
        refine o_val (v_pick_t rfl rfl) (dd rfl) ?_
        refine o_val (v_assign rfl) (dd rfl) ?_
        refine o_nil ?_
        exact c_use J ⟨Env.as rfl (congrArg Value.bool (by first | rfl | (simp_all; done) | (simp_all; omega) | exact decide_eq_decide.2 (by omega) | exact (decide_eq_false (by omega)).symm)), (by repeat (first | exact trivial | refine ⟨rfl, ?_⟩))⟩ (by first | exact Ent.refl _ | exact eX (by repeat constructor))
      · refine o_off rfl rfl rfl (dd rfl) ?_
        refine o_off rfl rfl rfl (dd rfl) ?_
        refine o_off rfl rfl rfl (dd rfl) ?_
        refine o_off rfl rfl rfl (dd rfl) ?_
        refine o_val (v_pick_f rfl rfl) (dd rfl) ?_
        refine o_val (v_assign rfl) (dd rfl) ?_
        refine o_nil ?_
        exact c_use J ⟨Env.as rfl (congrArg Value.bool (by first | rfl | (simp_all; done) | (simp_all; omega) | exact decide_eq_decide.2 (by omega) | exact (decide_eq_false (by omega)).symm)), (by repeat (first | exact trivial | refine ⟨rfl, ?_⟩))⟩ (by first | exact Ent.refl _ | exact eX (by repeat constructor))
    · refine o_off rfl rfl rfl (dd rfl) ?_
      refine o_off rfl rfl rfl (dd rfl) ?_
      refine o_off rfl rfl rfl (dd rfl) ?_
      refine o_off rfl rfl rfl (dd rfl) ?_
      refine o_val (v_pick_f rfl rfl) (dd rfl) ?_
      refine o_val (v_move rfl) (dd rfl) ?_
      refine o_off rfl rfl rfl (dd rfl) ?_
      refine o_off rfl rfl rfl (dd rfl) ?_
      refine o_off rfl rfl rfl (dd rfl) ?_
      refine o_off rfl rfl rfl (dd rfl) ?_
      refine o_val (v_pick_f rfl rfl) (dd rfl) ?_
      refine o_val (v_assign rfl) (dd rfl) ?_
      refine o_nil ?_
      exact c_use J ⟨Env.as rfl (congrArg Value.bool (by first | rfl | (simp_all; done) | (simp_all; omega) | exact decide_eq_decide.2 (by omega) | exact (decide_eq_false (by omega)).symm)), (by repeat (first | exact trivial | refine ⟨rfl, ?_⟩))⟩ (by first | exact Ent.refl _ | exact eX (by repeat constructor))
  refine c_seq ?_
  refine c_block ?_
  refine c_seq ?_
  refine c_region ?_
  refine o_val (v_fieldAddrC 1 Tryz.underlying58 rfl ti9 (by decide) rfl) (dd rfl) ?_
  refine o_val (v_load lone9 rfl (hX (by repeat constructor)) rfl) (dd rfl) ?_
  have hB : bareP (k, n, t, a, o, w) = decide (a = 0 ∧ o.length = 0 ∧ w.length = 0) := by
    unfold bareP
    dsimp only
    rw [Bool.eq_iff_iff]
    simp only [Bool.and_eq_true, decide_eq_true_eq]
    exact ⟨fun h => ⟨h.1.1, h.1.2, h.2⟩, fun h => ⟨⟨h.1, h.2.1⟩, h.2.2⟩⟩
  refine o_step (s_callf_keep cl93 (hN) rfl (dd rfl) (rX (by repeat constructor)) (fun _ => sX) (fun _ _ => ?_))
  refine o_val (v_not rfl) (dd rfl) ?_
  refine o_val (v_assign rfl) (dd rfl) ?_
  refine o_nil ?_
  refine c_cond rfl (fun hnn => ?_) (fun hnn => ?_)
  · have hn0 : namedP n = false := by simpa using hnn
    refine c_seq ?_
    refine c_region ?_
    refine o_val (v_assign rfl) (dd rfl) ?_
    refine o_nil ?_
    refine c_ret1 Tryz.func72 rfl rfl fun w O hS => ?_
    exact ⟨(), by unfold rightP; rw [hn0]; rfl, trivial, trivial⟩
  · have hn1 : namedP n = true := by simpa using hnn
    refine c_seq ?_
    refine c_region ?_
    refine o_val (v_fieldAddrC 0 Tryz.underlying58 rfl ti3 (by decide) rfl) (dd rfl) ?_
    refine o_val (v_load lone3 rfl (hX (by repeat constructor)) rfl) (dd rfl) ?_
    refine o_val (v_eq rfl rfl) (dd rfl) ?_
    refine o_val (v_assign rfl) (dd rfl) ?_
    refine o_nil ?_
    refine c_cond_p rfl (fun h0 => ?_) (fun h0 => ?_)
    · have hR : rightP (k, n, t, a, o, w) = (decide (t.size = 0) && decide (0 ≤ a) && decide (a ≤ 1048576) && o.all lineP && w.all lineP && decide (o ≠ w)) := by
        unfold rightP
        dsimp only
        rw [if_pos h0, hn1, Bool.true_and]
      refine c_seq ?_
      refine c_region ?_
      refine o_val (v_fieldAddrC 2 Tryz.underlying58 rfl ti9 (by decide) rfl) (dd rfl) ?_
      refine o_val (v_load lone9 rfl (hX (by repeat constructor)) rfl) (dd rfl) ?_
      refine o_val (v_seq rfl rfl) (dd rfl) ?_
      refine o_val (v_move rfl) (dd rfl) ?_
      refine o_guard_t rfl rfl (fun g1 => ?_) (fun g1 => ?_)
      · rw [decide_eq_true (p := t.size = 0) (htn.1 g1)] at hR
        refine o_val (v_fieldAddrC 3 Tryz.underlying58 rfl ti3 (by decide) rfl) (dd rfl) ?_
        refine o_on rfl rfl ?_
        refine o_val (v_load lone3 rfl (hX (by repeat constructor)) rfl) (dd rfl) ?_
        refine o_on rfl rfl ?_
        refine o_val (v_ge rfl rfl) (dd rfl) ?_
        refine o_val (v_pick_t rfl rfl) (dd rfl) ?_
        refine o_val (v_move rfl) (dd rfl) ?_
        refine o_guard_t rfl rfl (fun g2 => ?_) (fun g2 => ?_)
        · rw [decide_eq_true (p := 0 ≤ a) (by omega)] at hR
          refine o_val (v_fieldAddrC 3 Tryz.underlying58 rfl ti3 (by decide) rfl) (dd rfl) ?_
          refine o_on rfl rfl ?_
          refine o_val (v_load lone3 rfl (hX (by repeat constructor)) rfl) (dd rfl) ?_
          refine o_on rfl rfl ?_
          refine o_val (v_le rfl rfl) (dd rfl) ?_
          refine o_val (v_pick_t rfl rfl) (dd rfl) ?_
          refine o_val (v_move rfl) (dd rfl) ?_
          refine o_guard_t rfl rfl (fun g3 => ?_) (fun g3 => ?_)
          · rw [decide_eq_true (p := a ≤ 1048576) (by omega)] at hR
            simp only [Bool.true_and] at hR
            refine o_val (v_fieldAddrC 4 Tryz.underlying58 rfl ti28 (by decide) rfl) (dd rfl) ?_
            refine o_on rfl rfl ?_
            refine o_val (v_load lone28 rfl (hX (by repeat constructor)) rfl) (dd rfl) ?_
            refine o_on rfl rfl ?_
            refine o_step (s_callf_keep cl94 (hO) rfl (dd rfl) (rX (by repeat constructor)) (fun _ => sX) (fun _ _ => ?_))
            refine o_val (v_pick_t rfl rfl) (dd rfl) ?_
            refine o_val (v_move rfl) (dd rfl) ?_
            refine o_guard rfl rfl (fun g4 => ?_) (fun g4 => ?_)
            · refine o_val (v_fieldAddrC 5 Tryz.underlying58 rfl ti28 (by decide) rfl) (dd rfl) ?_
              refine o_on rfl rfl ?_
              refine o_val (v_load lone28 rfl (hX (by repeat constructor)) rfl) (dd rfl) ?_
              refine o_on rfl rfl ?_
              refine o_step (s_callf_keep cl94 (hW) rfl (dd rfl) (rX (by repeat constructor)) (fun _ => sX) (fun _ _ => ?_))
              refine o_val (v_pick_t rfl rfl) (dd rfl) ?_
              refine o_val (v_move rfl) (dd rfl) ?_
              refine o_guard rfl rfl (fun g5 => ?_) (fun g5 => ?_)
              · refine o_val (v_fieldAddrC 4 Tryz.underlying58 rfl ti28 (by decide) rfl) (dd rfl) ?_
                refine o_on rfl rfl ?_
                refine o_val (v_load lone28 rfl (hX (by repeat constructor)) rfl) (dd rfl) ?_
                refine o_on rfl rfl ?_
                refine o_val (v_fieldAddrC 5 Tryz.underlying58 rfl ti28 (by decide) rfl) (dd rfl) ?_
                refine o_on rfl rfl ?_
                refine o_val (v_load lone28 rfl (hX (by repeat constructor)) rfl) (dd rfl) ?_
                refine o_on rfl rfl ?_
                refine o_step (s_callf_keep cl81 (hOW) rfl (dd rfl) (rX (by repeat constructor)) (fun _ => sX) (fun _ _ => ?_))
                refine o_on rfl rfl ?_
                refine o_val (v_not rfl) (dd rfl) ?_
                refine o_val (v_pick_t rfl rfl) (dd rfl) ?_
                refine o_val (v_assign rfl) (dd rfl) ?_
                refine o_nil ?_
                refine c_ret1 Tryz.func72 rfl rfl fun w O hS => ?_
                exact ⟨(), by rw [hR, g4, g5]; simp, trivial, trivial⟩
              · refine o_off rfl rfl rfl (dd rfl) ?_
                refine o_off rfl rfl rfl (dd rfl) ?_
                refine o_off rfl rfl rfl (dd rfl) ?_
                refine o_off rfl rfl rfl (dd rfl) ?_
                refine o_off rfl rfl rfl (dd rfl) ?_
                refine o_off rfl rfl rfl (dd rfl) ?_
                refine o_val (v_pick_f rfl rfl) (dd rfl) ?_
                refine o_val (v_assign rfl) (dd rfl) ?_
                refine o_nil ?_
                refine c_ret1 Tryz.func72 rfl rfl fun w O hS => ?_
                exact ⟨(), by rw [hR, g4, g5]; rfl, trivial, trivial⟩
            · refine o_off rfl rfl rfl (dd rfl) ?_
              refine o_off rfl rfl rfl (dd rfl) ?_
              refine o_off rfl rfl rfl (dd rfl) ?_
              refine o_val (v_pick_f rfl rfl) (dd rfl) ?_
              refine o_val (v_move rfl) (dd rfl) ?_
              refine o_off rfl rfl rfl (dd rfl) ?_
              refine o_off rfl rfl rfl (dd rfl) ?_
              refine o_off rfl rfl rfl (dd rfl) ?_
              refine o_off rfl rfl rfl (dd rfl) ?_
              refine o_off rfl rfl rfl (dd rfl) ?_
              refine o_off rfl rfl rfl (dd rfl) ?_
              refine o_val (v_pick_f rfl rfl) (dd rfl) ?_
              refine o_val (v_assign rfl) (dd rfl) ?_
              refine o_nil ?_
              refine c_ret1 Tryz.func72 rfl rfl fun w O hS => ?_
              exact ⟨(), by rw [hR, g4]; rfl, trivial, trivial⟩
          · refine o_off rfl rfl rfl (dd rfl) ?_
            refine o_off rfl rfl rfl (dd rfl) ?_
            refine o_off rfl rfl rfl (dd rfl) ?_
            refine o_val (v_pick_f rfl rfl) (dd rfl) ?_
            refine o_val (v_move rfl) (dd rfl) ?_
            refine o_off rfl rfl rfl (dd rfl) ?_
            refine o_off rfl rfl rfl (dd rfl) ?_
            refine o_off rfl rfl rfl (dd rfl) ?_
            refine o_val (v_pick_f rfl rfl) (dd rfl) ?_
            refine o_val (v_move rfl) (dd rfl) ?_
            refine o_off rfl rfl rfl (dd rfl) ?_
            refine o_off rfl rfl rfl (dd rfl) ?_
            refine o_off rfl rfl rfl (dd rfl) ?_
            refine o_off rfl rfl rfl (dd rfl) ?_
            refine o_off rfl rfl rfl (dd rfl) ?_
            refine o_off rfl rfl rfl (dd rfl) ?_
            refine o_val (v_pick_f rfl rfl) (dd rfl) ?_
            refine o_val (v_assign rfl) (dd rfl) ?_
            refine o_nil ?_
            refine c_ret1 Tryz.func72 rfl rfl fun w O hS => ?_
            exact ⟨(), by rw [hR, decide_eq_false (p := a ≤ 1048576) (by omega)]; simp, trivial, trivial⟩
        · refine o_off rfl rfl rfl (dd rfl) ?_
          refine o_off rfl rfl rfl (dd rfl) ?_
          refine o_off rfl rfl rfl (dd rfl) ?_
          refine o_val (v_pick_f rfl rfl) (dd rfl) ?_
          refine o_val (v_move rfl) (dd rfl) ?_
          refine o_off rfl rfl rfl (dd rfl) ?_
          refine o_off rfl rfl rfl (dd rfl) ?_
          refine o_off rfl rfl rfl (dd rfl) ?_
          refine o_val (v_pick_f rfl rfl) (dd rfl) ?_
          refine o_val (v_move rfl) (dd rfl) ?_
          refine o_off rfl rfl rfl (dd rfl) ?_
          refine o_off rfl rfl rfl (dd rfl) ?_
          refine o_off rfl rfl rfl (dd rfl) ?_
          refine o_val (v_pick_f rfl rfl) (dd rfl) ?_
          refine o_val (v_move rfl) (dd rfl) ?_
          refine o_off rfl rfl rfl (dd rfl) ?_
          refine o_off rfl rfl rfl (dd rfl) ?_
          refine o_off rfl rfl rfl (dd rfl) ?_
          refine o_off rfl rfl rfl (dd rfl) ?_
          refine o_off rfl rfl rfl (dd rfl) ?_
          refine o_off rfl rfl rfl (dd rfl) ?_
          refine o_val (v_pick_f rfl rfl) (dd rfl) ?_
          refine o_val (v_assign rfl) (dd rfl) ?_
          refine o_nil ?_
          refine c_ret1 Tryz.func72 rfl rfl fun w O hS => ?_
          exact ⟨(), by rw [hR, decide_eq_false (p := 0 ≤ a) (by omega)]; simp, trivial, trivial⟩
      · refine o_off rfl rfl rfl (dd rfl) ?_
        refine o_off rfl rfl rfl (dd rfl) ?_
        refine o_off rfl rfl rfl (dd rfl) ?_
        refine o_val (v_pick_f rfl rfl) (dd rfl) ?_
        refine o_val (v_move rfl) (dd rfl) ?_
        refine o_off rfl rfl rfl (dd rfl) ?_
        refine o_off rfl rfl rfl (dd rfl) ?_
        refine o_off rfl rfl rfl (dd rfl) ?_
        refine o_val (v_pick_f rfl rfl) (dd rfl) ?_
        refine o_val (v_move rfl) (dd rfl) ?_
        refine o_off rfl rfl rfl (dd rfl) ?_
        refine o_off rfl rfl rfl (dd rfl) ?_
        refine o_off rfl rfl rfl (dd rfl) ?_
        refine o_val (v_pick_f rfl rfl) (dd rfl) ?_
        refine o_val (v_move rfl) (dd rfl) ?_
        refine o_off rfl rfl rfl (dd rfl) ?_
        refine o_off rfl rfl rfl (dd rfl) ?_
        refine o_off rfl rfl rfl (dd rfl) ?_
        refine o_val (v_pick_f rfl rfl) (dd rfl) ?_
        refine o_val (v_move rfl) (dd rfl) ?_
        refine o_off rfl rfl rfl (dd rfl) ?_
        refine o_off rfl rfl rfl (dd rfl) ?_
        refine o_off rfl rfl rfl (dd rfl) ?_
        refine o_off rfl rfl rfl (dd rfl) ?_
        refine o_off rfl rfl rfl (dd rfl) ?_
        refine o_off rfl rfl rfl (dd rfl) ?_
        refine o_val (v_pick_f rfl rfl) (dd rfl) ?_
        refine o_val (v_assign rfl) (dd rfl) ?_
        refine o_nil ?_
        refine c_ret1 Tryz.func72 rfl rfl fun w O hS => ?_
        exact ⟨(), by rw [hR, decide_eq_false (p := t.size = 0) (fun h => g1 (htn.2 h))]; simp, trivial, trivial⟩
    · refine c_seq ?_
      refine c_region ?_
      refine o_val (v_fieldAddrC 0 Tryz.underlying58 rfl ti3 (by decide) rfl) (dd rfl) ?_
      refine o_val (v_load lone3 rfl (hX (by repeat constructor)) rfl) (dd rfl) ?_
      refine o_val (v_eq rfl rfl) (dd rfl) ?_
      refine o_val (v_assign rfl) (dd rfl) ?_
      refine o_nil ?_
      refine c_cond_p rfl (fun h3 => ?_) (fun h3 => ?_)
      · have hR : rightP (k, n, t, a, o, w) = (decide (a = 0 ∧ o.length = 0 ∧ w.length = 0) && namedP t && decide (t ≠ n)) := by
          unfold rightP
          dsimp only
          rw [if_neg h0, if_pos h3, hn1, hB]
          simp only [Bool.true_and]
        refine c_seq ?_
        refine c_region ?_
        refine o_val (v_move rfl) (dd rfl) ?_
        refine o_val (v_move rfl) (dd rfl) ?_
        refine o_guard rfl rfl (fun g1 => ?_) (fun g1 => ?_)
        · refine o_val (v_fieldAddrC 2 Tryz.underlying58 rfl ti9 (by decide) rfl) (dd rfl) ?_
          refine o_on rfl rfl ?_
          refine o_val (v_load lone9 rfl (hX (by repeat constructor)) rfl) (dd rfl) ?_
          refine o_on rfl rfl ?_
          refine o_step (s_callf_keep cl93 (hT) rfl (dd rfl) (rX (by repeat constructor)) (fun _ => sX) (fun _ _ => ?_))
          refine o_val (v_pick_t rfl rfl) (dd rfl) ?_
          refine o_val (v_move rfl) (dd rfl) ?_
          refine o_guard rfl rfl (fun g2 => ?_) (fun g2 => ?_)
          · refine o_val (v_fieldAddrC 2 Tryz.underlying58 rfl ti9 (by decide) rfl) (dd rfl) ?_
            refine o_on rfl rfl ?_
            refine o_val (v_load lone9 rfl (hX (by repeat constructor)) rfl) (dd rfl) ?_
            refine o_on rfl rfl ?_
            refine o_val (v_fieldAddrC 1 Tryz.underlying58 rfl ti9 (by decide) rfl) (dd rfl) ?_
            refine o_on rfl rfl ?_
            refine o_val (v_load lone9 rfl (hX (by repeat constructor)) rfl) (dd rfl) ?_
            refine o_on rfl rfl ?_
            refine o_val (v_sne rfl rfl) (dd rfl) ?_
            refine o_val (v_pick_t rfl rfl) (dd rfl) ?_
            refine o_val (v_assign rfl) (dd rfl) ?_
            refine o_nil ?_
            refine c_ret1 Tryz.func72 rfl rfl fun w O hS => ?_
            exact ⟨(), by rw [hR, g1, g2]; rfl, trivial, trivial⟩
          · refine o_off rfl rfl rfl (dd rfl) ?_
            refine o_off rfl rfl rfl (dd rfl) ?_
            refine o_off rfl rfl rfl (dd rfl) ?_
            refine o_off rfl rfl rfl (dd rfl) ?_
            refine o_off rfl rfl rfl (dd rfl) ?_
            refine o_val (v_pick_f rfl rfl) (dd rfl) ?_
            refine o_val (v_assign rfl) (dd rfl) ?_
            refine o_nil ?_
            refine c_ret1 Tryz.func72 rfl rfl fun w O hS => ?_
            exact ⟨(), by rw [hR, g1, g2]; rfl, trivial, trivial⟩
        · refine o_off rfl rfl rfl (dd rfl) ?_
          refine o_off rfl rfl rfl (dd rfl) ?_
          refine o_off rfl rfl rfl (dd rfl) ?_
          refine o_val (v_pick_f rfl rfl) (dd rfl) ?_
          refine o_val (v_move rfl) (dd rfl) ?_
          refine o_off rfl rfl rfl (dd rfl) ?_
          refine o_off rfl rfl rfl (dd rfl) ?_
          refine o_off rfl rfl rfl (dd rfl) ?_
          refine o_off rfl rfl rfl (dd rfl) ?_
          refine o_off rfl rfl rfl (dd rfl) ?_
          refine o_val (v_pick_f rfl rfl) (dd rfl) ?_
          refine o_val (v_assign rfl) (dd rfl) ?_
          refine o_nil ?_
          refine c_ret1 Tryz.func72 rfl rfl fun w O hS => ?_
          exact ⟨(), by rw [hR, g1]; rfl, trivial, trivial⟩
      · have hR : rightP (k, n, t, a, o, w) = (decide (a = 0 ∧ o.length = 0 ∧ w.length = 0) && decide (t.size = 0) && (decide (k = 1) || decide (k = 2))) := by
          unfold rightP
          dsimp only
          rw [if_neg h0, if_neg h3, hn1, hB]
          simp only [Bool.true_and]
        refine c_skip ?_
        refine c_inBlock ?_
        refine c_seq ?_
        refine c_region ?_
        refine o_val (v_move rfl) (dd rfl) ?_
        refine o_val (v_move rfl) (dd rfl) ?_
        refine o_guard rfl rfl (fun g1 => ?_) (fun g1 => ?_)
        · refine o_val (v_fieldAddrC 2 Tryz.underlying58 rfl ti9 (by decide) rfl) (dd rfl) ?_
          refine o_on rfl rfl ?_
          refine o_val (v_load lone9 rfl (hX (by repeat constructor)) rfl) (dd rfl) ?_
          refine o_on rfl rfl ?_
          refine o_val (v_seq rfl rfl) (dd rfl) ?_
          refine o_val (v_pick_t rfl rfl) (dd rfl) ?_
          refine o_val (v_move rfl) (dd rfl) ?_
          refine o_guard_t rfl rfl (fun g2 => ?_) (fun g2 => ?_)
          · rw [decide_eq_true (p := t.size = 0) (htn.1 g2)] at hR
            refine o_val (v_fieldAddrC 0 Tryz.underlying58 rfl ti3 (by decide) rfl) (dd rfl) ?_
            refine o_on rfl rfl ?_
            refine o_val (v_load lone3 rfl (hX (by repeat constructor)) rfl) (dd rfl) ?_
            refine o_on rfl rfl ?_
            refine o_val (v_eq rfl rfl) (dd rfl) ?_
            refine o_on rfl rfl ?_
            refine o_val (v_move rfl) (dd rfl) ?_
            refine o_guard_f rfl rfl (fun g3 => ?_) (fun g3 => ?_)
            · refine o_val (v_fieldAddrC 0 Tryz.underlying58 rfl ti3 (by decide) rfl) (dd rfl) ?_
              refine o_on rfl rfl ?_
              refine o_val (v_load lone3 rfl (hX (by repeat constructor)) rfl) (dd rfl) ?_
              refine o_on rfl rfl ?_
              refine o_val (v_eq rfl rfl) (dd rfl) ?_
              refine o_on rfl rfl ?_
              refine o_val (v_pick_f rfl rfl) (dd rfl) ?_
              refine o_val (v_pick_t rfl rfl) (dd rfl) ?_
              refine o_val (v_assign rfl) (dd rfl) ?_
              refine o_nil ?_
              refine c_ret1 Tryz.func72 rfl rfl fun w O hS => ?_
              exact ⟨(), by rw [hR, g1, decide_eq_false (p := k = 1) (by omega)]; rfl, trivial, trivial⟩
            · refine o_off rfl rfl rfl (dd rfl) ?_
              refine o_off rfl rfl rfl (dd rfl) ?_
              refine o_off rfl rfl rfl (dd rfl) ?_
              refine o_on rfl rfl ?_
              refine o_val (v_pick_t rfl rfl) (dd rfl) ?_
              refine o_val (v_pick_t rfl rfl) (dd rfl) ?_
              refine o_val (v_assign rfl) (dd rfl) ?_
              refine o_nil ?_
              refine c_ret1 Tryz.func72 rfl rfl fun w O hS => ?_
              exact ⟨(), by rw [hR, g1, decide_eq_true (p := k = 1) (by omega)]; rfl, trivial, trivial⟩
          · refine o_off rfl rfl rfl (dd rfl) ?_
            refine o_off rfl rfl rfl (dd rfl) ?_
            refine o_off rfl rfl rfl (dd rfl) ?_
            refine o_off rfl rfl rfl (dd rfl) ?_
            refine o_offu rfl rfl (dd rfl) ?_
            refine o_offu rfl rfl (dd rfl) ?_
            refine o_offu rfl rfl (dd rfl) ?_
            refine o_off rfl rfl rfl (dd rfl) ?_
            refine o_val (v_pick_f rfl rfl) (dd rfl) ?_
            refine o_val (v_assign rfl) (dd rfl) ?_
            refine o_nil ?_
            refine c_ret1 Tryz.func72 rfl rfl fun w O hS => ?_
            exact ⟨(), by rw [hR, decide_eq_false (p := t.size = 0) (fun h => g2 (htn.2 h))]; simp, trivial, trivial⟩
        · refine o_off rfl rfl rfl (dd rfl) ?_
          refine o_off rfl rfl rfl (dd rfl) ?_
          refine o_off rfl rfl rfl (dd rfl) ?_
          refine o_val (v_pick_f rfl rfl) (dd rfl) ?_
          refine o_val (v_move rfl) (dd rfl) ?_
          refine o_off rfl rfl rfl (dd rfl) ?_
          refine o_off rfl rfl rfl (dd rfl) ?_
          refine o_off rfl rfl rfl (dd rfl) ?_
          refine o_off rfl rfl rfl (dd rfl) ?_
          refine o_offu rfl rfl (dd rfl) ?_
          refine o_offu rfl rfl (dd rfl) ?_
          refine o_offu rfl rfl (dd rfl) ?_
          refine o_off rfl rfl rfl (dd rfl) ?_
          refine o_val (v_pick_f rfl rfl) (dd rfl) ?_
          refine o_val (v_assign rfl) (dd rfl) ?_
          refine o_nil ?_
          refine c_ret1 Tryz.func72 rfl rfl fun w O hS => ?_
          exact ⟨(), by rw [hR, g1]; rfl, trivial, trivial⟩
end Go.Proofs.YtmgkeippepeggaaGreatDoor
/- Chapter 09: which rows of changes, and which patches, may be, as the program says it. -/
namespace Go.Proofs.YtmgkeippepeggaaGreatDoor
open Go Go.SL Go.Lib L01
attribute [local irreducible] Cfg Kont StepK Val Con Qops Any Sl Own Blk BlkR Rd Pu ExA AllA Has Pick Ent Elem Beside Callable TI Lone OwnO AndA
set_option maxRecDepth 100000 in
theorem not_right_con (p : Pr9) (ov wv : Value) (hp : SizeP p) : Con Tryz.prog 119 [.agg #[.int .i64 p.1, .string p.2.1, .string p.2.2.1, .int .i64 p.2.2.2.1, ov, wv]] [Sl eStr ov p.2.2.2.2.1, Sl eStr wv p.2.2.2.2.2] (γ := Unit) (fun _ => .bool (!rightP p)) (fun _ => True) (fun _ => []) := by
  have hR := right_prim_con p ov wv hp
  refine con_of Tryz.func119 rfl (dd rfl) fun w0 O0 => ?_
  refine c_seq ?_
  refine c_region ?_
  refine o_step (s_box rfl (dd rfl) (fun b1 => ?_))
  refine o_val (v_assign rfl) (dd rfl) ?_
  refine o_nil ?_
  refine c_seq ?_
  refine c_region ?_
  refine o_val (v_load_all ⟨_, Tryz.underlying58⟩ ti58 rfl (hX (by repeat constructor)) rfl) (dd rfl) ?_
  refine o_step (s_callf cl72 (hR) rfl (dd rfl) (pXs (by repeat constructor)) fun _ _ => ?_)
  refine o_val (v_not rfl) (dd rfl) ?_
  refine o_val (v_assign rfl) (dd rfl) ?_
  refine o_nil ?_
  refine c_ret1 Tryz.func119 rfl rfl fun w O hS => ?_
  exact ⟨(), rfl, trivial, trivial⟩
set_option maxRecDepth 100000 in
theorem index_prim_con (v : Value) (l : List Pr9) (hl : l.length ≤ 1000000 ∧ ∀ p ∈ l, SizeP p) : Con Tryz.prog 136 [v, .func (.func 119) #[] #[]] [Sl ePr v l] (γ := Int) (fun r => .int .i64 r) (fun r => 0 ≤ r ↔ l.all rightP = false) (fun _ => []) := by
  obtain ⟨hl1, hl2⟩ := hl
  refine con_of Tryz.func136 rfl (dd rfl) fun w0 O0 => ?_
  refine c_seq ?_
  refine c_region ?_
  refine o_val (v_assign rfl) (dd rfl) ?_
  refine o_nil ?_
  refine c_seq ?_
  refine c_seq ?_
  refine c_region ?_
  refine o_val (v_move rfl) (dd rfl) ?_
  refine o_val ((by first | exact v_len_form Tryz.underlying62 rfl | exact v_len_sl Tryz.underlying62 rfl (hX (by repeat constructor)))) (dd rfl) ?_
  refine o_val (v_move rfl) (dd rfl) ?_
  refine o_nil ?_
  refine c_block ?_
  refine c_loopR (γ := Nat) [(0, _), (1, _), (4, _), (7, _)] (fun k => l.length - k) (fun k => k ≤ l.length ∧ (l.take k).all rightP = true) (fun k => [(8, .int .i64 k)]) (fun _ => [Sl ePr v l]) (0) (⟨Nat.zero_le _, rfl⟩) (by repeat (first | exact trivial | refine ⟨rfl, ?_⟩)) (eX (by repeat constructor)) ?_
  rintro k ⟨hk, hc⟩ IH
  try dsimp only [List.cons_append, List.nil_append]
  refine c_seq ?_
  refine c_region ?_
  refine o_val (v_lt rfl rfl) (dd rfl) ?_
  refine o_nil ?_
  refine c_seq ?_
  refine c_cond_p rfl (fun hlt => ?_) (fun hlt => ?_)
  · have hk' : k < l.length := by omega
    have hR := fun ov wv => not_right_con l[k] ov wv (hl2 _ (List.getElem_mem hk'))
    refine c_skip ?_
    refine c_seq ?_
    refine c_block ?_
    refine c_seq ?_
    refine c_region ?_
    refine o_val (v_move rfl) (dd rfl) ?_
    refine o_val (v_assign rfl) (dd rfl) ?_
    refine o_nil ?_
    refine c_seq ?_
    refine c_region ?_
    refine o_val (v_move rfl) (dd rfl) ?_
    refine o_val (v_move rfl) (dd rfl) ?_
    refine o_val (v_move rfl) (dd rfl) ?_
    refine o_val ((by first | exact v_indexAddrN Tryz.underlying62 ti58 rfl rfl (hX (by repeat constructor)) (by omega) | exact v_indexAddr Tryz.underlying62 ti58 rfl rfl (hX (by repeat constructor)) (by omega))) (dd rfl) ?_
    refine o_step (s_load_shape ⟨_, Tryz.underlying58⟩ ti58 rfl (dd rfl) (by repeat (first|exact el1 (by omega)|exact el2 (by omega)|exact el3 (by omega)|apply Elem.there)) (pr_open) (fun g => ?_))
    refine o_step (s_call cl119 (hR g.1 g.2) (first := []) (cap := []) rfl rfl (by rfl) (dd rfl) (pXs (by repeat constructor)) fun _ _ => ?_)
    refine o_nil ?_
    refine c_cond rfl (fun hb => ?_) (fun hb => ?_)
    · have hr : rightP l[k] = false := by simpa using hb
      refine c_seq ?_
      refine c_region ?_
      refine o_val (v_move rfl) (dd rfl) ?_
      refine o_val (v_assign rfl) (dd rfl) ?_
      refine o_nil ?_
      refine c_ret1 Tryz.func136 rfl rfl fun w O hS => ?_
      exact ⟨k, rfl, ⟨fun _ => List.all_eq_false.2 ⟨_, List.getElem_mem hk', by rw [hr]; decide⟩, fun _ => by omega⟩, trivial⟩
    · have hr : rightP l[k] = true := by simpa using hb
      refine c_skip ?_
      refine c_inBlock ?_
      refine c_region ?_
      refine o_val ((by first | exact v_add64 rfl rfl (by omega) | exact v_add rfl rfl)) (dd rfl) ?_
      refine o_val (v_move rfl) (dd rfl) ?_
      refine o_nil ?_
      refine c_use (IH (k + 1) (by first | omega | (dsimp only; omega)) (⟨by omega, by rw [List.take_succ_eq_append_getElem hk', List.all_append, hc]; simp [hr]⟩)) (by repeat (first | exact trivial | refine ⟨rfl, ?_⟩)) (eX (by repeat constructor))
  · rw [List.take_of_length_le (by omega)] at hc
    refine c_exit rfl ?_
    refine c_seq ?_
    refine c_region ?_
    refine o_val (v_assign rfl) (dd rfl) ?_
    refine o_nil ?_
    refine c_ret1 Tryz.func136 rfl rfl fun w O hS => ?_
    exact ⟨-1, rfl, ⟨fun h => absurd h (by decide), fun h => by rw [hc] at h; cases h⟩, trivial⟩
set_option maxRecDepth 100000 in
theorem contains_prim_con (v : Value) (l : List Pr9) (hl : l.length ≤ 1000000 ∧ ∀ p ∈ l, SizeP p) : Con Tryz.prog 118 [v, .func (.func 119) #[] #[]] [Sl ePr v l] (γ := Unit) (fun _ => .bool (!l.all rightP)) (fun _ => True) (fun _ => []) := by
  have hI := index_prim_con v l hl
  refine con_of Tryz.func118 rfl (dd rfl) fun w0 O0 => ?_
  refine c_seq ?_
  refine c_region ?_
  refine o_val (v_assign rfl) (dd rfl) ?_
  refine o_nil ?_
  refine c_seq ?_
  refine c_region ?_
  refine o_val (v_move rfl) (dd rfl) ?_
  refine o_val (v_move rfl) (dd rfl) ?_
  refine o_step (s_callf cl136 (hI) rfl (dd rfl) (pXs (by repeat constructor)) fun r hr => ?_)
  refine o_val (v_ge rfl rfl) (dd rfl) ?_
  refine o_val (v_assign rfl) (dd rfl) ?_
  refine o_nil ?_
  refine c_ret1 Tryz.func118 rfl rfl fun w O hS => ?_
  refine ⟨(), congrArg Value.bool ?_, trivial, trivial⟩
  rw [Bool.eq_iff_iff, decide_eq_true_eq, Bool.not_eq_true', ← hr]
set_option maxRecDepth 100000 in
theorem rights_con (v : Value) (l : List Pr9) (hl : l.length ≤ 1000000 ∧ ∀ p ∈ l, SizeP p) : Con Tryz.prog 102 [v] [Sl ePr v l] (γ := Unit) (fun _ => .bool (l.all rightP)) (fun _ => True) (fun _ => []) := by
  have hI := contains_prim_con v l hl
  refine con_of Tryz.func102 rfl (dd rfl) fun w0 O0 => ?_
  refine c_seq ?_
  refine c_region ?_
  refine o_val (v_assign rfl) (dd rfl) ?_
  refine o_nil ?_
  refine c_seq ?_
  refine c_region ?_
  refine o_val (v_move rfl) (dd rfl) ?_
  refine o_step (s_callf cl118 (hI) rfl (dd rfl) (pXs (by repeat constructor)) fun _ _ => ?_)
  refine o_val (v_not rfl) (dd rfl) ?_
  refine o_val (v_assign rfl) (dd rfl) ?_
  refine o_nil ?_
  refine c_ret1 Tryz.func102 rfl rfl fun w O hS => ?_
  exact ⟨(), by rw [Bool.not_not], trivial, trivial⟩
set_option maxRecDepth 100000 in
theorem wrong_con (n last : Int) (bl bp : Nat) (p : Int) (c1 c2 c3 : Value) : Con Tryz.prog 99 [.int .i64 n, .pointer (some ⟨bl, 0, none⟩), .pointer (some ⟨bp, 0, none⟩)] [Blk bl 3 [.int .i64 last], BlkR bp 67 [.int .i64 p, c1, c2, c3]] (γ := Unit) (fun _ => .bool (decide (n ≤ last ∨ 1000000000 < n ∨ n = p))) (fun _ => True) (fun _ => [Blk bl 3 [.int .i64 n]]) := by
  refine con_of Tryz.func99 rfl (dd rfl) fun w0 O0 => ?_
  refine c_seq ?_
  refine c_region ?_
  refine o_val (v_assign rfl) (dd rfl) ?_
  refine o_nil ?_
  refine c_seq ?_
  refine c_region ?_
  refine o_val (v_move rfl) (dd rfl) ?_
  refine o_val (v_load lone3 rfl (hX (by repeat constructor)) rfl) (dd rfl) ?_
  refine o_val (v_le rfl rfl) (dd rfl) ?_
  refine o_val (v_assign rfl) (dd rfl) ?_
  refine o_nil ?_
  refine c_seq ?_
  refine c_region ?_
  refine o_val (v_move rfl) (dd rfl) ?_
  refine o_step (s_store1 ti3 rfl rfl (by first | exact OneC.lit rfl | exact OneC.sl (hX (by repeat constructor)) ) (pB (by repeat constructor)) (by first | decide | exact Nat.le_of_ble_eq_true rfl | simp) (by first | (dsimp only [List.set_cons_succ, List.set_cons_zero]; first | done | exact rfl) | rfl) (?_))
  refine o_nil ?_
  refine c_seq ?_
  refine c_env (env' := [(0, _), (2, _), (5, _)]) (by repeat (first | exact trivial | refine ⟨rfl, ?_⟩)) ?_
  refine c_joinb (d := 4) (decide (n ≤ last ∨ 1000000000 < n ∨ n = p)) ?_ ?_
  rotate_left
  · intro J
    refine c_region ?_
    refine o_val (v_move rfl) (dd rfl) ?_
    refine o_val (v_move rfl) (dd rfl) ?_
    first | refine o_guard_f rfl rfl (fun g11 => ?_) (fun g11 => ?_) | refine o_guard rfl rfl (fun g11 => ?_) (fun g11 => ?_)
    · refine o_val (v_move rfl) (dd rfl) ?_
      refine o_on rfl rfl ?_
      refine o_val (v_gt rfl rfl) (dd rfl) ?_
      refine o_val (v_pick_f rfl rfl) (dd rfl) ?_
      refine o_val (v_move rfl) (dd rfl) ?_
      first | refine o_guard_f rfl rfl (fun g15 => ?_) (fun g15 => ?_) | refine o_guard rfl rfl (fun g15 => ?_) (fun g15 => ?_)
      · refine o_val (v_move rfl) (dd rfl) ?_
        refine o_on rfl rfl ?_
        refine o_val (v_fieldAddrC 0 Tryz.underlying67 rfl ti3 (by decide) rfl) (dd rfl) ?_
        refine o_on rfl rfl ?_
        refine o_val (v_load lone3 rfl (hX (by repeat constructor)) rfl) (dd rfl) ?_
        refine o_on rfl rfl ?_
        refine o_val (v_eq rfl rfl) (dd rfl) ?_
        refine o_val (v_pick_f rfl rfl) (dd rfl) ?_
        refine o_val (v_assign rfl) (dd rfl) ?_
        refine o_nil ?_
        exact c_use J ⟨Env.as rfl (congrArg Value.bool (by first | rfl | (simp_all; done) | (simp_all; omega) | exact decide_eq_decide.2 (by omega) | exact (decide_eq_true (by omega)).symm)), (by repeat (first | exact trivial | refine ⟨rfl, ?_⟩))⟩ (by first | exact Ent.refl _ | exact eX (by repeat constructor))
      · refine o_off rfl rfl rfl (dd rfl) ?_
        refine o_off rfl rfl rfl (dd rfl) ?_
        refine o_off rfl rfl rfl (dd rfl) ?_
        refine o_off rfl rfl rfl (dd rfl) ?_
        refine o_val (v_pick_t rfl rfl) (dd rfl) ?_
        refine o_val (v_assign rfl) (dd rfl) ?_
        refine o_nil ?_
        exact c_use J ⟨Env.as rfl (congrArg Value.bool (by first | rfl | (simp_all; done) | (simp_all; omega) | exact decide_eq_decide.2 (by omega) | exact (decide_eq_true (by omega)).symm)), (by repeat (first | exact trivial | refine ⟨rfl, ?_⟩))⟩ (by first | exact Ent.refl _ | exact eX (by repeat constructor))
    · refine o_off rfl rfl rfl (dd rfl) ?_
      refine o_off rfl rfl rfl (dd rfl) ?_
      refine o_val (v_pick_t rfl rfl) (dd rfl) ?_
      refine o_val (v_move rfl) (dd rfl) ?_
      refine o_off rfl rfl rfl (dd rfl) ?_
      refine o_off rfl rfl rfl (dd rfl) ?_
      refine o_off rfl rfl rfl (dd rfl) ?_
      refine o_off rfl rfl rfl (dd rfl) ?_
      refine o_val (v_pick_t rfl rfl) (dd rfl) ?_
      refine o_val (v_assign rfl) (dd rfl) ?_
      refine o_nil ?_
      exact c_use J ⟨Env.as rfl (congrArg Value.bool (by first | rfl | (simp_all; done) | (simp_all; omega) | exact decide_eq_decide.2 (by omega) | exact (decide_eq_true (by omega)).symm)), (by repeat (first | exact trivial | refine ⟨rfl, ?_⟩))⟩ (by first | exact Ent.refl _ | exact eX (by repeat constructor))
  refine c_ret1 Tryz.func99 rfl rfl fun w O hS => ?_
  exact ⟨(), rfl, trivial, Ent.get hS (eX (by repeat constructor))⟩
set_option maxRecDepth 100000 in
theorem index_deps_con (v : Value) (d : List Int) (bl bp : Nat) (p : Int) (c1 c2 c3 : Value) (hd : d.length ≤ 1000000) : Con Tryz.prog 117 [v, .func (.func 99) #[] #[.pointer (some ⟨bl, 0, none⟩), .pointer (some ⟨bp, 0, none⟩)]] [Sl (eInt .i64) v d, Blk bl 3 [.int .i64 0], BlkR bp 67 [.int .i64 p, c1, c2, c3]] (γ := Int) (fun r => .int .i64 r) (fun r => 0 ≤ r ↔ depsP p 0 d = false) (fun _ => []) := by
  have hdp := depsP_iff p d 0
  refine con_of Tryz.func117 rfl (dd rfl) fun w0 O0 => ?_
  refine c_seq ?_
  refine c_region ?_
  refine o_val (v_assign rfl) (dd rfl) ?_
  refine o_nil ?_
  refine c_seq ?_
  refine c_seq ?_
  refine c_region ?_
  refine o_val (v_move rfl) (dd rfl) ?_
  refine o_val ((by first | exact v_len_form Tryz.underlying32 rfl | exact v_len_sl Tryz.underlying32 rfl (hX (by repeat constructor)))) (dd rfl) ?_
  refine o_val (v_move rfl) (dd rfl) ?_
  refine o_nil ?_
  refine c_block ?_
  refine c_loopR (γ := Nat × Int) [(0, _), (1, _), (4, _), (7, _)] (fun k => d.length - k.1) (fun k => k.1 ≤ d.length ∧ k.2 = (if k.1 = 0 then 0 else d.getD (k.1 - 1) 0) ∧ ∀ j (h : j < d.length), j < k.1 → (if j = 0 then 0 else d[j - 1]) < d[j] ∧ d[j] ≤ 1000000000 ∧ d[j] ≠ p) (fun k => [(8, .int .i64 k.1)]) (fun k => [Sl (eInt .i64) v d, Blk bl 3 [.int .i64 k.2], BlkR bp 67 [.int .i64 p, c1, c2, c3]]) ((0, 0)) (⟨Nat.zero_le _, rfl, fun _ _ h => absurd h (Nat.not_lt_zero _)⟩) (by repeat (first | exact trivial | refine ⟨rfl, ?_⟩)) (eX (by repeat constructor)) ?_
  rintro ⟨k, last⟩ ⟨hk, hlast, hc⟩ IH
  dsimp only at hk hlast hc ⊢
  try dsimp only [List.cons_append, List.nil_append]
  refine c_seq ?_
  refine c_region ?_
  refine o_val (v_lt rfl rfl) (dd rfl) ?_
  refine o_nil ?_
  refine c_seq ?_
  refine c_cond_p rfl (fun hlt => ?_) (fun hlt => ?_)
  · have hk' : k < d.length := by omega
    have hlast' : last = if k = 0 then 0 else d[k - 1] := by
      rw [hlast]
      split
      · rfl
      · rw [List.getD_eq_getElem?_getD, List.getElem?_eq_getElem (by omega)]; rfl
    have hW := wrong_con d[k] last bl bp p c1 c2 c3
    refine c_skip ?_
    refine c_seq ?_
    refine c_block ?_
    refine c_seq ?_
    refine c_region ?_
    refine o_val (v_move rfl) (dd rfl) ?_
    refine o_val (v_assign rfl) (dd rfl) ?_
    refine o_nil ?_
    refine c_seq ?_
    refine c_region ?_
    refine o_val (v_move rfl) (dd rfl) ?_
    refine o_val (v_move rfl) (dd rfl) ?_
    refine o_val (v_move rfl) (dd rfl) ?_
    refine o_val ((by first | exact v_indexAddrN Tryz.underlying32 ti3 rfl rfl (hX (by repeat constructor)) (by omega) | exact v_indexAddr Tryz.underlying32 ti3 rfl rfl (hX (by repeat constructor)) (by omega))) (dd rfl) ?_
    refine o_val (v_load_int lone3 rfl (by repeat (first | exact Elem.sl (List.getElem?_eq_getElem (by omega)) | exact Elem.own (List.getElem?_eq_getElem (by omega)) | exact Elem.ownO (List.getElem?_eq_getElem (by omega)) | apply Elem.there))) (dd rfl) ?_
    refine o_step (s_call cl99 (hW) (first := []) (cap := [.pointer (some ⟨bl, 0, none⟩), .pointer (some ⟨bp, 0, none⟩)]) rfl rfl (by rfl) (dd rfl) (pXs (by repeat constructor)) fun _ _ => ?_)
    refine o_nil ?_
    refine c_cond_p rfl (fun hb => ?_) (fun hb => ?_)
    · refine c_seq ?_
      refine c_region ?_
      refine o_val (v_move rfl) (dd rfl) ?_
      refine o_val (v_assign rfl) (dd rfl) ?_
      refine o_nil ?_
      refine c_ret1 Tryz.func117 rfl rfl fun w O hS => ?_
      refine ⟨k, rfl, ⟨fun _ => Bool.eq_false_iff.2 fun h => ?_, fun _ => by omega⟩, trivial⟩
      have := hdp.1 h k hk'
      rw [← hlast'] at this
      omega
    · refine c_skip ?_
      refine c_inBlock ?_
      refine c_region ?_
      refine o_val ((by first | exact v_add64 rfl rfl (by omega) | exact v_add rfl rfl)) (dd rfl) ?_
      refine o_val (v_move rfl) (dd rfl) ?_
      refine o_nil ?_
      refine c_use (IH ((k + 1, d[k])) (by first | omega | (dsimp only; omega)) (⟨by dsimp only; omega, by dsimp only; rw [if_neg (by omega), Nat.add_sub_cancel, List.getD_eq_getElem?_getD, List.getElem?_eq_getElem hk']; rfl, fun j h h1 => (Nat.lt_succ_iff_lt_or_eq.1 h1).elim (hc j h) fun q => by subst q; rw [← hlast']; omega⟩)) (by repeat (first | exact trivial | refine ⟨rfl, ?_⟩)) (eX (by repeat constructor))
  · refine c_exit rfl ?_
    refine c_seq ?_
    refine c_region ?_
    refine o_val (v_assign rfl) (dd rfl) ?_
    refine o_nil ?_
    refine c_ret1 Tryz.func117 rfl rfl fun w O hS => ?_
    exact ⟨-1, rfl, ⟨fun h => absurd h (by decide), fun h => by rw [hdp.2 fun j hj => hc j hj (by omega)] at h; cases h⟩, trivial⟩
set_option maxRecDepth 100000 in
theorem contains_deps_con (v : Value) (d : List Int) (bl bp : Nat) (p : Int) (c1 c2 c3 : Value) (hd : d.length ≤ 1000000) : Con Tryz.prog 101 [v, .func (.func 99) #[] #[.pointer (some ⟨bl, 0, none⟩), .pointer (some ⟨bp, 0, none⟩)]] [Sl (eInt .i64) v d, Blk bl 3 [.int .i64 0], BlkR bp 67 [.int .i64 p, c1, c2, c3]] (γ := Unit) (fun _ => .bool (!depsP p 0 d)) (fun _ => True) (fun _ => []) := by
  have hI := index_deps_con v d bl bp p c1 c2 c3 hd
  refine con_of Tryz.func101 rfl (dd rfl) fun w0 O0 => ?_
  refine c_seq ?_
  refine c_region ?_
  refine o_val (v_assign rfl) (dd rfl) ?_
  refine o_nil ?_
  refine c_seq ?_
  refine c_region ?_
  refine o_val (v_move rfl) (dd rfl) ?_
  refine o_val (v_move rfl) (dd rfl) ?_
  refine o_step (s_callf cl117 (hI) rfl (dd rfl) (pXs (by repeat constructor)) fun r hr => ?_)
  refine o_val (v_ge rfl rfl) (dd rfl) ?_
  refine o_val (v_assign rfl) (dd rfl) ?_
  refine o_nil ?_
  refine c_ret1 Tryz.func101 rfl rfl fun w O hS => ?_
  refine ⟨(), congrArg Value.bool ?_, trivial, trivial⟩
  rw [Bool.eq_iff_iff, decide_eq_true_eq, Bool.not_eq_true', ← hr]
set_option maxRecDepth 100000 in
theorem rightT_con (p : Pt9) (dv lv : Value) (hp : SizeT p) : Con Tryz.prog 76 [.agg #[.int .i64 p.1, .string p.2.1, dv, lv]] [Sl (eInt .i64) dv p.2.2.1, Sl ePr lv p.2.2.2] (γ := Unit) (fun _ => .bool (rightT p)) (fun _ => True) (fun _ => []) := by
  obtain ⟨id, n, d, l⟩ := p
  obtain ⟨hn, hd, hl, hle⟩ := hp
  dsimp only at hn hd hl hle ⊢
  have hN := right_con n
  rw [right_line] at hN
  have hL := rights_con lv l ⟨hl, hle⟩
  have hD := fun bl bp => contains_deps_con dv d bl bp id (.string n) dv lv hd
  refine con_of Tryz.func76 rfl (dd rfl) fun w0 O0 => ?_
  refine c_seq ?_
  refine c_region ?_
  refine o_step (s_box rfl (dd rfl) (fun b1 => ?_))
  refine o_val (v_assign rfl) (dd rfl) ?_
  refine o_nil ?_
  refine c_seq ?_
  refine c_region ?_
  refine o_step (s_alloc ti3 (dd rfl) (fun b3 => ?_))
  refine o_step (s_store1 ti3 rfl rfl (by first | exact OneC.lit rfl | exact OneC.sl (hX (by repeat constructor)) ) (pB (by repeat constructor)) (by first | decide | exact Nat.le_of_ble_eq_true rfl | simp) (by first | (dsimp only [List.set_cons_succ, List.set_cons_zero]; first | done | exact rfl) | rfl) (?_))
  refine o_nil ?_
  refine c_seq ?_
  refine c_region ?_
  refine o_val (v_makeFunc rfl rfl) (dd rfl) ?_
  refine o_val (v_assign rfl) (dd rfl) ?_
  refine o_nil ?_
  refine c_seq ?_
  refine c_block ?_
  refine c_seq ?_
  refine c_env (env' := [(1, _), (2, _), (4, _)]) (by repeat (first | exact trivial | refine ⟨rfl, ?_⟩)) ?_
  refine c_joinb (d := 6) (decide (id < 1 ∨ 1000000000 < id ∨ ¬ lineP n = true)) ?_ ?_
  rotate_left
  · intro J
    refine c_region ?_
    refine o_val (v_fieldAddrC 0 Tryz.underlying67 rfl ti3 (by decide) rfl) (dd rfl) ?_
    refine o_val (v_load lone3 rfl (hX (by repeat constructor)) rfl) (dd rfl) ?_
    refine o_val (v_lt rfl rfl) (dd rfl) ?_
    refine o_val (v_move rfl) (dd rfl) ?_
    first | refine o_guard_f rfl rfl (fun g10 => ?_) (fun g10 => ?_) | refine o_guard rfl rfl (fun g10 => ?_) (fun g10 => ?_)
    · refine o_val (v_fieldAddrC 0 Tryz.underlying67 rfl ti3 (by decide) rfl) (dd rfl) ?_
      refine o_on rfl rfl ?_
      refine o_val (v_load lone3 rfl (hX (by repeat constructor)) rfl) (dd rfl) ?_
      refine o_on rfl rfl ?_
      refine o_val (v_gt rfl rfl) (dd rfl) ?_
      refine o_val (v_pick_f rfl rfl) (dd rfl) ?_
      refine o_val (v_move rfl) (dd rfl) ?_
      first | refine o_guard_f rfl rfl (fun g15 => ?_) (fun g15 => ?_) | refine o_guard rfl rfl (fun g15 => ?_) (fun g15 => ?_)
      · refine o_val (v_fieldAddrC 1 Tryz.underlying67 rfl ti9 (by decide) rfl) (dd rfl) ?_
        refine o_on rfl rfl ?_
        refine o_val (v_load lone9 rfl (hX (by repeat constructor)) rfl) (dd rfl) ?_
        refine o_on rfl rfl ?_
        refine o_step (s_callf_keep cl100 (hN) rfl (dd rfl) (rX (by repeat constructor)) (fun _ => sX) (fun _ _ => ?_))
        refine o_on rfl rfl ?_
        refine o_val (v_not rfl) (dd rfl) ?_
        refine o_val (v_pick_f rfl rfl) (dd rfl) ?_
        refine o_val (v_assign rfl) (dd rfl) ?_
        refine o_nil ?_
        exact c_use J ⟨Env.as rfl (congrArg Value.bool (by first | rfl | (simp_all; done) | (simp_all; omega) | exact (decide_eq_true (by omega)).symm | exact decide_eq_decide.2 ⟨fun h => by first | omega | (simp_all; done), fun h => by first | omega | (simp_all; done)⟩ | (generalize lineP n = z; cases z <;> simp <;> omega))), (by repeat (first | exact trivial | refine ⟨rfl, ?_⟩))⟩ (by first | exact Ent.refl _ | exact eX (by repeat constructor))
      · refine o_off rfl rfl rfl (dd rfl) ?_
        refine o_off rfl rfl rfl (dd rfl) ?_
        refine o_off rfl rfl rfl (dd rfl) ?_
        refine o_off rfl rfl rfl (dd rfl) ?_
        refine o_val (v_pick_t rfl rfl) (dd rfl) ?_
        refine o_val (v_assign rfl) (dd rfl) ?_
        refine o_nil ?_
        exact c_use J ⟨Env.as rfl (congrArg Value.bool (by first | rfl | (simp_all; done) | (simp_all; omega) | exact (decide_eq_true (by omega)).symm | exact decide_eq_decide.2 ⟨fun h => by first | omega | (simp_all; done), fun h => by first | omega | (simp_all; done)⟩ | (generalize lineP n = z; cases z <;> simp <;> omega))), (by repeat (first | exact trivial | refine ⟨rfl, ?_⟩))⟩ (by first | exact Ent.refl _ | exact eX (by repeat constructor))
    · refine o_off rfl rfl rfl (dd rfl) ?_
      refine o_off rfl rfl rfl (dd rfl) ?_
      refine o_off rfl rfl rfl (dd rfl) ?_
      refine o_val (v_pick_t rfl rfl) (dd rfl) ?_
      refine o_val (v_move rfl) (dd rfl) ?_
      refine o_off rfl rfl rfl (dd rfl) ?_
      refine o_off rfl rfl rfl (dd rfl) ?_
      refine o_off rfl rfl rfl (dd rfl) ?_
      refine o_off rfl rfl rfl (dd rfl) ?_
      refine o_val (v_pick_t rfl rfl) (dd rfl) ?_
      refine o_val (v_assign rfl) (dd rfl) ?_
      refine o_nil ?_
      exact c_use J ⟨Env.as rfl (congrArg Value.bool (by first | rfl | (simp_all; done) | (simp_all; omega) | exact (decide_eq_true (by omega)).symm | exact decide_eq_decide.2 ⟨fun h => by first | omega | (simp_all; done), fun h => by first | omega | (simp_all; done)⟩ | (generalize lineP n = z; cases z <;> simp <;> omega))), (by repeat (first | exact trivial | refine ⟨rfl, ?_⟩))⟩ (by first | exact Ent.refl _ | exact eX (by repeat constructor))
  refine c_cond_p rfl (fun h1 => ?_) (fun h1 => ?_)
  · have hR : rightT (id, n, d, l) = false := by
      rw [Bool.eq_false_iff]
      intro k
      unfold rightT at k
      simp only [Bool.and_eq_true, decide_eq_true_eq] at k
      obtain ⟨⟨⟨⟨⟨⟨⟨k1, k2⟩, k3⟩, k4⟩, _⟩, k5⟩, k6⟩, _⟩ := k
      rcases h1 with h | h | h
      · omega
      · omega
      · exact h k3
    refine c_seq ?_
    refine c_region ?_
    refine o_val (v_assign rfl) (dd rfl) ?_
    refine o_nil ?_
    refine c_ret1 Tryz.func76 rfl rfl fun w O hS => ?_
    exact ⟨(), by rw [hR], trivial, trivial⟩
  · have hln : lineP n = true := Classical.not_not.1 fun h => h1 (.inr (.inr h))
    have hR : rightT (id, n, d, l) = (decide (d.length ≤ 8) && depsP id 0 d && decide (1 ≤ l.length) && decide (l.length ≤ 24) && l.all rightP) := by
      unfold rightT
      dsimp only
      rw [decide_eq_true (p := 1 ≤ id) (by omega), decide_eq_true (p := id ≤ 1000000000) (by omega), hln]
      simp only [Bool.true_and]
    refine c_seq ?_
    refine c_region ?_
    refine o_val (v_fieldAddrC 2 Tryz.underlying67 rfl ti32 (by decide) rfl) (dd rfl) ?_
    refine o_val (v_load lone32 rfl (hX (by repeat constructor)) rfl) (dd rfl) ?_
    refine o_val ((by first | exact v_len_form Tryz.underlying32 rfl | exact v_len_sl Tryz.underlying32 rfl (hX (by repeat constructor)))) (dd rfl) ?_
    refine o_val (v_gt rfl rfl) (dd rfl) ?_
    refine o_val (v_move rfl) (dd rfl) ?_
    refine o_guard_f rfl rfl (fun g1 => ?_) (fun g1 => ?_)
    · rw [decide_eq_true (p := d.length ≤ 8) (by omega), Bool.true_and] at hR
      refine o_val (v_fieldAddrC 2 Tryz.underlying67 rfl ti32 (by decide) rfl) (dd rfl) ?_
      refine o_on rfl rfl ?_
      refine o_val (v_load lone32 rfl (hX (by repeat constructor)) rfl) (dd rfl) ?_
      refine o_on rfl rfl ?_
      refine o_val (v_move rfl) (dd rfl) ?_
      refine o_on rfl rfl ?_
      refine o_step (s_callf_mix 2 cl101 (hD b3 b1) rfl (dd rfl) (pXs (by repeat constructor)) (rX (by repeat constructor)) (fun _ => sX) (fun _ _ => ?_))
      refine o_val (v_pick_f rfl rfl) (dd rfl) ?_
      refine o_val (v_assign rfl) (dd rfl) ?_
      refine o_nil ?_
      refine c_cond rfl (fun g2 => ?_) (fun g2 => ?_)
      · have hdn : depsP id 0 d = false := by simpa using g2
        refine c_seq ?_
        refine c_region ?_
        refine o_val (v_assign rfl) (dd rfl) ?_
        refine o_nil ?_
        refine c_ret1 Tryz.func76 rfl rfl fun w O hS => ?_
        exact ⟨(), by rw [hR, hdn]; rfl, trivial, trivial⟩
      · have hdy : depsP id 0 d = true := by simpa using g2
        rw [hdy, Bool.true_and] at hR
        refine c_skip ?_
        refine c_inBlock ?_
        refine c_seq ?_
        refine c_region ?_
        refine o_val (v_fieldAddrC 3 Tryz.underlying67 rfl ti62 (by decide) rfl) (dd rfl) ?_
        refine o_val (v_load lone62 rfl (hX (by repeat constructor)) rfl) (dd rfl) ?_
        refine o_val ((by first | exact v_len_form Tryz.underlying62 rfl | exact v_len_sl Tryz.underlying62 rfl (hX (by repeat constructor)))) (dd rfl) ?_
        refine o_val (v_ge rfl rfl) (dd rfl) ?_
        refine o_val (v_move rfl) (dd rfl) ?_
        refine o_guard_t rfl rfl (fun g3 => ?_) (fun g3 => ?_)
        · rw [decide_eq_true (p := 1 ≤ l.length) (by omega), Bool.true_and] at hR
          refine o_val (v_fieldAddrC 3 Tryz.underlying67 rfl ti62 (by decide) rfl) (dd rfl) ?_
          refine o_on rfl rfl ?_
          refine o_val (v_load lone62 rfl (hX (by repeat constructor)) rfl) (dd rfl) ?_
          refine o_on rfl rfl ?_
          refine o_val ((by first | exact v_len_form Tryz.underlying62 rfl | exact v_len_sl Tryz.underlying62 rfl (hX (by repeat constructor)))) (dd rfl) ?_
          refine o_on rfl rfl ?_
          refine o_val (v_le rfl rfl) (dd rfl) ?_
          refine o_val (v_pick_t rfl rfl) (dd rfl) ?_
          refine o_val (v_move rfl) (dd rfl) ?_
          refine o_guard_t rfl rfl (fun g4 => ?_) (fun g4 => ?_)
          · rw [decide_eq_true (p := l.length ≤ 24) (by omega), Bool.true_and] at hR
            refine o_val (v_fieldAddrC 3 Tryz.underlying67 rfl ti62 (by decide) rfl) (dd rfl) ?_
            refine o_on rfl rfl ?_
            refine o_val (v_load lone62 rfl (hX (by repeat constructor)) rfl) (dd rfl) ?_
            refine o_on rfl rfl ?_
            refine o_step (s_callf cl102 (hL) rfl (dd rfl) (pXs (by repeat constructor)) fun _ _ => ?_)
            refine o_val (v_pick_t rfl rfl) (dd rfl) ?_
            refine o_val (v_assign rfl) (dd rfl) ?_
            refine o_nil ?_
            refine c_ret1 Tryz.func76 rfl rfl fun w O hS => ?_
            exact ⟨(), by rw [hR], trivial, trivial⟩
          · refine o_off rfl rfl rfl (dd rfl) ?_
            refine o_off rfl rfl rfl (dd rfl) ?_
            refine o_off rfl rfl rfl (dd rfl) ?_
            refine o_val (v_pick_f rfl rfl) (dd rfl) ?_
            refine o_val (v_assign rfl) (dd rfl) ?_
            refine o_nil ?_
            refine c_ret1 Tryz.func76 rfl rfl fun w O hS => ?_
            exact ⟨(), by rw [hR, decide_eq_false (p := l.length ≤ 24) (by omega)]; simp, trivial, trivial⟩
        · refine o_off rfl rfl rfl (dd rfl) ?_
          refine o_off rfl rfl rfl (dd rfl) ?_
          refine o_off rfl rfl rfl (dd rfl) ?_
          refine o_off rfl rfl rfl (dd rfl) ?_
          refine o_val (v_pick_f rfl rfl) (dd rfl) ?_
          refine o_val (v_move rfl) (dd rfl) ?_
          refine o_off rfl rfl rfl (dd rfl) ?_
          refine o_off rfl rfl rfl (dd rfl) ?_
          refine o_off rfl rfl rfl (dd rfl) ?_
          refine o_val (v_pick_f rfl rfl) (dd rfl) ?_
          refine o_val (v_assign rfl) (dd rfl) ?_
          refine o_nil ?_
          refine c_ret1 Tryz.func76 rfl rfl fun w O hS => ?_
          exact ⟨(), by rw [hR, decide_eq_false (p := 1 ≤ l.length) (by omega)]; simp, trivial, trivial⟩
    · refine o_off rfl rfl rfl (dd rfl) ?_
      refine o_off rfl rfl rfl (dd rfl) ?_
      refine o_off rfl rfl rfl (dd rfl) ?_
      refine o_off rfl rfl rfl (dd rfl) ?_
      refine o_val (v_pick_t rfl rfl) (dd rfl) ?_
      refine o_val (v_assign rfl) (dd rfl) ?_
      refine o_nil ?_
      refine c_cond_t rfl ?_
      refine c_seq ?_
      refine c_region ?_
      refine o_val (v_assign rfl) (dd rfl) ?_
      refine o_nil ?_
      refine c_ret1 Tryz.func76 rfl rfl fun w O hS => ?_
      exact ⟨(), by rw [hR, decide_eq_false (p := d.length ≤ 8) (by omega)]; simp, trivial, trivial⟩
end Go.Proofs.YtmgkeippepeggaaGreatDoor
/- Chapter 09: the program's reader: a change. -/
namespace Go.Proofs.YtmgkeippepeggaaGreatDoor
open Go Go.SL Go.Lib
attribute [local irreducible] Cfg Kont StepK Val Con Qops Any Sl Own Blk BlkR Rd Pu ExA AllA Has Pick Ent Elem Beside Callable TI Lone OwnO AndA
set_option maxRecDepth 100000 in
theorem inRaw_con (i : Nat) (bv : Value) (s : St9) (te : TypeId) (pe : Value) : Con Tryz.prog 71 [ptr i] [Blk i 92 [bv, .bool s.2], Sl eByte bv s.1, G1 te pe, G3] (γ := Value × Value × Value)
    (fun g => .agg #[.int .i64 (rawPrim s).2.1, .string (rawPrim s).2.2.1, .string (rawPrim s).2.2.2.1, .int .i64 (rawPrim s).2.2.2.2.1, g.2.1, g.2.2]) (fun _ => True)
    (fun g => [Blk i 92 [g.1, .bool (rawPrim s).1.2], Sl eByte g.1 (rawPrim s).1.1, Sl eStr g.2.1 (rawPrim s).2.2.2.2.2.1, Sl eStr g.2.2 (rawPrim s).2.2.2.2.2.2]) := by
  have c1 := inNum_con i bv s te pe
  obtain ⟨s1, k, h1⟩ : ∃ s1 k, takeNum s = (s1, k) := ⟨_, _, rfl⟩
  rw [h1] at c1
  have c2 := fun v => inText_con i v s1 24 te pe
  obtain ⟨s2, n, h2⟩ : ∃ s2 n, takeText 24 s1 = (s2, n) := ⟨_, _, rfl⟩
  rw [h2] at c2
  have c3 := fun v => inText_con i v s2 24 te pe
  obtain ⟨s3, t, h3⟩ : ∃ s3 t, takeText 24 s2 = (s3, t) := ⟨_, _, rfl⟩
  rw [h3] at c3
  have c4 := fun v => inNum_con i v s3 te pe
  obtain ⟨s4, a, h4⟩ : ∃ s4 a, takeNum s3 = (s4, a) := ⟨_, _, rfl⟩
  rw [h4] at c4
  have c5 := fun v => inTexts_con i v s4 s4.1.length 60 te pe
  obtain ⟨s5, o, h5⟩ : ∃ s5 o, takeTexts s4.1.length 60 s4 = (s5, o) := ⟨_, _, rfl⟩
  rw [h5] at c5
  have c6 := fun v => inTexts_con i v s5 s5.1.length 60 te pe
  obtain ⟨s6, w, h6⟩ : ∃ s6 w, takeTexts s5.1.length 60 s5 = (s6, w) := ⟨_, _, rfl⟩
  rw [h6] at c6
  have hraw : rawPrim s = (s6, (k, n, t, a, o, w)) := by unfold rawPrim; simp only [h1, h2, h3, h4, h5, h6]
  rw [hraw]
  dsimp only at c1 c2 c3 c4 c5 c6 ⊢
  refine con_of Tryz.func71 rfl (dd rfl) fun w0 O0 => ?_
  refine c_seq ?_
  refine c_region ?_
  refine o_step (s_alloc ti58 (dd rfl) (fun b2 => ?_))
  refine o_nil ?_
  refine c_seq ?_
  refine c_region ?_
  refine o_val (v_move rfl) (dd rfl) ?_
  refine o_step (s_callf cl14 (c1) rfl (dd rfl) (pXs (by repeat constructor)) fun v1 _ => ?_)
  refine o_val (v_move rfl) (dd rfl) ?_
  refine o_step (s_callf cl16 (c2 v1) rfl (dd rfl) (pXs (by repeat constructor)) fun v2 _ => ?_)
  refine o_val (v_move rfl) (dd rfl) ?_
  refine o_step (s_callf cl16 (c3 v2) rfl (dd rfl) (pXs (by repeat constructor)) fun v3 _ => ?_)
  refine o_val (v_move rfl) (dd rfl) ?_
  refine o_step (s_callf cl14 (c4 v3) rfl (dd rfl) (pXs (by repeat constructor)) fun v4 _ => ?_)
  refine o_val (v_buildS (places := [(0, 1), (1, 1), (2, 1), (3, 1), (4, 1), (5, 1)]) (cells := [_, _, _, _, .slice none 0 0, .slice none 0 0]) Tryz.underlying58 ti58 (by kernel_rfl) rfl (by repeat (first | exact PartsC.nil | (apply PartsC.one (by first | exact OneC.lit rfl | exact OneC.sl (hX (by repeat constructor)) )) | (apply PartsC.lit rfl))) rfl) (dd rfl) ?_
  refine o_step (s_alloc ti58 (dd rfl) (fun b3 => ?_))
  refine o_step (s_store_all ti58 rfl rfl (by first | exact CellsV.lit rfl | exact CellsV.one (by first | exact OneC.lit rfl | exact OneC.sl (hX (by repeat constructor)) )) (by repeat (first | exact OneAll.nil | (refine OneAll.cons ?_ ?_; · first | exact OneC.lit rfl | exact OneC.sl (hX (by repeat constructor)) ) | exact OneAll.rd (hX (by repeat constructor)))) rfl (pB (by repeat constructor)) rfl (?_))
  refine o_nil ?_
  refine c_seq ?_
  refine c_region ?_
  refine o_val (v_move rfl) (dd rfl) ?_
  refine o_val (v_move rfl) (dd rfl) ?_
  refine o_val (v_nilCheck rfl) (dd rfl) ?_
  refine o_val (v_fieldAddrC 0 Tryz.underlying92 rfl ti25 (by decide) rfl) (dd rfl) ?_
  refine o_val (v_load lone25 rfl (hX (by repeat constructor)) rfl) (dd rfl) ?_
  refine o_val ((by first | exact v_len_form Tryz.underlying25 rfl | exact v_len_sl Tryz.underlying25 rfl (hX (by repeat constructor)))) (dd rfl) ?_
  refine o_step (s_callf cl17 (c5 v4) rfl (dd rfl) (pXs (by repeat constructor)) fun g5 _ => ?_)
  refine o_val (v_fieldAddrC 4 Tryz.underlying58 rfl ti28 (by decide) rfl) (dd rfl) ?_
  refine o_step (s_store1 ti28 rfl rfl (by first | exact OneC.lit rfl | exact OneC.sl (hX (by repeat constructor)) ) (pB (by repeat constructor)) (by first | decide | exact Nat.le_of_ble_eq_true rfl | simp) (by first | (dsimp only [List.set_cons_succ, List.set_cons_zero]; first | done | exact rfl) | rfl) (?_))
  refine o_nil ?_
  refine c_seq ?_
  refine c_region ?_
  refine o_val (v_move rfl) (dd rfl) ?_
  refine o_val (v_move rfl) (dd rfl) ?_
  refine o_val (v_nilCheck rfl) (dd rfl) ?_
  refine o_val (v_fieldAddrC 0 Tryz.underlying92 rfl ti25 (by decide) rfl) (dd rfl) ?_
  refine o_val (v_load lone25 rfl (hX (by repeat constructor)) rfl) (dd rfl) ?_
  refine o_val ((by first | exact v_len_form Tryz.underlying25 rfl | exact v_len_sl Tryz.underlying25 rfl (hX (by repeat constructor)))) (dd rfl) ?_
  refine o_step (s_callf cl17 (c6 g5.1) rfl (dd rfl) (pXs (by repeat constructor)) fun g6 _ => ?_)
  refine o_val (v_fieldAddrC 5 Tryz.underlying58 rfl ti28 (by decide) rfl) (dd rfl) ?_
  refine o_step (s_store1 ti28 rfl rfl (by first | exact OneC.lit rfl | exact OneC.sl (hX (by repeat constructor)) ) (pB (by repeat constructor)) (by first | decide | exact Nat.le_of_ble_eq_true rfl | simp) (by first | (dsimp only [List.set_cons_succ, List.set_cons_zero]; first | done | exact rfl) | rfl) (?_))
  refine o_nil ?_
  refine c_seq ?_
  refine c_region ?_
  refine o_val (v_load_all ⟨_, Tryz.underlying58⟩ ti58 rfl (hX (by repeat constructor)) rfl) (dd rfl) ?_
  refine o_step (s_store_all ti58 rfl rfl (by first | exact CellsV.lit rfl | exact CellsV.one (by first | exact OneC.lit rfl | exact OneC.sl (hX (by repeat constructor)) )) (by repeat (first | exact OneAll.nil | (refine OneAll.cons ?_ ?_; · first | exact OneC.lit rfl | exact OneC.sl (hX (by repeat constructor)) ) | exact OneAll.rd (hX (by repeat constructor)))) rfl (pB (by repeat constructor)) rfl (?_))
  refine o_nil ?_
  refine c_ret_cell Tryz.func71 rfl ⟨_, Tryz.underlying58⟩ ti58 rfl (hX (by repeat constructor)) fun w O hS => ?_
  exact ⟨(g6.1, g5.2, g6.2), rfl, trivial, Ent.get hS (eX (by repeat constructor))⟩
set_option maxRecDepth 100000 in
theorem wholePrim_con (i : Nat) (bv : Value) (s : St9) (hs : s.1.length ≤ big9) (te : TypeId) (pe : Value) : Con Tryz.prog 70 [ptr i, .func (.func 71) #[ptr i] #[], .func (.func 72) #[] #[]] [Blk i 92 [bv, .bool s.2], Sl eByte bv s.1, G1 te pe, G3] (γ := Value × Value × Value)
    (fun g => .agg #[.int .i64 (takePrim s).2.1, .string (takePrim s).2.2.1, .string (takePrim s).2.2.2.1, .int .i64 (takePrim s).2.2.2.2.1, g.2.1, g.2.2]) (fun _ => True)
    (fun g => [Blk i 92 [g.1, .bool (takePrim s).1.2], Sl eByte g.1 (takePrim s).1.1, Sl eStr g.2.1 (takePrim s).2.2.2.2.2.1, Sl eStr g.2.2 (takePrim s).2.2.2.2.2.2]) := by
  have h1 := inRaw_con i bv s te pe
  have hok := raw_ok hs
  unfold takePrim
  obtain ⟨s1, p, hp⟩ : ∃ s1 p, rawPrim s = (s1, p) := ⟨_, _, rfl⟩
  rw [hp] at h1 hok ⊢
  obtain ⟨k, n, t, a, o, w⟩ := p
  have h2 := fun ov wv => right_prim_con (k, n, t, a, o, w) ov wv hok
  dsimp only at h1 h2 ⊢
  refine con_of Tryz.func70 rfl (dd rfl) fun w0 O0 => ?_
  refine c_seq ?_
  refine c_region ?_
  refine o_step (s_alloc ti58 (dd rfl) (fun b6 => ?_))
  refine o_nil ?_
  refine c_seq ?_
  refine c_region ?_
  refine o_val (v_move rfl) (dd rfl) ?_
  refine o_val (v_nilCheck rfl) (dd rfl) ?_
  refine o_val (v_fieldAddrC 0 Tryz.underlying92 rfl ti25 (by decide) rfl) (dd rfl) ?_
  refine o_val (v_load lone25 rfl (hX (by repeat constructor)) rfl) (dd rfl) ?_
  refine o_val (v_assign rfl) (dd rfl) ?_
  refine o_nil ?_
  refine c_seq ?_
  refine c_region ?_
  refine o_val (v_move rfl) (dd rfl) ?_
  refine o_step (s_call cl71 (h1) (first := [ptr i]) (cap := []) rfl rfl (by rfl) (dd rfl) (pXs (by repeat constructor)) fun g _ => ?_)
  refine o_step (s_alloc ti58 (dd rfl) (fun b8 => ?_))
  refine o_step (s_store_all ti58 rfl rfl (by first | exact CellsV.lit rfl | exact CellsV.one (by first | exact OneC.lit rfl | exact OneC.sl (hX (by repeat constructor)) )) (by repeat (first | exact OneAll.nil | (refine OneAll.cons ?_ ?_; · first | exact OneC.lit rfl | exact OneC.sl (hX (by repeat constructor)) ) | exact OneAll.rd (hX (by repeat constructor)))) rfl (pB (by repeat constructor)) rfl (?_))
  refine o_nil ?_
  refine c_seq ?_
  refine c_seq ?_
  refine c_region ?_
  refine o_val (v_move rfl) (dd rfl) ?_
  refine o_val (v_nilCheck rfl) (dd rfl) ?_
  refine o_val (v_fieldAddrC 1 Tryz.underlying92 rfl ti4 (by decide) rfl) (dd rfl) ?_
  refine o_val (v_load lone4 rfl (hX (by repeat constructor)) rfl) (dd rfl) ?_
  refine o_val (v_not rfl) (dd rfl) ?_
  refine o_val (v_move rfl) (dd rfl) ?_
  refine o_guard rfl rfl (fun hb => ?_) (fun hb => ?_)
  · have hb2 : s1.2 = false := by simpa using hb
    refine o_val (v_move rfl) (dd rfl) ?_
    refine o_on rfl rfl ?_
    refine o_val (v_load_all ⟨_, Tryz.underlying58⟩ ti58 rfl (hX (by repeat constructor)) rfl) (dd rfl) ?_
    refine o_on rfl rfl ?_
    refine o_step (s_call_keep cl72 (h2 g.2.1 g.2.2) (first := []) (cap := []) rfl rfl rfl (dd rfl) (rX (by repeat constructor)) (fun _ => sX) (fun _ _ => ?_))
    refine o_val (v_pick_t rfl rfl) (dd rfl) ?_
    refine o_nil ?_
    refine c_cond rfl (fun hr => ?_) (fun hr => ?_)
    · rw [if_neg (by rintro (q | q); rw [hb2] at q; cases q; rw [hr] at q; cases q)]
      refine c_seq ?_
      refine c_region ?_
      refine o_val (v_load_all ⟨_, Tryz.underlying58⟩ ti58 rfl (hX (by repeat constructor)) rfl) (dd rfl) ?_
      refine o_step (s_store_all ti58 rfl rfl (by first | exact CellsV.lit rfl | exact CellsV.one (by first | exact OneC.lit rfl | exact OneC.sl (hX (by repeat constructor)) )) (by repeat (first | exact OneAll.nil | (refine OneAll.cons ?_ ?_; · first | exact OneC.lit rfl | exact OneC.sl (hX (by repeat constructor)) ) | exact OneAll.rd (hX (by repeat constructor)))) rfl (pB (by repeat constructor)) rfl (?_))
      refine o_nil ?_
      refine c_ret_cell Tryz.func70 rfl ⟨_, Tryz.underlying58⟩ ti58 rfl (hX (by repeat constructor)) fun w O hS => ?_
      exact ⟨g, rfl, trivial, Ent.get hS (eX (by repeat constructor))⟩
    · rw [if_pos (.inr hr)]
      refine c_skip ?_
      refine c_seq ?_
      refine c_region ?_
      refine o_step (s_alloc ti58 (dd rfl) (fun b9 => ?_))
      refine o_nil ?_
      refine c_seq ?_
      refine c_region ?_
      refine o_val (v_move rfl) (dd rfl) ?_
      refine o_val (v_move rfl) (dd rfl) ?_
      refine o_val (v_move rfl) (dd rfl) ?_
      refine o_val (v_nilCheck rfl) (dd rfl) ?_
      refine o_val (v_fieldAddrC 0 Tryz.underlying92 rfl ti25 (by decide) rfl) (dd rfl) ?_
      refine o_step (s_store1 ti25 rfl rfl (by first | exact OneC.lit rfl | exact OneC.sl (hX (by repeat constructor)) ) (pB (by repeat constructor)) (by first | decide | exact Nat.le_of_ble_eq_true rfl | simp) (by first | (dsimp only [List.set_cons_succ, List.set_cons_zero]; first | done | exact rfl) | rfl) (?_))
      refine o_val (v_nilCheck rfl) (dd rfl) ?_
      refine o_val (v_fieldAddrC 1 Tryz.underlying92 rfl ti4 (by decide) rfl) (dd rfl) ?_
      refine o_step (s_store1 ti4 rfl rfl (by first | exact OneC.lit rfl | exact OneC.sl (hX (by repeat constructor)) ) (pB (by repeat constructor)) (by first | decide | exact Nat.le_of_ble_eq_true rfl | simp) (by first | (dsimp only [List.set_cons_succ, List.set_cons_zero]; first | done | exact rfl) | rfl) (?_))
      refine o_nil ?_
      refine c_seq ?_
      refine c_region ?_
      refine o_val (v_load_all ⟨_, Tryz.underlying58⟩ ti58 rfl (hX (by repeat constructor)) rfl) (dd rfl) ?_
      refine o_step (s_store_all ti58 rfl rfl (by first | exact CellsV.lit rfl | exact CellsV.one (by first | exact OneC.lit rfl | exact OneC.sl (hX (by repeat constructor)) )) (by repeat (first | exact OneAll.nil | (refine OneAll.cons ?_ ?_; · first | exact OneC.lit rfl | exact OneC.sl (hX (by repeat constructor)) ) | exact OneAll.rd (hX (by repeat constructor)))) rfl (pB (by repeat constructor)) rfl (?_))
      refine o_nil ?_
      refine c_ret_cell Tryz.func70 rfl ⟨_, Tryz.underlying58⟩ ti58 rfl (hX (by repeat constructor)) fun w O hS => ?_
      exact ⟨(bv, .slice none 0 0, .slice none 0 0), rfl, trivial, Ent.get hS (eX (by repeat constructor))⟩
  · have hb2 : s1.2 = true := by simpa using hb
    rw [if_pos (.inl hb2)]
    refine o_off rfl rfl rfl (dd rfl) ?_
    refine o_off rfl rfl rfl (dd rfl) ?_
    refine o_off rfl rfl rfl (dd rfl) ?_
    refine o_val (v_pick_f rfl rfl) (dd rfl) ?_
    refine o_nil ?_
    refine c_cond_f rfl ?_
    refine c_skip ?_
    refine c_seq ?_
    refine c_region ?_
    refine o_step (s_alloc ti58 (dd rfl) (fun b9 => ?_))
    refine o_nil ?_
    refine c_seq ?_
    refine c_region ?_
    refine o_val (v_move rfl) (dd rfl) ?_
    refine o_val (v_move rfl) (dd rfl) ?_
    refine o_val (v_move rfl) (dd rfl) ?_
    refine o_val (v_nilCheck rfl) (dd rfl) ?_
    refine o_val (v_fieldAddrC 0 Tryz.underlying92 rfl ti25 (by decide) rfl) (dd rfl) ?_
    refine o_step (s_store1 ti25 rfl rfl (by first | exact OneC.lit rfl | exact OneC.sl (hX (by repeat constructor)) ) (pB (by repeat constructor)) (by first | decide | exact Nat.le_of_ble_eq_true rfl | simp) (by first | (dsimp only [List.set_cons_succ, List.set_cons_zero]; first | done | exact rfl) | rfl) (?_))
    refine o_val (v_nilCheck rfl) (dd rfl) ?_
    refine o_val (v_fieldAddrC 1 Tryz.underlying92 rfl ti4 (by decide) rfl) (dd rfl) ?_
    refine o_step (s_store1 ti4 rfl rfl (by first | exact OneC.lit rfl | exact OneC.sl (hX (by repeat constructor)) ) (pB (by repeat constructor)) (by first | decide | exact Nat.le_of_ble_eq_true rfl | simp) (by first | (dsimp only [List.set_cons_succ, List.set_cons_zero]; first | done | exact rfl) | rfl) (?_))
    refine o_nil ?_
    refine c_seq ?_
    refine c_region ?_
    refine o_val (v_load_all ⟨_, Tryz.underlying58⟩ ti58 rfl (hX (by repeat constructor)) rfl) (dd rfl) ?_
    refine o_step (s_store_all ti58 rfl rfl (by first | exact CellsV.lit rfl | exact CellsV.one (by first | exact OneC.lit rfl | exact OneC.sl (hX (by repeat constructor)) )) (by repeat (first | exact OneAll.nil | (refine OneAll.cons ?_ ?_; · first | exact OneC.lit rfl | exact OneC.sl (hX (by repeat constructor)) ) | exact OneAll.rd (hX (by repeat constructor)))) rfl (pB (by repeat constructor)) rfl (?_))
    refine o_nil ?_
    refine c_ret_cell Tryz.func70 rfl ⟨_, Tryz.underlying58⟩ ti58 rfl (hX (by repeat constructor)) fun w O hS => ?_
    exact ⟨(bv, .slice none 0 0, .slice none 0 0), rfl, trivial, Ent.get hS (eX (by repeat constructor))⟩
set_option maxRecDepth 100000 in
theorem inPrim_con (i : Nat) (bv : Value) (s : St9) (hs : s.1.length ≤ big9) (te : TypeId) (pe : Value) : Con Tryz.prog 25 [ptr i] [Blk i 92 [bv, .bool s.2], Sl eByte bv s.1, G1 te pe, G3] (γ := Value × Value × Value)
    (fun g => .agg #[.int .i64 (takePrim s).2.1, .string (takePrim s).2.2.1, .string (takePrim s).2.2.2.1, .int .i64 (takePrim s).2.2.2.2.1, g.2.1, g.2.2]) (fun _ => True)
    (fun g => [Blk i 92 [g.1, .bool (takePrim s).1.2], Sl eByte g.1 (takePrim s).1.1, Sl eStr g.2.1 (takePrim s).2.2.2.2.2.1, Sl eStr g.2.2 (takePrim s).2.2.2.2.2.2]) := by
  have h := wholePrim_con i bv s hs te pe
  refine con_of Tryz.func25 rfl (dd rfl) fun w0 O0 => ?_
  refine c_seq ?_
  refine c_region ?_
  refine o_step (s_alloc ti58 (dd rfl) (fun b2 => ?_))
  refine o_nil ?_
  refine c_seq ?_
  refine c_region ?_
  refine o_val (v_move rfl) (dd rfl) ?_
  refine o_val (v_move rfl) (dd rfl) ?_
  refine o_val (v_makeFunc rfl rfl) (dd rfl) ?_
  refine o_step (s_callf cl70 (h) rfl (dd rfl) (pXs (by repeat constructor)) fun g _ => ?_)
  refine o_step (s_store_all ti58 rfl rfl (by first | exact CellsV.lit rfl | exact CellsV.one (by first | exact OneC.lit rfl | exact OneC.sl (hX (by repeat constructor)) )) (by repeat (first | exact OneAll.nil | (refine OneAll.cons ?_ ?_; · first | exact OneC.lit rfl | exact OneC.sl (hX (by repeat constructor)) ) | exact OneAll.rd (hX (by repeat constructor)))) rfl (pB (by repeat constructor)) rfl (?_))
  refine o_nil ?_
  refine c_ret_cell Tryz.func25 rfl ⟨_, Tryz.underlying58⟩ ti58 rfl (hX (by repeat constructor)) fun w O hS => ?_
  exact ⟨g, rfl, trivial, Ent.get hS (eX (by repeat constructor))⟩
end Go.Proofs.YtmgkeippepeggaaGreatDoor

/- CodeSpoils: for every input it returns true, and its arguments read behind the call as before. Conditions: the listed variables are laid as the card ties them. -/
import Derived.Test.YtmgkeippepeggaaGreatDoorZZ8
import Derived.Test.YtmgkeippepeggaaGreatDoorRows
import Derived.Test.YtmgkeippepeggaaGreatDoorCards
import Derived.Test.YtmgkeippepeggaaGreatDoorTie
set_option linter.unusedVariables false
set_option linter.unusedSimpArgs false
/- Chapter 09: CodeSpoils. -/
namespace Go.Proofs.YtmgkeippepeggaaGreatDoor
open Go Go.SL Go.Lib
theorem bad_num {s : St9} (h : s.2 = true) : takeNum s = (s, 0) := by
  unfold takeNum num9
  rw [if_pos h]
  exact Prod.ext (Prod.ext rfl h.symm) rfl
theorem bad_flag {s : St9} (h : s.2 = true) : takeFlag s = (s, false) := by
  unfold takeFlag num9
  rw [if_pos h]
  exact Prod.ext (Prod.ext rfl h.symm) rfl
theorem bad_text {s : St9} (m : Int) (h : s.2 = true) : takeText m s = (s, ⟨#[]⟩) := by
  unfold takeText num9
  rw [if_pos h]
  exact Prod.ext (Prod.ext rfl h.symm) rfl
theorem spoil_bad {s : St9} (h : s.2 = true) : spoil9 s = s := Prod.ext rfl h.symm
theorem bad_some {α : Type} {take : St9 → St9 × α} {s : St9} (m : Int) (h : s.2 = true) : takeSome take m s = (s, []) := by
  unfold takeSome
  rw [bad_num h, if_pos (.inl h), spoil_bad h]
theorem bad_prim {s : St9} (h : s.2 = true) : takePrim s = (s, pr0) := by
  have : (rawPrim s).1.2 = true := by
    unfold rawPrim takeTexts
    simp only [bad_num h, bad_text _ h, bad_some _ h]; exact h
  unfold takePrim
  rw [if_pos (.inl this), spoil_bad h]
theorem bad_patch {s : St9} (h : s.2 = true) : takePatch s = (s, pt0) := by
  have : (rawPatch s).1.2 = true := by
    unfold rawPatch takePrims
    simp only [bad_num h, bad_text _ h, bad_some _ h]; exact h
  unfold takePatch
  rw [if_pos (.inl this), spoil_bad h]
theorem first_x {l : List UInt8} : num9 59 (120 :: l, false) = none := by
  show numberR 59 (120 :: l) = none
  rw [numberR_full]
  cases h : (120 :: l).findIdx? (· == (59 : UInt8)) with
  | none => rfl
  | some k =>
    dsimp only
    split
    · rfl
    · rename_i hk
      cases hn : numS ((120 :: l).take k) with
      | none => rfl
      | some n =>
        have h1 := numS_some hn
        obtain ⟨j, rfl⟩ : ∃ j, k = j + 1 := ⟨k - 1, by omega⟩
        rw [List.take_succ_cons] at h1
        have h2 : (120 : UInt8) ∈ itoa n := by rw [h1]; simp
        exact absurd (itoa_chars h2) (by decide)
theorem num_x {l : List UInt8} : takeNum (120 :: l, false) = ((120 :: l, true), 0) := by
  unfold takeNum
  rw [first_x]; rfl
attribute [local irreducible] Cfg Kont StepK Val Con Qops Any Sl Own Blk BlkR Rd Pu ExA AllA Has Pick Ent Elem Beside Callable TI Lone OwnO AndA
set_option maxRecDepth 100000 in
theorem spoils_con (v u : Value) (l : List UInt8) (asks : List Ask9) (te : TypeId) (pe : Value) (hl : l.length ≤ 140737488355328) (ha : asks.length ≤ 140737488355328) : Con Tryz.prog 8 [v, u] [Sl eByte v l, Sl eAsk u asks, G1 te pe, G3] (γ := Unit) (fun _ => .bool true) (fun _ => True) (fun _ => []) := by
  have hal := alive_con te pe
  refine con_of Tryz.func8 rfl (dd rfl) fun w0 O0 => ?_
  refine c_seq ?_
  refine c_region ?_
  refine o_val (v_assign rfl) (dd rfl) ?_
  refine o_nil ?_
  refine c_seq ?_
  refine c_seq ?_
  refine c_env (env' := [(0, _), (1, _), (4, _)]) (by repeat (first | exact trivial | refine ⟨rfl, ?_⟩)) ?_
  refine c_joinb (d := 13) (decide (3000 < l.length ∨ 40 < asks.length)) ?_ ?_
  rotate_left
  · intro J
    refine c_region ?_
    refine o_val (v_move rfl) (dd rfl) ?_
    refine o_val ((by first | exact v_len_form Tryz.underlying25 rfl | exact v_len_sl Tryz.underlying25 rfl (hX (by repeat constructor)))) (dd rfl) ?_
    refine o_val (v_gt rfl rfl) (dd rfl) ?_
    refine o_val (v_move rfl) (dd rfl) ?_
    first | refine o_guard_f rfl rfl (fun g9 => ?_) (fun g9 => ?_) | refine o_guard rfl rfl (fun g9 => ?_) (fun g9 => ?_)
    · refine o_val (v_move rfl) (dd rfl) ?_
      refine o_on rfl rfl ?_
      refine o_val ((by first | exact v_len_form Tryz.underlying46 rfl | exact v_len_sl Tryz.underlying46 rfl (hX (by repeat constructor)))) (dd rfl) ?_
      refine o_on rfl rfl ?_
      refine o_val (v_gt rfl rfl) (dd rfl) ?_
      refine o_val (v_pick_f rfl rfl) (dd rfl) ?_
      refine o_nil ?_
      exact c_use J ⟨Env.as rfl (congrArg Value.bool (by first | rfl | (simp_all; done) | (simp_all; omega) | exact decide_eq_decide.2 (by omega) | exact (decide_eq_true (by omega)).symm)), (by repeat (first | exact trivial | refine ⟨rfl, ?_⟩))⟩ (by first | exact Ent.refl _ | exact eX (by repeat constructor))
    · refine o_off rfl rfl rfl (dd rfl) ?_
      refine o_off rfl rfl rfl (dd rfl) ?_
      refine o_off rfl rfl rfl (dd rfl) ?_
      refine o_val (v_pick_t rfl rfl) (dd rfl) ?_
      refine o_nil ?_
      exact c_use J ⟨Env.as rfl (congrArg Value.bool (by first | rfl | (simp_all; done) | (simp_all; omega) | exact decide_eq_decide.2 (by omega) | exact (decide_eq_true (by omega)).symm)), (by repeat (first | exact trivial | refine ⟨rfl, ?_⟩))⟩ (by first | exact Ent.refl _ | exact eX (by repeat constructor))
  refine c_cond_p rfl (fun h0 => ?_) (fun h0 => ?_)
  · refine c_seq ?_
    refine c_region ?_
    refine o_step (s_callf cl10 (hal) rfl (dd rfl) (pXs (by repeat constructor)) fun _ _ => ?_)
    refine o_val (v_assign rfl) (dd rfl) ?_
    refine o_nil ?_
    refine c_ret1 Tryz.func8 rfl rfl fun w O hS => ?_
    exact ⟨(), rfl, trivial, trivial⟩
  · have hof := fun v => of_con v ([120] ++ l) (by simp; omega)
    obtain ⟨s, hs⟩ : ∃ s : St9, s = (120 :: l, true) := ⟨_, rfl⟩
    have hb : s.2 = true := by rw [hs]
    have hlen : s.1.length = l.length + 1 := by rw [hs]; rfl
    have hs9 : s.1.length ≤ big9 := by unfold big9; omega
    have c0 := fun i w => inNum_con i w (120 :: l, false) te pe
    have c1 := fun i w => inNum_con i w s te pe
    have c2 := fun i w => inFlag_con i w s te pe
    have c3 := fun i w => inText_con i w s 9 te pe
    have c4 := fun i w => inTexts_con i w s 9 9 te pe
    have c5 := fun i w => inPrim_con i w s hs9 te pe
    have c6 := fun i w => inPrims_con i w s 9 hs9 te pe
    have c7 := fun i w => inPatch_con i w s hs9 te pe
    have c8 := fun i w => left_con i w s
    have c9 := fun i w => done_con i w s
    have e1 := fun o w => samePr_con pr0 pr0 o w (.slice none 0 0) (.slice none 0 0) ⟨by decide, by decide⟩ ⟨by decide, by decide⟩
    have e2 := fun o w => sameT_con pt0 pt0 o w (.slice none 0 0) (.slice none 0 0) ⟨by decide, by decide, fun _ h => by cases h⟩ ⟨by decide, by decide, fun _ h => by cases h⟩
    rw [num_x, ← hs] at c0
    rw [bad_num hb] at c1
    rw [bad_flag hb] at c2
    rw [bad_text 9 hb] at c3
    unfold takeTexts at c4
    rw [bad_some 9 hb] at c4
    rw [bad_prim hb] at c5
    unfold takePrims at c6
    rw [bad_some 9 hb] at c6
    rw [bad_patch hb] at c7
    unfold pr0 at c5 e1
    unfold pt0 at c7 e2
    dsimp only at c0 c1 c2 c3 c4 c5 c6 c7 e1 e2
    refine c_skip ?_
    refine c_seq ?_
    refine c_region ?_
    refine o_step (s_buildSlice Tryz.underlying25 ti5 rfl rfl rfl (by decide) (by decide) (beside_byte [120]) rfl rfl (dd rfl) fun v1 => ?_)
    refine o_val (v_move rfl) (dd rfl) ?_
    refine o_step (s_append Tryz.underlying25 ti5 rfl (by decide) rfl rfl (dd rfl) (pB (by repeat constructor)) (pX (by repeat constructor)) rfl (by (first | omega | (simp only [maxLen, List.length_append, List.length_drop, List.length_take, List.length_nil, List.length_cons]; omega))) (by (first | omega | (simp only [maxLen, List.length_append, List.length_drop, List.length_take, List.length_nil, List.length_cons]; omega))) fun v2 => ?_)
    refine o_step (s_callf cl13 (hof v2) rfl (dd rfl) (pXs (by repeat constructor)) fun g _ => ?_)
    refine o_val (v_assign rfl) (dd rfl) ?_
    refine o_nil ?_
    refine c_seq ?_
    refine c_seq ?_
    refine c_region ?_
    refine o_val (v_move rfl) (dd rfl) ?_
    refine o_val (v_eq_ptr_nil Tryz.underlying40 rfl rfl) (dd rfl) ?_
    refine o_val (v_move rfl) (dd rfl) ?_
    refine o_on rfl rfl ?_
    refine o_val (v_move rfl) (dd rfl) ?_
    refine o_on rfl rfl ?_
    refine o_step (s_callf cl14 (c0 g.1 g.2) rfl (dd rfl) (pXs (by repeat constructor)) fun w _ => ?_)
    refine o_on rfl rfl ?_
    refine o_val (v_ne rfl rfl) (dd rfl) ?_
    refine o_val (v_pick_f rfl rfl) (dd rfl) ?_
    refine o_nil ?_
    refine c_cond_f rfl ?_
    refine c_skip ?_
    refine c_seq ?_
    refine c_seq ?_
    refine c_region ?_
    refine o_val (v_move rfl) (dd rfl) ?_
    refine o_val ((by first | exact v_len_form Tryz.underlying46 rfl | exact v_len_sl Tryz.underlying46 rfl (hX (by repeat constructor)))) (dd rfl) ?_
    refine o_val (v_move rfl) (dd rfl) ?_
    refine o_nil ?_
    refine c_block ?_
    have n1 : (!decide (((0, ⟨#[]⟩, ⟨#[]⟩, 0, [], []) : Pr9) = (0, ⟨#[]⟩, ⟨#[]⟩, 0, [], []))) = false := by rw [decide_eq_true rfl]; rfl
    have n2 : (!decide (((0, ⟨#[]⟩, [], []) : Pt9) = (0, ⟨#[]⟩, [], []))) = false := by rw [decide_eq_true rfl]; rfl
    refine c_loopR (γ := Nat × Value) [(0, _), (4, _), (5, _), (27, _)] (fun q => asks.length - q.1) (fun q => q.1 ≤ asks.length) (fun q => [(28, .int .i64 q.1)]) (fun q => [Blk g.1 92 [q.2, .bool s.2], Sl eByte q.2 s.1, Sl eByte v l, Sl eAsk u asks, G1 te pe, G3]) ((0, w)) (Nat.zero_le _) (by repeat (first | exact trivial | refine ⟨rfl, ?_⟩)) (eX (by repeat constructor)) ?_
    rintro ⟨k, r⟩ hk IH
    dsimp only at hk ⊢
    try dsimp only [List.cons_append, List.nil_append]
    refine c_seq ?_
    refine c_region ?_
    refine o_val (v_lt rfl rfl) (dd rfl) ?_
    refine o_nil ?_
    refine c_seq ?_
    refine c_cond_p rfl (fun hlt => ?_) (fun hlt => ?_)
    · refine c_skip ?_
      refine c_seq ?_
      refine c_block ?_
      refine c_seq ?_
      refine c_region ?_
      refine o_val (v_move rfl) (dd rfl) ?_
      refine o_step (s_callf cl14 (c1 g.1 r) rfl (dd rfl) (pXs (by repeat constructor)) fun r1 _ => ?_)
      refine o_val (v_ne rfl rfl) (dd rfl) ?_
      refine o_val (v_move rfl) (dd rfl) ?_
      refine o_guard rfl rfl (fun _ => ?_) (fun h_ => absurd ((show _ = false from decide_eq_false (by omega)).symm.trans h_) (by decide))
      refine o_val (v_move rfl) (dd rfl) ?_
      refine o_on rfl rfl ?_
      refine o_step (s_callf cl15 (c2 g.1 r1) rfl (dd rfl) (pXs (by repeat constructor)) fun r2 _ => ?_)
      refine o_val (v_pick_f rfl rfl) (dd rfl) ?_
      refine o_val (v_move rfl) (dd rfl) ?_
      refine o_guard rfl rfl (fun _ => ?_) (fun h_ => absurd ((show _ = false from rfl).symm.trans h_) (by decide))
      refine o_val (v_move rfl) (dd rfl) ?_
      refine o_on rfl rfl ?_
      refine o_step (s_callf cl16 (c3 g.1 r2) rfl (dd rfl) (pXs (by repeat constructor)) fun r3 _ => ?_)
      refine o_on rfl rfl ?_
      refine o_val (v_sne rfl rfl) (dd rfl) ?_
      refine o_val (v_pick_f rfl rfl) (dd rfl) ?_
      refine o_val (v_move rfl) (dd rfl) ?_
      refine o_guard rfl rfl (fun _ => ?_) (fun h_ => absurd ((show _ = false from decide_eq_false (fun h => h rfl)).symm.trans h_) (by decide))
      refine o_val (v_move rfl) (dd rfl) ?_
      refine o_on rfl rfl ?_
      refine o_step (s_callf cl17 (c4 g.1 r3) rfl (dd rfl) (pXs (by repeat constructor)) fun r4 _ => ?_)
      refine o_on rfl rfl ?_
      refine o_val ((by first | exact v_len_form Tryz.underlying28 rfl | exact v_len_sl Tryz.underlying28 rfl (hX (by repeat constructor)))) (dd rfl) ?_
      refine o_on rfl rfl ?_
      refine o_val (v_ne rfl rfl) (dd rfl) ?_
      refine o_val (v_pick_f rfl rfl) (dd rfl) ?_
      refine o_val (v_move rfl) (dd rfl) ?_
      refine o_guard rfl rfl (fun _ => ?_) (fun h_ => absurd ((show _ = false from decide_eq_false (fun h => h rfl)).symm.trans h_) (by decide))
      refine o_val (v_move rfl) (dd rfl) ?_
      refine o_on rfl rfl ?_
      refine o_step (s_callf cl25 (c5 g.1 r4.1) rfl (dd rfl) (pXs (by repeat constructor)) fun r5 _ => ?_)
      refine o_on rfl rfl ?_
      refine o_val (v_buildS (places := [(0, 1), (1, 1), (2, 1), (3, 1), (4, 1), (5, 1)]) (cells := [.int .i64 0, .string ⟨#[]⟩, .string ⟨#[]⟩, .int .i64 0, .slice none 0 0, .slice none 0 0]) Tryz.underlying58 ti58 (by kernel_rfl) rfl (by repeat (first | exact PartsC.nil | (apply PartsC.one (by first | exact OneC.lit rfl | exact OneC.sl (hX (by repeat constructor)) )) | (apply PartsC.lit rfl))) rfl) (dd rfl) ?_
      refine o_on rfl rfl ?_
      refine o_step (s_callf cl39 (e1 r5.2.1 r5.2.2) rfl (dd rfl) (pXs (by repeat constructor)) fun _ _ => ?_)
      refine o_on rfl rfl ?_
      refine o_val (v_not rfl) (dd rfl) ?_
      refine o_val (v_pick_f rfl rfl) (dd rfl) ?_
      refine o_val (v_move rfl) (dd rfl) ?_
      refine o_guard rfl rfl (fun _ => ?_) (fun h_ => absurd ((show _ = false from n1).symm.trans h_) (by decide))
      refine o_val (v_move rfl) (dd rfl) ?_
      refine o_on rfl rfl ?_
      refine o_step (s_callf cl28 (c6 g.1 r5.1) rfl (dd rfl) (pXs (by repeat constructor)) fun r6 _ => ?_)
      refine o_on rfl rfl ?_
      refine o_val ((by first | exact v_len_form Tryz.underlying62 rfl | exact v_len_sl Tryz.underlying62 rfl (hX (by repeat constructor)))) (dd rfl) ?_
      refine o_on rfl rfl ?_
      refine o_val (v_ne rfl rfl) (dd rfl) ?_
      refine o_val (v_pick_f rfl rfl) (dd rfl) ?_
      refine o_val (v_move rfl) (dd rfl) ?_
      refine o_guard rfl rfl (fun _ => ?_) (fun h_ => absurd ((show _ = false from decide_eq_false (fun h => h rfl)).symm.trans h_) (by decide))
      refine o_val (v_move rfl) (dd rfl) ?_
      refine o_on rfl rfl ?_
      refine o_step (s_callf cl31 (c7 g.1 r6.1) rfl (dd rfl) (pXs (by repeat constructor)) fun r7 _ => ?_)
      refine o_on rfl rfl ?_
      refine o_val (v_buildS (places := [(0, 1), (1, 1), (2, 1), (3, 1)]) (cells := [.int .i64 0, .string ⟨#[]⟩, .slice none 0 0, .slice none 0 0]) Tryz.underlying67 ti67 (by kernel_rfl) rfl (by repeat (first | exact PartsC.nil | (apply PartsC.one (by first | exact OneC.lit rfl | exact OneC.sl (hX (by repeat constructor)) )) | (apply PartsC.lit rfl))) rfl) (dd rfl) ?_
      refine o_on rfl rfl ?_
      refine o_step (s_callf cl40 (e2 r7.2.1 r7.2.2) rfl (dd rfl) (pXs (by repeat constructor)) fun _ _ => ?_)
      refine o_on rfl rfl ?_
      refine o_val (v_not rfl) (dd rfl) ?_
      refine o_val (v_pick_f rfl rfl) (dd rfl) ?_
      refine o_nil ?_
      rw [n2]
      refine c_cond_f rfl ?_
      refine c_skip ?_
      refine c_inBlock ?_
      refine c_region ?_
      refine o_val ((by first | exact v_add64 rfl rfl (by omega) | exact v_add rfl rfl)) (dd rfl) ?_
      refine o_val (v_move rfl) (dd rfl) ?_
      refine o_nil ?_
      refine c_use (IH ((k + 1, r7.1)) (by first | omega | (dsimp only; omega)) (by dsimp only; omega)) (by repeat (first | exact trivial | refine ⟨rfl, ?_⟩)) (eX (by repeat constructor))
    · refine c_exit rfl ?_
      refine c_seq ?_
      refine c_region ?_
      refine o_step (s_callf_keep cl10 (hal) rfl (dd rfl) (rX (by repeat constructor)) (fun _ => sX) (fun _ _ => ?_))
      refine o_val (v_move rfl) (dd rfl) ?_
      refine o_guard rfl rfl (fun _ => ?_) (fun h_ => absurd ((show _ = true from rfl).symm.trans h_) (by decide))
      refine o_val (v_move rfl) (dd rfl) ?_
      refine o_on rfl rfl ?_
      refine o_step (s_callf_keep cl18 (c8 g.1 r) rfl (dd rfl) (rX (by repeat constructor)) (fun _ => sX) (fun _ _ => ?_))
      refine o_on rfl rfl ?_
      refine o_val (v_move rfl) (dd rfl) ?_
      refine o_on rfl rfl ?_
      refine o_val ((by first | exact v_len_form Tryz.underlying25 rfl | exact v_len_sl Tryz.underlying25 rfl (hX (by repeat constructor)))) (dd rfl) ?_
      refine o_on rfl rfl ?_
      refine o_val ((by first | exact v_add64 rfl rfl (by omega) | exact v_add rfl rfl)) (dd rfl) ?_
      refine o_on rfl rfl ?_
      refine o_val (v_eq rfl rfl) (dd rfl) ?_
      refine o_val (v_pick_t rfl rfl) (dd rfl) ?_
      refine o_val (v_move rfl) (dd rfl) ?_
      refine o_guard rfl rfl (fun _ => ?_) (fun h_ => absurd ((show _ = true from decide_eq_true (by omega)).symm.trans h_) (by decide))
      refine o_val (v_move rfl) (dd rfl) ?_
      refine o_on rfl rfl ?_
      refine o_step (s_callf_keep cl20 (c9 g.1 r) rfl (dd rfl) (rX (by repeat constructor)) (fun _ => sX) (fun _ _ => ?_))
      refine o_on rfl rfl ?_
      refine o_val (v_not rfl) (dd rfl) ?_
      refine o_val (v_pick_t rfl rfl) (dd rfl) ?_
      refine o_val (v_assign rfl) (dd rfl) ?_
      refine o_nil ?_
      refine c_ret1 Tryz.func8 rfl rfl fun w O hS => ?_
      exact ⟨(), by rw [decide_eq_false (by rw [hs]; intro q; cases q)]; rfl, trivial, trivial⟩
end Go.Proofs.YtmgkeippepeggaaGreatDoor
namespace Go.Proofs.YtmgkeippepeggaaGreatDoor
open Go Go.SL Go.RowKit Go.ChangeShapes Go.WideShapes Go.ChangeAt Go.Lib
set_option linter.unusedVariables false
set_option maxRecDepth 100000 in
theorem codeSpoils_lifted (os : Os) (started : os.Started) (H : Type) (enc : TypeId × Value → H) :
    ReturnsInHanded {} Tryz.checked os 8 .any (fun w args => (Rows.codeSpoilsSpec.pre enc Tryz.prog Tryz.f8 [] false w args ∧ laidMetH Tryz.prog laidL w) ∧ sizedMet enc Tryz.prog Tryz.f8 (OpenSpec.ofChange Rows.codeSpoilsSpec) false w args)
      (Rows.codeSpoilsSpec.post enc Tryz.prog Tryz.f8 false true false false) := by
  refine lift_true (C := Tryz.checked) (X := fun w _ => laidMetH Tryz.prog laidL w) (t := 4) (fun _ _ _ hh h => h.of_heap hh) own started (by kernel_rfl) Tryz.func8 rfl (fun ds h => ?_) rfl Tryz.underlying4 laidOut (by kernel_rfl)
    (ChangeSpec.witness_shaped (enc := enc) (C := Tryz.checked) (os := os) (X := fun w _ => laidMetH Tryz.prog laidL w) false (World.laidAll Tryz.prog os laidL) #[.slice none 0 0, .slice none 0 0] 8 (World.laidAll_os _ _ _) (start_shaped os _) (by kernel_rfl) (by kernel_rfl) (by kernel_rfl) (start_met os _)) ?_
  · match ds, h with
    | [d0, d1], _ => rfl
  · intro W base args ds ps hsh hlaid hval0 hA0 hwt0
    have hval : ∀ (j : Nat) t v, Tryz.f8.params[j]? = some t → args[j]? = some v → Value.okWide Tryz.prog W .any base t v := hval0
    have hA : DataW.TrodAll enc Tryz.prog W 0 (fun _ => true) true Tryz.f8.params.toList args.toList ds ps := hA0
    have hwt : ∀ (j : Nat) t d, Tryz.f8.params.toList[j]? = some t → ds[j]? = some d → ∀ n ∈ d.weights Tryz.prog t, n ≤ reachBytes := hwt0
    clear hval0 hA0 hwt0
    rw [Tryz.params8] at hA hval hwt
    obtain ⟨v0, vs0, d0, ds0, p0, q0, hargs, rfl, rfl, h0, r0⟩ := trodAll_cons hA
    obtain ⟨v1, vs1, d1, ds1, p1, q1, rfl, rfl, rfl, h1, r1⟩ := trodAll_cons r0
    obtain ⟨rfl, rfl, rfl⟩ := trodAll_nil r1
    obtain rfl : args = #[v0, v1] := by cases args; simp_all
    obtain ⟨x0, e0, g0⟩ := open_arg op25 h0 (hwt 0 25 d0 rfl rfl)
    have a0 := arg_slice Tryz.underlying25 (hval 0 25 v0 rfl rfl) e0
    obtain ⟨x1, e1, g1⟩ := open_arg op46 h1 (hwt 1 46 d1 rfl rfl)
    have a1 := arg_slice Tryz.underlying46 (hval 1 46 v1 rfl rfl) e1
    obtain ⟨te, pe, hg1, hg3⟩ := g13 hsh hlaid
    exact calls_of_con (spoils_con v0 v1 x0 x1 te pe (by omega) (by omega)) (List.forall_mem_cons.2 ⟨a0, List.forall_mem_cons.2 ⟨a1, List.forall_mem_cons.2 ⟨hg1, List.forall_mem_cons.2 ⟨hg3, fun _ h => by cases h⟩⟩⟩⟩)
theorem codeSpoils_row : Rows.CodeSpoilsSaid :=
  OpenClaim.holds_of_wide 8 Tryz.f8 rfl rfl rfl rfl rfl rfl rfl ⟨rfl, rfl, rfl, rfl, rfl⟩ rfl rfl rfl rfl rfl (by kernel_rfl) Tryz.func8 (by kernel_rfl)
    (of_decide_eq_true (by kernel_rfl)) (by unfold Func.isWrapper; first | (rw [if_pos (by decide +kernel)]; kernel_rfl) | (rw [if_neg (by decide +kernel)]; exact ⟨rfl, rfl⟩))
    (fun os started H enc _ => codeSpoils_lifted os started H enc)
/-- CodeSpoils: for every input it returns true, and its arguments read behind the call as before; the listed variables tied to the program's text. -/
theorem codeSpoils_card : Rows.CodeSpoilsCardSaid :=
  Claim7.holds_tied_plain_at .later [] [.data, .data, .data, .data, .sentinel, .sentinel, .pinned] true (true, "6d03a9e2d4cfed1b2d9285196519f58a923d9b52a2270e802c816d31694e04cb") true
    codeSpoils_row (fun _ h => by cases h) (by kernel_rfl) (fun _ h => by cases h) codeSpoils_row_tie rfl ⟨rfl, rfl⟩ (by kernel_rfl) rfl
    (fun f fn hf hfn => by
      obtain rfl : f = 8 := Option.some.inj ((show Tryz.prog.funcNamed Tryz.f8.name = some 8 by kernel_rfl).symm.trans hf) |>.symm
      obtain rfl : fn = Tryz.f8 := (Option.some.inj (Tryz.func8.symm.trans hfn)).symm
      exact ⟨by kernel_rfl, fun j t ht => by
        rw [Tryz.params8] at ht
        have hm : t ∈ [25, 46] := by simpa using Array.mem_of_getElem? ht
        have hall : ([25, 46].all fun u => !Tryz.prog.wantsStandIn u) = true := by kernel_rfl
        exact (show Tryz.prog.wantsStandIn t = false by simpa using List.all_eq_true.1 hall t hm)⟩)
    (by kernel_rfl)
#print axioms codeSpoils_card
end Go.Proofs.YtmgkeippepeggaaGreatDoor

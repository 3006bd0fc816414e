/- The texts H5, E6, H6, H7, H8, E7, H9, one behind the other. -/
import Derived.Test.YtlfehnnmpkohkaaGreatDoorYA4
set_option linter.unusedVariables false
set_option linter.unusedSimpArgs false
/- Chapter 16: req.Right. -/
namespace Go.Proofs.YtlfehnnmpkohkaaGreatDoor
open Go Go.SL Go.Lib
/-- Sizes at which a request is looked at. -/
structure FineQ (q : Rq9) : Prop where
  name : q.2.2.2.1.size ≤ 1000000
  note : q.2.2.2.2.1.size ≤ 1000000
  deps : q.2.2.2.2.2.1.length ≤ 1000000
  files : q.2.2.2.2.2.2.1.length ≤ 1000000 ∧ ∀ s ∈ q.2.2.2.2.2.2.1, s.size ≤ 1000000
  prims : q.2.2.2.2.2.2.2.length ≤ 1000000 ∧ ∀ p ∈ q.2.2.2.2.2.2.2, SizeP p
theorem FineQ.size {q : Rq9} (h : FineQ q) : SizeQ q := ⟨h.deps, h.files.1, h.prims.1, fun p hp => ⟨(h.prims.2 p hp).2.2.1.1, (h.prims.2 p hp).2.2.2.1⟩⟩
theorem zeroQ_size (k : Int) : SizeQ (zeroQ k) := ⟨Nat.zero_le _, Nat.zero_le _, Nat.zero_le _, fun _ h => by cases h⟩
attribute [local irreducible] Cfg Kont StepK Val Con Qops Any Sl Own Blk BlkR Rd Pu ExA AllA Has Pick Ent Elem Beside Callable TI Lone OwnO AndA
set_option maxRecDepth 100000 in
theorem right0_con (q : Rq9) (d f l : Value) (hk : q.1 = 0) (hq : FineQ q) : Con Tryz.prog 12 [.agg #[.int .i64 q.1, .int .i64 q.2.1, .int .i64 q.2.2.1, .string q.2.2.2.1, .string q.2.2.2.2.1, d, f, l]] [Sl (eInt .i64) d q.2.2.2.2.2.1, Sl eStr f q.2.2.2.2.2.2.1, Sl ePr l q.2.2.2.2.2.2.2] (γ := Unit) (fun _ => .bool (decide (RightQ q))) (fun _ => True) (fun _ => []) := by
  have hlk : ∀ b1 b2, Go.SL.look (kindsM b1 b2) q.1 = some (.agg #[fnV 87, fnV 89]) := fun b1 b2 => by rw [hk]; exact look0 b1 b2
  have hT := tChange_con q d f l hq.prims
  have hR := rChange_con q d f l
  have hi := right_iff0 hk
  have hS := sameReq_con (q.1, 0, q.2.2.1, q.2.2.2.1, q.2.2.2.2.1, q.2.2.2.2.2.1, q.2.2.2.2.2.2.1, []) (zeroQ q.1) (d) (f) (.slice none 0 0) (.slice none 0 0) (.slice none 0 0) (.slice none 0 0) ⟨hq.size.1, hq.size.2.1, ⟨Nat.zero_le _, fun _ h => by cases h⟩⟩ (zeroQ_size _)
  dsimp only at hS
  refine con_of Tryz.func12 rfl (dd rfl) fun w0 O0 => ?_
  refine c_seq (c_region ?_)
  refine o_step (s_box rfl (dd rfl) (fun b1 => ?_))
  refine oV vA ?_
  refine o_nil (c_seq ?_)
  refine c_joinR (γ := Nat × Nat × Nat × Nat) [(1, _), (2, _)] (fun _ => True) (fun g => [(3, ptr g.1), (4, .bool true)]) (fun g => [Blk g.1 77 [fnV 87, fnV 89], Blk b1 32 [.int .i64 q.1, .int .i64 q.2.1, .int .i64 q.2.2.1, .string q.2.2.2.1, .string q.2.2.2.2.1, d, f, l], Sl (eInt .i64) d q.2.2.2.2.2.1, Sl eStr f q.2.2.2.2.2.2.1, Sl ePr l q.2.2.2.2.2.2.2, Blk g.2.2.1 75 [fnV 81], Blk g.2.2.2 75 [fnV 82]]) (by repeat (first | exact trivial | refine ⟨rfl, ?_⟩)) ?_ ?_
  rotate_left
  · intro MEET
    skip
    refine c_held [BlkR b1 32 [.int .i64 q.1, .int .i64 q.2.1, .int .i64 q.2.2.1, .string q.2.2.2.1, .string q.2.2.2.2.1, d, f, l], Sl (eInt .i64) d q.2.2.2.2.2.1, Sl eStr f q.2.2.2.2.2.2.1, Sl ePr l q.2.2.2.2.2.2.2] rfl ?_
    refine aT 1 rfl (vF 0 Tryz.underlying32 ti3) ?_
    refine aT 2 rfl (vL lone3) ?_
    refine a_two 0 7 rfl rfl (by kernel_rfl) ?_ ?_
    · skip
      refine s_callf cl39 (kinds_con) rfl (dd rfl) (pXs (by repeat constructor)) (fun g _ => aK ?_)
      refine a_two 3 7 rfl rfl (by kernel_rfl) ?_ ?_
      · skip
        refine s_val (v_lookupS kInt Tryz.underlying79 Tryz.underlying3 ti77 rfl rfl (hX (by repeat constructor)) (hlk g.2.1 g.2.2)) (dd rfl) (aK ?_)
        refine aT 4 rfl vM ?_
        refine aT 5 rfl vE ?_
        refine aT 6 rfl vE ?_
        refine aO 7 rfl (s_alloc ti77 (dd rfl) (fun b3 => aK ?_))
        refine aS 8 rfl ti77 ?_
        refine aT 9 rfl vA ?_
        refine a_done (by kernel_rfl) ?_ _
        refine cU (MEET ((b3, g)) (trivial))
      · skip
        refine s_alloc ti77 (dd rfl) (fun b3 => aK ?_)
        refine aO 3 rfl (s_val (v_lookupS kInt Tryz.underlying79 Tryz.underlying3 ti77 rfl rfl (hX (by repeat constructor)) (hlk g.2.1 g.2.2)) (dd rfl) (aK ?_))
        refine aT 4 rfl vM ?_
        refine aT 5 rfl vE ?_
        refine aT 6 rfl vE ?_
        refine aS 8 rfl ti77 ?_
        refine aT 9 rfl vA ?_
        refine a_done (by kernel_rfl) ?_ _
        refine cU (MEET ((b3, g)) (trivial))
    · skip
      refine s_alloc ti77 (dd rfl) (fun b3 => aK ?_)
      refine aO 0 rfl (s_callf cl39 (kinds_con) rfl (dd rfl) (pXs (by repeat constructor)) (fun g _ => aK ?_))
      refine aO 3 rfl (s_val (v_lookupS kInt Tryz.underlying79 Tryz.underlying3 ti77 rfl rfl (hX (by repeat constructor)) (hlk g.2.1 g.2.2)) (dd rfl) (aK ?_))
      refine aT 4 rfl vM ?_
      refine aT 5 rfl vE ?_
      refine aT 6 rfl vE ?_
      refine aS 8 rfl ti77 ?_
      refine aT 9 rfl vA ?_
      refine a_done (by kernel_rfl) ?_ _
      refine cU (MEET ((b3, g)) (trivial))
  rintro ⟨b3, bm, bn, bg⟩ -
  dsimp only [List.cons_append, List.nil_append]
  refine c_seq ?_
  refine c_held [BlkR b3 77 [fnV 87, fnV 89], BlkR b1 32 [.int .i64 q.1, .int .i64 q.2.1, .int .i64 q.2.2.1, .string q.2.2.2.1, .string q.2.2.2.2.1, d, f, l], Sl (eInt .i64) d q.2.2.2.2.2.1, Sl eStr f q.2.2.2.2.2.2.1, Sl ePr l q.2.2.2.2.2.2.2] rfl ?_
  refine aT 0 rfl vM ?_
  refine aT 1 rfl vM ?_
  refine aN 2 rfl (vF 0 Tryz.underlying77 ti29) ?_
  refine aN 3 rfl (vL lone29) ?_
  refine aN 4 rfl (vW Tryz.underlying32 ti32) ?_
  by_cases g1 : (decide (0 ≤ q.2.1) && decide (q.2.1 ≤ 1099511627776) && decide (1 ≤ q.2.2.2.2.2.2.2.length) && decide (q.2.2.2.2.2.2.2.length ≤ 24) && q.2.2.2.2.2.2.2.all rightP) = true
  · rw [g1] at hT
    refine aP 5 rfl (s_call_keep cl87 (hT) (first := []) (cap := []) rfl rfl rfl (dd rfl) (rX (by repeat constructor)) (fun _ => sX) (fun _ _ => aK ?_))
    refine aT 6 rfl vT ?_
    refine aT 7 rfl vM ?_
    refine a_know (s := 19) rfl (show _ = Value.bool true from rfl) ?_
    refine aN 8 rfl (vF 1 Tryz.underlying77 ti75) ?_
    refine aN 9 rfl (vL lone75) ?_
    refine aN 10 rfl (vW Tryz.underlying32 ti32) ?_
    refine aN 12 rfl (vF 0 Tryz.underlying32 ti3) ?_
    refine aN 13 rfl (vL lone3) ?_
    refine aN 14 rfl (v_buildS (places := [(0, 1), (1, 1), (2, 1), (3, 1), (4, 1), (5, 1), (6, 1), (7, 1)]) (cells := [_, .int .i64 0, .int .i64 0, .string ⟨#[]⟩, .string ⟨#[]⟩, .slice none 0 0, .slice none 0 0, .slice none 0 0]) Tryz.underlying32 ti32 (by kernel_rfl) rfl (by repeat (first | exact PartsC.nil | (apply PartsC.one (by first | exact OneC.lit rfl | exact OneC.sl (hX (by repeat constructor)) )) | (apply PartsC.lit rfl))) rfl) ?_
    refine aP 11 rfl (s_call_keep cl89 (hR) (first := []) (cap := []) rfl rfl rfl (dd rfl) (rX (by repeat constructor)) (fun _ => sX) (fun _ _ => aK ?_))
    refine aP 15 rfl (s_callf cl15 (hS) rfl (dd rfl) (pXs (by repeat constructor)) (fun _ _ => aK ?_))
    refine aT 16 rfl vT ?_
    refine aT 17 rfl vA ?_
    refine a_done (by kernel_rfl) ?_ _
    refine c_ret1 Tryz.func12 rfl rfl fun w O hS => ?_
    exact ⟨(), congrArg Value.bool (decide_eq_decide.2 (by rw [hi, g1]; simp)), trivial, trivial⟩
  · have g2 : (decide (0 ≤ q.2.1) && decide (q.2.1 ≤ 1099511627776) && decide (1 ≤ q.2.2.2.2.2.2.2.length) && decide (q.2.2.2.2.2.2.2.length ≤ 24) && q.2.2.2.2.2.2.2.all rightP) = false := Bool.eq_false_iff.2 g1
    rw [g2] at hT
    refine aP 5 rfl (s_call_keep cl87 (hT) (first := []) (cap := []) rfl rfl rfl (dd rfl) (rX (by repeat constructor)) (fun _ => sX) (fun _ _ => aK ?_))
    refine aT 6 rfl vT ?_
    refine aT 7 rfl vM ?_
    refine a_know (s := 19) rfl (show _ = Value.bool false from rfl) ?_
    refine aX 8 rfl ?_
    refine aX 9 rfl ?_
    refine aX 10 rfl ?_
    refine aX 11 rfl ?_
    refine aX 12 rfl ?_
    refine aX 13 rfl ?_
    refine aX 14 rfl ?_
    refine aX 15 rfl ?_
    refine aT 16 rfl vQ ?_
    refine aT 17 rfl vA ?_
    refine a_done (by kernel_rfl) ?_ _
    refine c_ret1 Tryz.func12 rfl rfl fun w O hS => ?_
    exact ⟨(), congrArg Value.bool (decide_eq_false (by rw [hi, g2]; simp)).symm, trivial, trivial⟩
set_option maxRecDepth 100000 in
theorem right1_con (q : Rq9) (d f l : Value) (hk : q.1 = 1) (hq : FineQ q) : Con Tryz.prog 12 [.agg #[.int .i64 q.1, .int .i64 q.2.1, .int .i64 q.2.2.1, .string q.2.2.2.1, .string q.2.2.2.2.1, d, f, l]] [Sl (eInt .i64) d q.2.2.2.2.2.1, Sl eStr f q.2.2.2.2.2.2.1, Sl ePr l q.2.2.2.2.2.2.2] (γ := Unit) (fun _ => .bool (decide (RightQ q))) (fun _ => True) (fun _ => []) := by
  have hlk : ∀ b1 b2, Go.SL.look (kindsM b1 b2) q.1 = some (.agg #[fnV 90, fnC 95 b2]) := fun b1 b2 => by rw [hk]; exact look1 b1 b2
  have hT := tRecord_con q d f l hq.deps hq.files.1 hq.files.2
  have hR := rRecord_con q d f l
  have hi := right_iff1 hk
  have hS := sameReq_con (q.1, q.2.1, 0, q.2.2.2.1, ⟨#[]⟩, [], [], q.2.2.2.2.2.2.2) (zeroQ q.1) (.slice none 0 0) (.slice none 0 0) (l) (.slice none 0 0) (.slice none 0 0) (.slice none 0 0) ⟨Nat.zero_le _, Nat.zero_le _, hq.size.2.2⟩ (zeroQ_size _)
  dsimp only at hS
  refine con_of Tryz.func12 rfl (dd rfl) fun w0 O0 => ?_
  refine c_seq (c_region ?_)
  refine o_step (s_box rfl (dd rfl) (fun b1 => ?_))
  refine oV vA ?_
  refine o_nil (c_seq ?_)
  refine c_joinR (γ := Nat × Nat × Nat × Nat) [(1, _), (2, _)] (fun _ => True) (fun g => [(3, ptr g.1), (4, .bool true)]) (fun g => [Blk g.1 77 [fnV 90, fnC 95 g.2.2.2], Blk b1 32 [.int .i64 q.1, .int .i64 q.2.1, .int .i64 q.2.2.1, .string q.2.2.2.1, .string q.2.2.2.2.1, d, f, l], Sl (eInt .i64) d q.2.2.2.2.2.1, Sl eStr f q.2.2.2.2.2.2.1, Sl ePr l q.2.2.2.2.2.2.2, Blk g.2.2.1 75 [fnV 81], Blk g.2.2.2 75 [fnV 82]]) (by repeat (first | exact trivial | refine ⟨rfl, ?_⟩)) ?_ ?_
  rotate_left
  · intro MEET
    skip
    refine c_held [BlkR b1 32 [.int .i64 q.1, .int .i64 q.2.1, .int .i64 q.2.2.1, .string q.2.2.2.1, .string q.2.2.2.2.1, d, f, l], Sl (eInt .i64) d q.2.2.2.2.2.1, Sl eStr f q.2.2.2.2.2.2.1, Sl ePr l q.2.2.2.2.2.2.2] rfl ?_
    refine aT 1 rfl (vF 0 Tryz.underlying32 ti3) ?_
    refine aT 2 rfl (vL lone3) ?_
    refine a_two 0 7 rfl rfl (by kernel_rfl) ?_ ?_
    · skip
      refine s_callf cl39 (kinds_con) rfl (dd rfl) (pXs (by repeat constructor)) (fun g _ => aK ?_)
      refine a_two 3 7 rfl rfl (by kernel_rfl) ?_ ?_
      · skip
        refine s_val (v_lookupS kInt Tryz.underlying79 Tryz.underlying3 ti77 rfl rfl (hX (by repeat constructor)) (hlk g.2.1 g.2.2)) (dd rfl) (aK ?_)
        refine aT 4 rfl vM ?_
        refine aT 5 rfl vE ?_
        refine aT 6 rfl vE ?_
        refine aO 7 rfl (s_alloc ti77 (dd rfl) (fun b3 => aK ?_))
        refine aS 8 rfl ti77 ?_
        refine aT 9 rfl vA ?_
        refine a_done (by kernel_rfl) ?_ _
        refine cU (MEET ((b3, g)) (trivial))
      · skip
        refine s_alloc ti77 (dd rfl) (fun b3 => aK ?_)
        refine aO 3 rfl (s_val (v_lookupS kInt Tryz.underlying79 Tryz.underlying3 ti77 rfl rfl (hX (by repeat constructor)) (hlk g.2.1 g.2.2)) (dd rfl) (aK ?_))
        refine aT 4 rfl vM ?_
        refine aT 5 rfl vE ?_
        refine aT 6 rfl vE ?_
        refine aS 8 rfl ti77 ?_
        refine aT 9 rfl vA ?_
        refine a_done (by kernel_rfl) ?_ _
        refine cU (MEET ((b3, g)) (trivial))
    · skip
      refine s_alloc ti77 (dd rfl) (fun b3 => aK ?_)
      refine aO 0 rfl (s_callf cl39 (kinds_con) rfl (dd rfl) (pXs (by repeat constructor)) (fun g _ => aK ?_))
      refine aO 3 rfl (s_val (v_lookupS kInt Tryz.underlying79 Tryz.underlying3 ti77 rfl rfl (hX (by repeat constructor)) (hlk g.2.1 g.2.2)) (dd rfl) (aK ?_))
      refine aT 4 rfl vM ?_
      refine aT 5 rfl vE ?_
      refine aT 6 rfl vE ?_
      refine aS 8 rfl ti77 ?_
      refine aT 9 rfl vA ?_
      refine a_done (by kernel_rfl) ?_ _
      refine cU (MEET ((b3, g)) (trivial))
  rintro ⟨b3, bm, bn, bg⟩ -
  dsimp only [List.cons_append, List.nil_append]
  refine c_seq ?_
  refine c_held [BlkR b3 77 [fnV 90, fnC 95 bg], BlkR b1 32 [.int .i64 q.1, .int .i64 q.2.1, .int .i64 q.2.2.1, .string q.2.2.2.1, .string q.2.2.2.2.1, d, f, l], Sl (eInt .i64) d q.2.2.2.2.2.1, Sl eStr f q.2.2.2.2.2.2.1, Sl ePr l q.2.2.2.2.2.2.2, BlkR bg 75 [fnV 82]] rfl ?_
  refine aT 0 rfl vM ?_
  refine aT 1 rfl vM ?_
  refine aN 2 rfl (vF 0 Tryz.underlying77 ti29) ?_
  refine aN 3 rfl (vL lone29) ?_
  refine aN 4 rfl (vW Tryz.underlying32 ti32) ?_
  by_cases g1 : (decide (1 ≤ q.2.2.1 ∧ q.2.2.1 ≤ 1000000000) && lineP q.2.2.2.2.1 && (decide (q.2.2.2.2.2.1.length ≤ 8) && depsP q.2.2.1 0 q.2.2.2.2.2.1) && (decide (q.2.2.2.2.2.2.1.length ≤ 8) && filesP ⟨#[]⟩ q.2.2.2.2.2.2.1)) = true
  · rw [g1] at hT
    refine aP 5 rfl (s_call_keep cl90 (hT) (first := []) (cap := []) rfl rfl rfl (dd rfl) (rX (by repeat constructor)) (fun _ => sX) (fun _ _ => aK ?_))
    refine aT 6 rfl vT ?_
    refine aT 7 rfl vM ?_
    refine a_know (s := 19) rfl (show _ = Value.bool true from rfl) ?_
    refine aN 8 rfl (vF 1 Tryz.underlying77 ti75) ?_
    refine aN 9 rfl (vL lone75) ?_
    refine aN 10 rfl (vW Tryz.underlying32 ti32) ?_
    refine aN 12 rfl (vF 0 Tryz.underlying32 ti3) ?_
    refine aN 13 rfl (vL lone3) ?_
    refine aN 14 rfl (v_buildS (places := [(0, 1), (1, 1), (2, 1), (3, 1), (4, 1), (5, 1), (6, 1), (7, 1)]) (cells := [_, .int .i64 0, .int .i64 0, .string ⟨#[]⟩, .string ⟨#[]⟩, .slice none 0 0, .slice none 0 0, .slice none 0 0]) Tryz.underlying32 ti32 (by kernel_rfl) rfl (by repeat (first | exact PartsC.nil | (apply PartsC.one (by first | exact OneC.lit rfl | exact OneC.sl (hX (by repeat constructor)) )) | (apply PartsC.lit rfl))) rfl) ?_
    refine aP 11 rfl (s_call_keep cl95 (hR bg) (first := []) (cap := [ptr1 bg]) rfl rfl rfl (dd rfl) (rX (by repeat constructor)) (fun _ => sX) (fun _ _ => aK ?_))
    refine aP 15 rfl (s_callf cl15 (hS) rfl (dd rfl) (pXs (by repeat constructor)) (fun _ _ => aK ?_))
    refine aT 16 rfl vT ?_
    refine aT 17 rfl vA ?_
    refine a_done (by kernel_rfl) ?_ _
    refine c_ret1 Tryz.func12 rfl rfl fun w O hS => ?_
    exact ⟨(), congrArg Value.bool (decide_eq_decide.2 (by rw [hi, g1]; simp)), trivial, trivial⟩
  · have g2 : (decide (1 ≤ q.2.2.1 ∧ q.2.2.1 ≤ 1000000000) && lineP q.2.2.2.2.1 && (decide (q.2.2.2.2.2.1.length ≤ 8) && depsP q.2.2.1 0 q.2.2.2.2.2.1) && (decide (q.2.2.2.2.2.2.1.length ≤ 8) && filesP ⟨#[]⟩ q.2.2.2.2.2.2.1)) = false := Bool.eq_false_iff.2 g1
    rw [g2] at hT
    refine aP 5 rfl (s_call_keep cl90 (hT) (first := []) (cap := []) rfl rfl rfl (dd rfl) (rX (by repeat constructor)) (fun _ => sX) (fun _ _ => aK ?_))
    refine aT 6 rfl vT ?_
    refine aT 7 rfl vM ?_
    refine a_know (s := 19) rfl (show _ = Value.bool false from rfl) ?_
    refine aX 8 rfl ?_
    refine aX 9 rfl ?_
    refine aX 10 rfl ?_
    refine aX 11 rfl ?_
    refine aX 12 rfl ?_
    refine aX 13 rfl ?_
    refine aX 14 rfl ?_
    refine aX 15 rfl ?_
    refine aT 16 rfl vQ ?_
    refine aT 17 rfl vA ?_
    refine a_done (by kernel_rfl) ?_ _
    refine c_ret1 Tryz.func12 rfl rfl fun w O hS => ?_
    exact ⟨(), congrArg Value.bool (decide_eq_false (by rw [hi, g2]; simp)).symm, trivial, trivial⟩
set_option maxRecDepth 100000 in
theorem right2_con (q : Rq9) (d f l : Value) (hk : q.1 = 2) (hq : FineQ q) : Con Tryz.prog 12 [.agg #[.int .i64 q.1, .int .i64 q.2.1, .int .i64 q.2.2.1, .string q.2.2.2.1, .string q.2.2.2.2.1, d, f, l]] [Sl (eInt .i64) d q.2.2.2.2.2.1, Sl eStr f q.2.2.2.2.2.2.1, Sl ePr l q.2.2.2.2.2.2.2] (γ := Unit) (fun _ => .bool (decide (RightQ q))) (fun _ => True) (fun _ => []) := by
  have hlk : ∀ b1 b2, Go.SL.look (kindsM b1 b2) q.1 = some (.agg #[fnV 96, fnV 82]) := fun b1 b2 => by rw [hk]; exact look2 b1 b2
  have hT := tAmend_con q d f l hq.files.1 hq.files.2
  have hR := rGroup_con q d f l
  have hi := right_iff2 hk
  have hS := sameReq_con (q.1, q.2.1, 0, q.2.2.2.1, q.2.2.2.2.1, q.2.2.2.2.2.1, [], q.2.2.2.2.2.2.2) (zeroQ q.1) (d) (.slice none 0 0) (l) (.slice none 0 0) (.slice none 0 0) (.slice none 0 0) ⟨hq.size.1, Nat.zero_le _, hq.size.2.2⟩ (zeroQ_size _)
  dsimp only at hS
  refine con_of Tryz.func12 rfl (dd rfl) fun w0 O0 => ?_
  refine c_seq (c_region ?_)
  refine o_step (s_box rfl (dd rfl) (fun b1 => ?_))
  refine oV vA ?_
  refine o_nil (c_seq ?_)
  refine c_joinR (γ := Nat × Nat × Nat × Nat) [(1, _), (2, _)] (fun _ => True) (fun g => [(3, ptr g.1), (4, .bool true)]) (fun g => [Blk g.1 77 [fnV 96, fnV 82], Blk b1 32 [.int .i64 q.1, .int .i64 q.2.1, .int .i64 q.2.2.1, .string q.2.2.2.1, .string q.2.2.2.2.1, d, f, l], Sl (eInt .i64) d q.2.2.2.2.2.1, Sl eStr f q.2.2.2.2.2.2.1, Sl ePr l q.2.2.2.2.2.2.2, Blk g.2.2.1 75 [fnV 81], Blk g.2.2.2 75 [fnV 82]]) (by repeat (first | exact trivial | refine ⟨rfl, ?_⟩)) ?_ ?_
  rotate_left
  · intro MEET
    skip
    refine c_held [BlkR b1 32 [.int .i64 q.1, .int .i64 q.2.1, .int .i64 q.2.2.1, .string q.2.2.2.1, .string q.2.2.2.2.1, d, f, l], Sl (eInt .i64) d q.2.2.2.2.2.1, Sl eStr f q.2.2.2.2.2.2.1, Sl ePr l q.2.2.2.2.2.2.2] rfl ?_
    refine aT 1 rfl (vF 0 Tryz.underlying32 ti3) ?_
    refine aT 2 rfl (vL lone3) ?_
    refine a_two 0 7 rfl rfl (by kernel_rfl) ?_ ?_
    · skip
      refine s_callf cl39 (kinds_con) rfl (dd rfl) (pXs (by repeat constructor)) (fun g _ => aK ?_)
      refine a_two 3 7 rfl rfl (by kernel_rfl) ?_ ?_
      · skip
        refine s_val (v_lookupS kInt Tryz.underlying79 Tryz.underlying3 ti77 rfl rfl (hX (by repeat constructor)) (hlk g.2.1 g.2.2)) (dd rfl) (aK ?_)
        refine aT 4 rfl vM ?_
        refine aT 5 rfl vE ?_
        refine aT 6 rfl vE ?_
        refine aO 7 rfl (s_alloc ti77 (dd rfl) (fun b3 => aK ?_))
        refine aS 8 rfl ti77 ?_
        refine aT 9 rfl vA ?_
        refine a_done (by kernel_rfl) ?_ _
        refine cU (MEET ((b3, g)) (trivial))
      · skip
        refine s_alloc ti77 (dd rfl) (fun b3 => aK ?_)
        refine aO 3 rfl (s_val (v_lookupS kInt Tryz.underlying79 Tryz.underlying3 ti77 rfl rfl (hX (by repeat constructor)) (hlk g.2.1 g.2.2)) (dd rfl) (aK ?_))
        refine aT 4 rfl vM ?_
        refine aT 5 rfl vE ?_
        refine aT 6 rfl vE ?_
        refine aS 8 rfl ti77 ?_
        refine aT 9 rfl vA ?_
        refine a_done (by kernel_rfl) ?_ _
        refine cU (MEET ((b3, g)) (trivial))
    · skip
      refine s_alloc ti77 (dd rfl) (fun b3 => aK ?_)
      refine aO 0 rfl (s_callf cl39 (kinds_con) rfl (dd rfl) (pXs (by repeat constructor)) (fun g _ => aK ?_))
      refine aO 3 rfl (s_val (v_lookupS kInt Tryz.underlying79 Tryz.underlying3 ti77 rfl rfl (hX (by repeat constructor)) (hlk g.2.1 g.2.2)) (dd rfl) (aK ?_))
      refine aT 4 rfl vM ?_
      refine aT 5 rfl vE ?_
      refine aT 6 rfl vE ?_
      refine aS 8 rfl ti77 ?_
      refine aT 9 rfl vA ?_
      refine a_done (by kernel_rfl) ?_ _
      refine cU (MEET ((b3, g)) (trivial))
  rintro ⟨b3, bm, bn, bg⟩ -
  dsimp only [List.cons_append, List.nil_append]
  refine c_seq ?_
  refine c_held [BlkR b3 77 [fnV 96, fnV 82], BlkR b1 32 [.int .i64 q.1, .int .i64 q.2.1, .int .i64 q.2.2.1, .string q.2.2.2.1, .string q.2.2.2.2.1, d, f, l], Sl (eInt .i64) d q.2.2.2.2.2.1, Sl eStr f q.2.2.2.2.2.2.1, Sl ePr l q.2.2.2.2.2.2.2] rfl ?_
  refine aT 0 rfl vM ?_
  refine aT 1 rfl vM ?_
  refine aN 2 rfl (vF 0 Tryz.underlying77 ti29) ?_
  refine aN 3 rfl (vL lone29) ?_
  refine aN 4 rfl (vW Tryz.underlying32 ti32) ?_
  by_cases g1 : (decide (1 ≤ q.2.2.1 ∧ q.2.2.1 ≤ 1000000000) && (decide (q.2.2.2.2.2.2.1.length ≤ 8) && filesP ⟨#[]⟩ q.2.2.2.2.2.2.1)) = true
  · rw [g1] at hT
    refine aP 5 rfl (s_call_keep cl96 (hT) (first := []) (cap := []) rfl rfl rfl (dd rfl) (rX (by repeat constructor)) (fun _ => sX) (fun _ _ => aK ?_))
    refine aT 6 rfl vT ?_
    refine aT 7 rfl vM ?_
    refine a_know (s := 19) rfl (show _ = Value.bool true from rfl) ?_
    refine aN 8 rfl (vF 1 Tryz.underlying77 ti75) ?_
    refine aN 9 rfl (vL lone75) ?_
    refine aN 10 rfl (vW Tryz.underlying32 ti32) ?_
    refine aN 12 rfl (vF 0 Tryz.underlying32 ti3) ?_
    refine aN 13 rfl (vL lone3) ?_
    refine aN 14 rfl (v_buildS (places := [(0, 1), (1, 1), (2, 1), (3, 1), (4, 1), (5, 1), (6, 1), (7, 1)]) (cells := [_, .int .i64 0, .int .i64 0, .string ⟨#[]⟩, .string ⟨#[]⟩, .slice none 0 0, .slice none 0 0, .slice none 0 0]) Tryz.underlying32 ti32 (by kernel_rfl) rfl (by repeat (first | exact PartsC.nil | (apply PartsC.one (by first | exact OneC.lit rfl | exact OneC.sl (hX (by repeat constructor)) )) | (apply PartsC.lit rfl))) rfl) ?_
    refine aP 11 rfl (s_call_keep cl82 (hR) (first := []) (cap := []) rfl rfl rfl (dd rfl) (rX (by repeat constructor)) (fun _ => sX) (fun _ _ => aK ?_))
    refine aP 15 rfl (s_callf cl15 (hS) rfl (dd rfl) (pXs (by repeat constructor)) (fun _ _ => aK ?_))
    refine aT 16 rfl vT ?_
    refine aT 17 rfl vA ?_
    refine a_done (by kernel_rfl) ?_ _
    refine c_ret1 Tryz.func12 rfl rfl fun w O hS => ?_
    exact ⟨(), congrArg Value.bool (decide_eq_decide.2 (by rw [hi, g1]; simp)), trivial, trivial⟩
  · have g2 : (decide (1 ≤ q.2.2.1 ∧ q.2.2.1 ≤ 1000000000) && (decide (q.2.2.2.2.2.2.1.length ≤ 8) && filesP ⟨#[]⟩ q.2.2.2.2.2.2.1)) = false := Bool.eq_false_iff.2 g1
    rw [g2] at hT
    refine aP 5 rfl (s_call_keep cl96 (hT) (first := []) (cap := []) rfl rfl rfl (dd rfl) (rX (by repeat constructor)) (fun _ => sX) (fun _ _ => aK ?_))
    refine aT 6 rfl vT ?_
    refine aT 7 rfl vM ?_
    refine a_know (s := 19) rfl (show _ = Value.bool false from rfl) ?_
    refine aX 8 rfl ?_
    refine aX 9 rfl ?_
    refine aX 10 rfl ?_
    refine aX 11 rfl ?_
    refine aX 12 rfl ?_
    refine aX 13 rfl ?_
    refine aX 14 rfl ?_
    refine aX 15 rfl ?_
    refine aT 16 rfl vQ ?_
    refine aT 17 rfl vA ?_
    refine a_done (by kernel_rfl) ?_ _
    refine c_ret1 Tryz.func12 rfl rfl fun w O hS => ?_
    exact ⟨(), congrArg Value.bool (decide_eq_false (by rw [hi, g2]; simp)).symm, trivial, trivial⟩
set_option maxRecDepth 100000 in
theorem right3_con (q : Rq9) (d f l : Value) (hk : q.1 = 3) (hq : FineQ q) : Con Tryz.prog 12 [.agg #[.int .i64 q.1, .int .i64 q.2.1, .int .i64 q.2.2.1, .string q.2.2.2.1, .string q.2.2.2.2.1, d, f, l]] [Sl (eInt .i64) d q.2.2.2.2.2.1, Sl eStr f q.2.2.2.2.2.2.1, Sl ePr l q.2.2.2.2.2.2.2] (γ := Unit) (fun _ => .bool (decide (RightQ q))) (fun _ => True) (fun _ => []) := by
  have hlk : ∀ b1 b2, Go.SL.look (kindsM b1 b2) q.1 = some (.agg #[fnV 91, fnV 97]) := fun b1 b2 => by rw [hk]; exact look3 b1 b2
  have hT := id_con (.int .i64 q.1) (.int .i64 q.2.1) (.string q.2.2.2.1) (.string q.2.2.2.2.1) d f l q.2.2.1
  have hR := rUnrecord_con q d f l
  have hi := right_iff3 hk
  have hS := sameReq_con (q.1, q.2.1, 0, q.2.2.2.1, q.2.2.2.2.1, q.2.2.2.2.2.1, q.2.2.2.2.2.2.1, q.2.2.2.2.2.2.2) (zeroQ q.1) (d) (f) (l) (.slice none 0 0) (.slice none 0 0) (.slice none 0 0) ⟨hq.size.1, hq.size.2.1, hq.size.2.2⟩ (zeroQ_size _)
  dsimp only at hS
  refine con_of Tryz.func12 rfl (dd rfl) fun w0 O0 => ?_
  refine c_seq (c_region ?_)
  refine o_step (s_box rfl (dd rfl) (fun b1 => ?_))
  refine oV vA ?_
  refine o_nil (c_seq ?_)
  refine c_joinR (γ := Nat × Nat × Nat × Nat) [(1, _), (2, _)] (fun _ => True) (fun g => [(3, ptr g.1), (4, .bool true)]) (fun g => [Blk g.1 77 [fnV 91, fnV 97], Blk b1 32 [.int .i64 q.1, .int .i64 q.2.1, .int .i64 q.2.2.1, .string q.2.2.2.1, .string q.2.2.2.2.1, d, f, l], Sl (eInt .i64) d q.2.2.2.2.2.1, Sl eStr f q.2.2.2.2.2.2.1, Sl ePr l q.2.2.2.2.2.2.2, Blk g.2.2.1 75 [fnV 81], Blk g.2.2.2 75 [fnV 82]]) (by repeat (first | exact trivial | refine ⟨rfl, ?_⟩)) ?_ ?_
  rotate_left
  · intro MEET
    skip
    refine c_held [BlkR b1 32 [.int .i64 q.1, .int .i64 q.2.1, .int .i64 q.2.2.1, .string q.2.2.2.1, .string q.2.2.2.2.1, d, f, l], Sl (eInt .i64) d q.2.2.2.2.2.1, Sl eStr f q.2.2.2.2.2.2.1, Sl ePr l q.2.2.2.2.2.2.2] rfl ?_
    refine aT 1 rfl (vF 0 Tryz.underlying32 ti3) ?_
    refine aT 2 rfl (vL lone3) ?_
    refine a_two 0 7 rfl rfl (by kernel_rfl) ?_ ?_
    · skip
      refine s_callf cl39 (kinds_con) rfl (dd rfl) (pXs (by repeat constructor)) (fun g _ => aK ?_)
      refine a_two 3 7 rfl rfl (by kernel_rfl) ?_ ?_
      · skip
        refine s_val (v_lookupS kInt Tryz.underlying79 Tryz.underlying3 ti77 rfl rfl (hX (by repeat constructor)) (hlk g.2.1 g.2.2)) (dd rfl) (aK ?_)
        refine aT 4 rfl vM ?_
        refine aT 5 rfl vE ?_
        refine aT 6 rfl vE ?_
        refine aO 7 rfl (s_alloc ti77 (dd rfl) (fun b3 => aK ?_))
        refine aS 8 rfl ti77 ?_
        refine aT 9 rfl vA ?_
        refine a_done (by kernel_rfl) ?_ _
        refine cU (MEET ((b3, g)) (trivial))
      · skip
        refine s_alloc ti77 (dd rfl) (fun b3 => aK ?_)
        refine aO 3 rfl (s_val (v_lookupS kInt Tryz.underlying79 Tryz.underlying3 ti77 rfl rfl (hX (by repeat constructor)) (hlk g.2.1 g.2.2)) (dd rfl) (aK ?_))
        refine aT 4 rfl vM ?_
        refine aT 5 rfl vE ?_
        refine aT 6 rfl vE ?_
        refine aS 8 rfl ti77 ?_
        refine aT 9 rfl vA ?_
        refine a_done (by kernel_rfl) ?_ _
        refine cU (MEET ((b3, g)) (trivial))
    · skip
      refine s_alloc ti77 (dd rfl) (fun b3 => aK ?_)
      refine aO 0 rfl (s_callf cl39 (kinds_con) rfl (dd rfl) (pXs (by repeat constructor)) (fun g _ => aK ?_))
      refine aO 3 rfl (s_val (v_lookupS kInt Tryz.underlying79 Tryz.underlying3 ti77 rfl rfl (hX (by repeat constructor)) (hlk g.2.1 g.2.2)) (dd rfl) (aK ?_))
      refine aT 4 rfl vM ?_
      refine aT 5 rfl vE ?_
      refine aT 6 rfl vE ?_
      refine aS 8 rfl ti77 ?_
      refine aT 9 rfl vA ?_
      refine a_done (by kernel_rfl) ?_ _
      refine cU (MEET ((b3, g)) (trivial))
  rintro ⟨b3, bm, bn, bg⟩ -
  dsimp only [List.cons_append, List.nil_append]
  refine c_seq ?_
  refine c_held [BlkR b3 77 [fnV 91, fnV 97], BlkR b1 32 [.int .i64 q.1, .int .i64 q.2.1, .int .i64 q.2.2.1, .string q.2.2.2.1, .string q.2.2.2.2.1, d, f, l], Sl (eInt .i64) d q.2.2.2.2.2.1, Sl eStr f q.2.2.2.2.2.2.1, Sl ePr l q.2.2.2.2.2.2.2] rfl ?_
  refine aT 0 rfl vM ?_
  refine aT 1 rfl vM ?_
  refine aN 2 rfl (vF 0 Tryz.underlying77 ti29) ?_
  refine aN 3 rfl (vL lone29) ?_
  refine aN 4 rfl (vW Tryz.underlying32 ti32) ?_
  by_cases g1 : (decide (1 ≤ q.2.2.1 ∧ q.2.2.1 ≤ 1000000000)) = true
  · rw [g1] at hT
    refine aP 5 rfl (s_call_keep cl91 (hT) (first := []) (cap := []) rfl rfl rfl (dd rfl) (rX (by repeat constructor)) (fun _ => sX) (fun _ _ => aK ?_))
    refine aT 6 rfl vT ?_
    refine aT 7 rfl vM ?_
    refine a_know (s := 19) rfl (show _ = Value.bool true from rfl) ?_
    refine aN 8 rfl (vF 1 Tryz.underlying77 ti75) ?_
    refine aN 9 rfl (vL lone75) ?_
    refine aN 10 rfl (vW Tryz.underlying32 ti32) ?_
    refine aN 12 rfl (vF 0 Tryz.underlying32 ti3) ?_
    refine aN 13 rfl (vL lone3) ?_
    refine aN 14 rfl (v_buildS (places := [(0, 1), (1, 1), (2, 1), (3, 1), (4, 1), (5, 1), (6, 1), (7, 1)]) (cells := [_, .int .i64 0, .int .i64 0, .string ⟨#[]⟩, .string ⟨#[]⟩, .slice none 0 0, .slice none 0 0, .slice none 0 0]) Tryz.underlying32 ti32 (by kernel_rfl) rfl (by repeat (first | exact PartsC.nil | (apply PartsC.one (by first | exact OneC.lit rfl | exact OneC.sl (hX (by repeat constructor)) )) | (apply PartsC.lit rfl))) rfl) ?_
    refine aP 11 rfl (s_call_keep cl97 (hR) (first := []) (cap := []) rfl rfl rfl (dd rfl) (rX (by repeat constructor)) (fun _ => sX) (fun _ _ => aK ?_))
    refine aP 15 rfl (s_callf cl15 (hS) rfl (dd rfl) (pXs (by repeat constructor)) (fun _ _ => aK ?_))
    refine aT 16 rfl vT ?_
    refine aT 17 rfl vA ?_
    refine a_done (by kernel_rfl) ?_ _
    refine c_ret1 Tryz.func12 rfl rfl fun w O hS => ?_
    exact ⟨(), congrArg Value.bool (decide_eq_decide.2 (by rw [hi, g1]; simp)), trivial, trivial⟩
  · have g2 : (decide (1 ≤ q.2.2.1 ∧ q.2.2.1 ≤ 1000000000)) = false := Bool.eq_false_iff.2 g1
    rw [g2] at hT
    refine aP 5 rfl (s_call_keep cl91 (hT) (first := []) (cap := []) rfl rfl rfl (dd rfl) (rX (by repeat constructor)) (fun _ => sX) (fun _ _ => aK ?_))
    refine aT 6 rfl vT ?_
    refine aT 7 rfl vM ?_
    refine a_know (s := 19) rfl (show _ = Value.bool false from rfl) ?_
    refine aX 8 rfl ?_
    refine aX 9 rfl ?_
    refine aX 10 rfl ?_
    refine aX 11 rfl ?_
    refine aX 12 rfl ?_
    refine aX 13 rfl ?_
    refine aX 14 rfl ?_
    refine aX 15 rfl ?_
    refine aT 16 rfl vQ ?_
    refine aT 17 rfl vA ?_
    refine a_done (by kernel_rfl) ?_ _
    refine c_ret1 Tryz.func12 rfl rfl fun w O hS => ?_
    exact ⟨(), congrArg Value.bool (decide_eq_false (by rw [hi, g2]; simp)).symm, trivial, trivial⟩
set_option maxRecDepth 100000 in
theorem right4_con (q : Rq9) (d f l : Value) (hk : q.1 = 4) (hq : FineQ q) : Con Tryz.prog 12 [.agg #[.int .i64 q.1, .int .i64 q.2.1, .int .i64 q.2.2.1, .string q.2.2.2.1, .string q.2.2.2.2.1, d, f, l]] [Sl (eInt .i64) d q.2.2.2.2.2.1, Sl eStr f q.2.2.2.2.2.2.1, Sl ePr l q.2.2.2.2.2.2.2] (γ := Unit) (fun _ => .bool (decide (RightQ q))) (fun _ => True) (fun _ => []) := by
  have hlk : ∀ b1 b2, Go.SL.look (kindsM b1 b2) q.1 = some (.agg #[fnV 94, fnV 98]) := fun b1 b2 => by rw [hk]; exact look4 b1 b2
  have hT := files_con (.int .i64 q.1) (.int .i64 q.2.1) (.int .i64 q.2.2.1) (.string q.2.2.2.1) (.string q.2.2.2.2.1) d f l q.2.2.2.2.2.2.1 hq.files.1 hq.files.2
  have hR := rRevert_con q d f l
  have hi := right_iff4 hk
  have hS := sameReq_con (q.1, q.2.1, q.2.2.1, q.2.2.2.1, q.2.2.2.2.1, q.2.2.2.2.2.1, [], q.2.2.2.2.2.2.2) (zeroQ q.1) (d) (.slice none 0 0) (l) (.slice none 0 0) (.slice none 0 0) (.slice none 0 0) ⟨hq.size.1, Nat.zero_le _, hq.size.2.2⟩ (zeroQ_size _)
  dsimp only at hS
  refine con_of Tryz.func12 rfl (dd rfl) fun w0 O0 => ?_
  refine c_seq (c_region ?_)
  refine o_step (s_box rfl (dd rfl) (fun b1 => ?_))
  refine oV vA ?_
  refine o_nil (c_seq ?_)
  refine c_joinR (γ := Nat × Nat × Nat × Nat) [(1, _), (2, _)] (fun _ => True) (fun g => [(3, ptr g.1), (4, .bool true)]) (fun g => [Blk g.1 77 [fnV 94, fnV 98], Blk b1 32 [.int .i64 q.1, .int .i64 q.2.1, .int .i64 q.2.2.1, .string q.2.2.2.1, .string q.2.2.2.2.1, d, f, l], Sl (eInt .i64) d q.2.2.2.2.2.1, Sl eStr f q.2.2.2.2.2.2.1, Sl ePr l q.2.2.2.2.2.2.2, Blk g.2.2.1 75 [fnV 81], Blk g.2.2.2 75 [fnV 82]]) (by repeat (first | exact trivial | refine ⟨rfl, ?_⟩)) ?_ ?_
  rotate_left
  · intro MEET
    skip
    refine c_held [BlkR b1 32 [.int .i64 q.1, .int .i64 q.2.1, .int .i64 q.2.2.1, .string q.2.2.2.1, .string q.2.2.2.2.1, d, f, l], Sl (eInt .i64) d q.2.2.2.2.2.1, Sl eStr f q.2.2.2.2.2.2.1, Sl ePr l q.2.2.2.2.2.2.2] rfl ?_
    refine aT 1 rfl (vF 0 Tryz.underlying32 ti3) ?_
    refine aT 2 rfl (vL lone3) ?_
    refine a_two 0 7 rfl rfl (by kernel_rfl) ?_ ?_
    · skip
      refine s_callf cl39 (kinds_con) rfl (dd rfl) (pXs (by repeat constructor)) (fun g _ => aK ?_)
      refine a_two 3 7 rfl rfl (by kernel_rfl) ?_ ?_
      · skip
        refine s_val (v_lookupS kInt Tryz.underlying79 Tryz.underlying3 ti77 rfl rfl (hX (by repeat constructor)) (hlk g.2.1 g.2.2)) (dd rfl) (aK ?_)
        refine aT 4 rfl vM ?_
        refine aT 5 rfl vE ?_
        refine aT 6 rfl vE ?_
        refine aO 7 rfl (s_alloc ti77 (dd rfl) (fun b3 => aK ?_))
        refine aS 8 rfl ti77 ?_
        refine aT 9 rfl vA ?_
        refine a_done (by kernel_rfl) ?_ _
        refine cU (MEET ((b3, g)) (trivial))
      · skip
        refine s_alloc ti77 (dd rfl) (fun b3 => aK ?_)
        refine aO 3 rfl (s_val (v_lookupS kInt Tryz.underlying79 Tryz.underlying3 ti77 rfl rfl (hX (by repeat constructor)) (hlk g.2.1 g.2.2)) (dd rfl) (aK ?_))
        refine aT 4 rfl vM ?_
        refine aT 5 rfl vE ?_
        refine aT 6 rfl vE ?_
        refine aS 8 rfl ti77 ?_
        refine aT 9 rfl vA ?_
        refine a_done (by kernel_rfl) ?_ _
        refine cU (MEET ((b3, g)) (trivial))
    · skip
      refine s_alloc ti77 (dd rfl) (fun b3 => aK ?_)
      refine aO 0 rfl (s_callf cl39 (kinds_con) rfl (dd rfl) (pXs (by repeat constructor)) (fun g _ => aK ?_))
      refine aO 3 rfl (s_val (v_lookupS kInt Tryz.underlying79 Tryz.underlying3 ti77 rfl rfl (hX (by repeat constructor)) (hlk g.2.1 g.2.2)) (dd rfl) (aK ?_))
      refine aT 4 rfl vM ?_
      refine aT 5 rfl vE ?_
      refine aT 6 rfl vE ?_
      refine aS 8 rfl ti77 ?_
      refine aT 9 rfl vA ?_
      refine a_done (by kernel_rfl) ?_ _
      refine cU (MEET ((b3, g)) (trivial))
  rintro ⟨b3, bm, bn, bg⟩ -
  dsimp only [List.cons_append, List.nil_append]
  refine c_seq ?_
  refine c_held [BlkR b3 77 [fnV 94, fnV 98], BlkR b1 32 [.int .i64 q.1, .int .i64 q.2.1, .int .i64 q.2.2.1, .string q.2.2.2.1, .string q.2.2.2.2.1, d, f, l], Sl (eInt .i64) d q.2.2.2.2.2.1, Sl eStr f q.2.2.2.2.2.2.1, Sl ePr l q.2.2.2.2.2.2.2] rfl ?_
  refine aT 0 rfl vM ?_
  refine aT 1 rfl vM ?_
  refine aN 2 rfl (vF 0 Tryz.underlying77 ti29) ?_
  refine aN 3 rfl (vL lone29) ?_
  refine aN 4 rfl (vW Tryz.underlying32 ti32) ?_
  by_cases g1 : (decide (q.2.2.2.2.2.2.1.length ≤ 8) && filesP ⟨#[]⟩ q.2.2.2.2.2.2.1) = true
  · rw [g1] at hT
    refine aP 5 rfl (s_call_keep cl94 (hT) (first := []) (cap := []) rfl rfl rfl (dd rfl) (rX (by repeat constructor)) (fun _ => sX) (fun _ _ => aK ?_))
    refine aT 6 rfl vT ?_
    refine aT 7 rfl vM ?_
    refine a_know (s := 19) rfl (show _ = Value.bool true from rfl) ?_
    refine aN 8 rfl (vF 1 Tryz.underlying77 ti75) ?_
    refine aN 9 rfl (vL lone75) ?_
    refine aN 10 rfl (vW Tryz.underlying32 ti32) ?_
    refine aN 12 rfl (vF 0 Tryz.underlying32 ti3) ?_
    refine aN 13 rfl (vL lone3) ?_
    refine aN 14 rfl (v_buildS (places := [(0, 1), (1, 1), (2, 1), (3, 1), (4, 1), (5, 1), (6, 1), (7, 1)]) (cells := [_, .int .i64 0, .int .i64 0, .string ⟨#[]⟩, .string ⟨#[]⟩, .slice none 0 0, .slice none 0 0, .slice none 0 0]) Tryz.underlying32 ti32 (by kernel_rfl) rfl (by repeat (first | exact PartsC.nil | (apply PartsC.one (by first | exact OneC.lit rfl | exact OneC.sl (hX (by repeat constructor)) )) | (apply PartsC.lit rfl))) rfl) ?_
    refine aP 11 rfl (s_call_keep cl98 (hR) (first := []) (cap := []) rfl rfl rfl (dd rfl) (rX (by repeat constructor)) (fun _ => sX) (fun _ _ => aK ?_))
    refine aP 15 rfl (s_callf cl15 (hS) rfl (dd rfl) (pXs (by repeat constructor)) (fun _ _ => aK ?_))
    refine aT 16 rfl vT ?_
    refine aT 17 rfl vA ?_
    refine a_done (by kernel_rfl) ?_ _
    refine c_ret1 Tryz.func12 rfl rfl fun w O hS => ?_
    exact ⟨(), congrArg Value.bool (decide_eq_decide.2 (by rw [hi, g1]; simp)), trivial, trivial⟩
  · have g2 : (decide (q.2.2.2.2.2.2.1.length ≤ 8) && filesP ⟨#[]⟩ q.2.2.2.2.2.2.1) = false := Bool.eq_false_iff.2 g1
    rw [g2] at hT
    refine aP 5 rfl (s_call_keep cl94 (hT) (first := []) (cap := []) rfl rfl rfl (dd rfl) (rX (by repeat constructor)) (fun _ => sX) (fun _ _ => aK ?_))
    refine aT 6 rfl vT ?_
    refine aT 7 rfl vM ?_
    refine a_know (s := 19) rfl (show _ = Value.bool false from rfl) ?_
    refine aX 8 rfl ?_
    refine aX 9 rfl ?_
    refine aX 10 rfl ?_
    refine aX 11 rfl ?_
    refine aX 12 rfl ?_
    refine aX 13 rfl ?_
    refine aX 14 rfl ?_
    refine aX 15 rfl ?_
    refine aT 16 rfl vQ ?_
    refine aT 17 rfl vA ?_
    refine a_done (by kernel_rfl) ?_ _
    refine c_ret1 Tryz.func12 rfl rfl fun w O hS => ?_
    exact ⟨(), congrArg Value.bool (decide_eq_false (by rw [hi, g2]; simp)).symm, trivial, trivial⟩
set_option maxRecDepth 100000 in
theorem right5_con (q : Rq9) (d f l : Value) (hk : q.1 = 5) (hq : FineQ q) : Con Tryz.prog 12 [.agg #[.int .i64 q.1, .int .i64 q.2.1, .int .i64 q.2.2.1, .string q.2.2.2.1, .string q.2.2.2.2.1, d, f, l]] [Sl (eInt .i64) d q.2.2.2.2.2.1, Sl eStr f q.2.2.2.2.2.2.1, Sl ePr l q.2.2.2.2.2.2.2] (γ := Unit) (fun _ => .bool (decide (RightQ q))) (fun _ => True) (fun _ => []) := by
  have hlk : ∀ b1 b2, Go.SL.look (kindsM b1 b2) q.1 = some (.agg #[fnV 99, fnC 100 b1]) := fun b1 b2 => by rw [hk]; exact look5 b1 b2
  have hT := tShelve_con q d f l hq.name hq.files.1 hq.files.2
  have hR := rShelve_con q d f l
  have hi := right_iff5 hk
  have hS := sameReq_con (q.1, q.2.1, q.2.2.1, ⟨#[]⟩, q.2.2.2.2.1, q.2.2.2.2.2.1, [], q.2.2.2.2.2.2.2) (zeroQ q.1) (d) (.slice none 0 0) (l) (.slice none 0 0) (.slice none 0 0) (.slice none 0 0) ⟨hq.size.1, Nat.zero_le _, hq.size.2.2⟩ (zeroQ_size _)
  dsimp only at hS
  refine con_of Tryz.func12 rfl (dd rfl) fun w0 O0 => ?_
  refine c_seq (c_region ?_)
  refine o_step (s_box rfl (dd rfl) (fun b1 => ?_))
  refine oV vA ?_
  refine o_nil (c_seq ?_)
  refine c_joinR (γ := Nat × Nat × Nat × Nat) [(1, _), (2, _)] (fun _ => True) (fun g => [(3, ptr g.1), (4, .bool true)]) (fun g => [Blk g.1 77 [fnV 99, fnC 100 g.2.2.1], Blk b1 32 [.int .i64 q.1, .int .i64 q.2.1, .int .i64 q.2.2.1, .string q.2.2.2.1, .string q.2.2.2.2.1, d, f, l], Sl (eInt .i64) d q.2.2.2.2.2.1, Sl eStr f q.2.2.2.2.2.2.1, Sl ePr l q.2.2.2.2.2.2.2, Blk g.2.2.1 75 [fnV 81], Blk g.2.2.2 75 [fnV 82]]) (by repeat (first | exact trivial | refine ⟨rfl, ?_⟩)) ?_ ?_
  rotate_left
  · intro MEET
    skip
    refine c_held [BlkR b1 32 [.int .i64 q.1, .int .i64 q.2.1, .int .i64 q.2.2.1, .string q.2.2.2.1, .string q.2.2.2.2.1, d, f, l], Sl (eInt .i64) d q.2.2.2.2.2.1, Sl eStr f q.2.2.2.2.2.2.1, Sl ePr l q.2.2.2.2.2.2.2] rfl ?_
    refine aT 1 rfl (vF 0 Tryz.underlying32 ti3) ?_
    refine aT 2 rfl (vL lone3) ?_
    refine a_two 0 7 rfl rfl (by kernel_rfl) ?_ ?_
    · skip
      refine s_callf cl39 (kinds_con) rfl (dd rfl) (pXs (by repeat constructor)) (fun g _ => aK ?_)
      refine a_two 3 7 rfl rfl (by kernel_rfl) ?_ ?_
      · skip
        refine s_val (v_lookupS kInt Tryz.underlying79 Tryz.underlying3 ti77 rfl rfl (hX (by repeat constructor)) (hlk g.2.1 g.2.2)) (dd rfl) (aK ?_)
        refine aT 4 rfl vM ?_
        refine aT 5 rfl vE ?_
        refine aT 6 rfl vE ?_
        refine aO 7 rfl (s_alloc ti77 (dd rfl) (fun b3 => aK ?_))
        refine aS 8 rfl ti77 ?_
        refine aT 9 rfl vA ?_
        refine a_done (by kernel_rfl) ?_ _
        refine cU (MEET ((b3, g)) (trivial))
      · skip
        refine s_alloc ti77 (dd rfl) (fun b3 => aK ?_)
        refine aO 3 rfl (s_val (v_lookupS kInt Tryz.underlying79 Tryz.underlying3 ti77 rfl rfl (hX (by repeat constructor)) (hlk g.2.1 g.2.2)) (dd rfl) (aK ?_))
        refine aT 4 rfl vM ?_
        refine aT 5 rfl vE ?_
        refine aT 6 rfl vE ?_
        refine aS 8 rfl ti77 ?_
        refine aT 9 rfl vA ?_
        refine a_done (by kernel_rfl) ?_ _
        refine cU (MEET ((b3, g)) (trivial))
    · skip
      refine s_alloc ti77 (dd rfl) (fun b3 => aK ?_)
      refine aO 0 rfl (s_callf cl39 (kinds_con) rfl (dd rfl) (pXs (by repeat constructor)) (fun g _ => aK ?_))
      refine aO 3 rfl (s_val (v_lookupS kInt Tryz.underlying79 Tryz.underlying3 ti77 rfl rfl (hX (by repeat constructor)) (hlk g.2.1 g.2.2)) (dd rfl) (aK ?_))
      refine aT 4 rfl vM ?_
      refine aT 5 rfl vE ?_
      refine aT 6 rfl vE ?_
      refine aS 8 rfl ti77 ?_
      refine aT 9 rfl vA ?_
      refine a_done (by kernel_rfl) ?_ _
      refine cU (MEET ((b3, g)) (trivial))
  rintro ⟨b3, bm, bn, bg⟩ -
  dsimp only [List.cons_append, List.nil_append]
  refine c_seq ?_
  refine c_held [BlkR b3 77 [fnV 99, fnC 100 bn], BlkR b1 32 [.int .i64 q.1, .int .i64 q.2.1, .int .i64 q.2.2.1, .string q.2.2.2.1, .string q.2.2.2.2.1, d, f, l], Sl (eInt .i64) d q.2.2.2.2.2.1, Sl eStr f q.2.2.2.2.2.2.1, Sl ePr l q.2.2.2.2.2.2.2, BlkR bn 75 [fnV 81]] rfl ?_
  refine aT 0 rfl vM ?_
  refine aT 1 rfl vM ?_
  refine aN 2 rfl (vF 0 Tryz.underlying77 ti29) ?_
  refine aN 3 rfl (vL lone29) ?_
  refine aN 4 rfl (vW Tryz.underlying32 ti32) ?_
  by_cases g1 : (namedP q.2.2.2.1 && (decide (q.2.2.2.2.2.2.1.length ≤ 8) && filesP ⟨#[]⟩ q.2.2.2.2.2.2.1)) = true
  · rw [g1] at hT
    refine aP 5 rfl (s_call_keep cl99 (hT) (first := []) (cap := []) rfl rfl rfl (dd rfl) (rX (by repeat constructor)) (fun _ => sX) (fun _ _ => aK ?_))
    refine aT 6 rfl vT ?_
    refine aT 7 rfl vM ?_
    refine a_know (s := 19) rfl (show _ = Value.bool true from rfl) ?_
    refine aN 8 rfl (vF 1 Tryz.underlying77 ti75) ?_
    refine aN 9 rfl (vL lone75) ?_
    refine aN 10 rfl (vW Tryz.underlying32 ti32) ?_
    refine aN 12 rfl (vF 0 Tryz.underlying32 ti3) ?_
    refine aN 13 rfl (vL lone3) ?_
    refine aN 14 rfl (v_buildS (places := [(0, 1), (1, 1), (2, 1), (3, 1), (4, 1), (5, 1), (6, 1), (7, 1)]) (cells := [_, .int .i64 0, .int .i64 0, .string ⟨#[]⟩, .string ⟨#[]⟩, .slice none 0 0, .slice none 0 0, .slice none 0 0]) Tryz.underlying32 ti32 (by kernel_rfl) rfl (by repeat (first | exact PartsC.nil | (apply PartsC.one (by first | exact OneC.lit rfl | exact OneC.sl (hX (by repeat constructor)) )) | (apply PartsC.lit rfl))) rfl) ?_
    refine aP 11 rfl (s_call_keep cl100 (hR bn) (first := []) (cap := [ptr1 bn]) rfl rfl rfl (dd rfl) (rX (by repeat constructor)) (fun _ => sX) (fun _ _ => aK ?_))
    refine aP 15 rfl (s_callf cl15 (hS) rfl (dd rfl) (pXs (by repeat constructor)) (fun _ _ => aK ?_))
    refine aT 16 rfl vT ?_
    refine aT 17 rfl vA ?_
    refine a_done (by kernel_rfl) ?_ _
    refine c_ret1 Tryz.func12 rfl rfl fun w O hS => ?_
    exact ⟨(), congrArg Value.bool (decide_eq_decide.2 (by rw [hi, g1]; simp)), trivial, trivial⟩
  · have g2 : (namedP q.2.2.2.1 && (decide (q.2.2.2.2.2.2.1.length ≤ 8) && filesP ⟨#[]⟩ q.2.2.2.2.2.2.1)) = false := Bool.eq_false_iff.2 g1
    rw [g2] at hT
    refine aP 5 rfl (s_call_keep cl99 (hT) (first := []) (cap := []) rfl rfl rfl (dd rfl) (rX (by repeat constructor)) (fun _ => sX) (fun _ _ => aK ?_))
    refine aT 6 rfl vT ?_
    refine aT 7 rfl vM ?_
    refine a_know (s := 19) rfl (show _ = Value.bool false from rfl) ?_
    refine aX 8 rfl ?_
    refine aX 9 rfl ?_
    refine aX 10 rfl ?_
    refine aX 11 rfl ?_
    refine aX 12 rfl ?_
    refine aX 13 rfl ?_
    refine aX 14 rfl ?_
    refine aX 15 rfl ?_
    refine aT 16 rfl vQ ?_
    refine aT 17 rfl vA ?_
    refine a_done (by kernel_rfl) ?_ _
    refine c_ret1 Tryz.func12 rfl rfl fun w O hS => ?_
    exact ⟨(), congrArg Value.bool (decide_eq_false (by rw [hi, g2]; simp)).symm, trivial, trivial⟩
set_option maxRecDepth 100000 in
theorem right6_con (q : Rq9) (d f l : Value) (hk : q.1 = 6) (hq : FineQ q) : Con Tryz.prog 12 [.agg #[.int .i64 q.1, .int .i64 q.2.1, .int .i64 q.2.2.1, .string q.2.2.2.1, .string q.2.2.2.2.1, d, f, l]] [Sl (eInt .i64) d q.2.2.2.2.2.1, Sl eStr f q.2.2.2.2.2.2.1, Sl ePr l q.2.2.2.2.2.2.2] (γ := Unit) (fun _ => .bool (decide (RightQ q))) (fun _ => True) (fun _ => []) := by
  have hlk : ∀ b1 b2, Go.SL.look (kindsM b1 b2) q.1 = some (.agg #[fnV 85, fnV 81]) := fun b1 b2 => by rw [hk]; exact look6 b1 b2
  have hT := tNamed_con q d f l hq.name
  have hR := rName_con q d f l
  have hi := right_iff6 hk
  have hS := sameReq_con (q.1, q.2.1, q.2.2.1, ⟨#[]⟩, q.2.2.2.2.1, q.2.2.2.2.2.1, q.2.2.2.2.2.2.1, q.2.2.2.2.2.2.2) (zeroQ q.1) (d) (f) (l) (.slice none 0 0) (.slice none 0 0) (.slice none 0 0) ⟨hq.size.1, hq.size.2.1, hq.size.2.2⟩ (zeroQ_size _)
  dsimp only at hS
  refine con_of Tryz.func12 rfl (dd rfl) fun w0 O0 => ?_
  refine c_seq (c_region ?_)
  refine o_step (s_box rfl (dd rfl) (fun b1 => ?_))
  refine oV vA ?_
  refine o_nil (c_seq ?_)
  refine c_joinR (γ := Nat × Nat × Nat × Nat) [(1, _), (2, _)] (fun _ => True) (fun g => [(3, ptr g.1), (4, .bool true)]) (fun g => [Blk g.1 77 [fnV 85, fnV 81], Blk b1 32 [.int .i64 q.1, .int .i64 q.2.1, .int .i64 q.2.2.1, .string q.2.2.2.1, .string q.2.2.2.2.1, d, f, l], Sl (eInt .i64) d q.2.2.2.2.2.1, Sl eStr f q.2.2.2.2.2.2.1, Sl ePr l q.2.2.2.2.2.2.2, Blk g.2.2.1 75 [fnV 81], Blk g.2.2.2 75 [fnV 82]]) (by repeat (first | exact trivial | refine ⟨rfl, ?_⟩)) ?_ ?_
  rotate_left
  · intro MEET
    skip
    refine c_held [BlkR b1 32 [.int .i64 q.1, .int .i64 q.2.1, .int .i64 q.2.2.1, .string q.2.2.2.1, .string q.2.2.2.2.1, d, f, l], Sl (eInt .i64) d q.2.2.2.2.2.1, Sl eStr f q.2.2.2.2.2.2.1, Sl ePr l q.2.2.2.2.2.2.2] rfl ?_
    refine aT 1 rfl (vF 0 Tryz.underlying32 ti3) ?_
    refine aT 2 rfl (vL lone3) ?_
    refine a_two 0 7 rfl rfl (by kernel_rfl) ?_ ?_
    · skip
      refine s_callf cl39 (kinds_con) rfl (dd rfl) (pXs (by repeat constructor)) (fun g _ => aK ?_)
      refine a_two 3 7 rfl rfl (by kernel_rfl) ?_ ?_
      · skip
        refine s_val (v_lookupS kInt Tryz.underlying79 Tryz.underlying3 ti77 rfl rfl (hX (by repeat constructor)) (hlk g.2.1 g.2.2)) (dd rfl) (aK ?_)
        refine aT 4 rfl vM ?_
        refine aT 5 rfl vE ?_
        refine aT 6 rfl vE ?_
        refine aO 7 rfl (s_alloc ti77 (dd rfl) (fun b3 => aK ?_))
        refine aS 8 rfl ti77 ?_
        refine aT 9 rfl vA ?_
        refine a_done (by kernel_rfl) ?_ _
        refine cU (MEET ((b3, g)) (trivial))
      · skip
        refine s_alloc ti77 (dd rfl) (fun b3 => aK ?_)
        refine aO 3 rfl (s_val (v_lookupS kInt Tryz.underlying79 Tryz.underlying3 ti77 rfl rfl (hX (by repeat constructor)) (hlk g.2.1 g.2.2)) (dd rfl) (aK ?_))
        refine aT 4 rfl vM ?_
        refine aT 5 rfl vE ?_
        refine aT 6 rfl vE ?_
        refine aS 8 rfl ti77 ?_
        refine aT 9 rfl vA ?_
        refine a_done (by kernel_rfl) ?_ _
        refine cU (MEET ((b3, g)) (trivial))
    · skip
      refine s_alloc ti77 (dd rfl) (fun b3 => aK ?_)
      refine aO 0 rfl (s_callf cl39 (kinds_con) rfl (dd rfl) (pXs (by repeat constructor)) (fun g _ => aK ?_))
      refine aO 3 rfl (s_val (v_lookupS kInt Tryz.underlying79 Tryz.underlying3 ti77 rfl rfl (hX (by repeat constructor)) (hlk g.2.1 g.2.2)) (dd rfl) (aK ?_))
      refine aT 4 rfl vM ?_
      refine aT 5 rfl vE ?_
      refine aT 6 rfl vE ?_
      refine aS 8 rfl ti77 ?_
      refine aT 9 rfl vA ?_
      refine a_done (by kernel_rfl) ?_ _
      refine cU (MEET ((b3, g)) (trivial))
  rintro ⟨b3, bm, bn, bg⟩ -
  dsimp only [List.cons_append, List.nil_append]
  refine c_seq ?_
  refine c_held [BlkR b3 77 [fnV 85, fnV 81], BlkR b1 32 [.int .i64 q.1, .int .i64 q.2.1, .int .i64 q.2.2.1, .string q.2.2.2.1, .string q.2.2.2.2.1, d, f, l], Sl (eInt .i64) d q.2.2.2.2.2.1, Sl eStr f q.2.2.2.2.2.2.1, Sl ePr l q.2.2.2.2.2.2.2] rfl ?_
  refine aT 0 rfl vM ?_
  refine aT 1 rfl vM ?_
  refine aN 2 rfl (vF 0 Tryz.underlying77 ti29) ?_
  refine aN 3 rfl (vL lone29) ?_
  refine aN 4 rfl (vW Tryz.underlying32 ti32) ?_
  by_cases g1 : (namedP q.2.2.2.1) = true
  · rw [g1] at hT
    refine aP 5 rfl (s_call_keep cl85 (hT) (first := []) (cap := []) rfl rfl rfl (dd rfl) (rX (by repeat constructor)) (fun _ => sX) (fun _ _ => aK ?_))
    refine aT 6 rfl vT ?_
    refine aT 7 rfl vM ?_
    refine a_know (s := 19) rfl (show _ = Value.bool true from rfl) ?_
    refine aN 8 rfl (vF 1 Tryz.underlying77 ti75) ?_
    refine aN 9 rfl (vL lone75) ?_
    refine aN 10 rfl (vW Tryz.underlying32 ti32) ?_
    refine aN 12 rfl (vF 0 Tryz.underlying32 ti3) ?_
    refine aN 13 rfl (vL lone3) ?_
    refine aN 14 rfl (v_buildS (places := [(0, 1), (1, 1), (2, 1), (3, 1), (4, 1), (5, 1), (6, 1), (7, 1)]) (cells := [_, .int .i64 0, .int .i64 0, .string ⟨#[]⟩, .string ⟨#[]⟩, .slice none 0 0, .slice none 0 0, .slice none 0 0]) Tryz.underlying32 ti32 (by kernel_rfl) rfl (by repeat (first | exact PartsC.nil | (apply PartsC.one (by first | exact OneC.lit rfl | exact OneC.sl (hX (by repeat constructor)) )) | (apply PartsC.lit rfl))) rfl) ?_
    refine aP 11 rfl (s_call_keep cl81 (hR) (first := []) (cap := []) rfl rfl rfl (dd rfl) (rX (by repeat constructor)) (fun _ => sX) (fun _ _ => aK ?_))
    refine aP 15 rfl (s_callf cl15 (hS) rfl (dd rfl) (pXs (by repeat constructor)) (fun _ _ => aK ?_))
    refine aT 16 rfl vT ?_
    refine aT 17 rfl vA ?_
    refine a_done (by kernel_rfl) ?_ _
    refine c_ret1 Tryz.func12 rfl rfl fun w O hS => ?_
    exact ⟨(), congrArg Value.bool (decide_eq_decide.2 (by rw [hi, g1]; simp)), trivial, trivial⟩
  · have g2 : (namedP q.2.2.2.1) = false := Bool.eq_false_iff.2 g1
    rw [g2] at hT
    refine aP 5 rfl (s_call_keep cl85 (hT) (first := []) (cap := []) rfl rfl rfl (dd rfl) (rX (by repeat constructor)) (fun _ => sX) (fun _ _ => aK ?_))
    refine aT 6 rfl vT ?_
    refine aT 7 rfl vM ?_
    refine a_know (s := 19) rfl (show _ = Value.bool false from rfl) ?_
    refine aX 8 rfl ?_
    refine aX 9 rfl ?_
    refine aX 10 rfl ?_
    refine aX 11 rfl ?_
    refine aX 12 rfl ?_
    refine aX 13 rfl ?_
    refine aX 14 rfl ?_
    refine aX 15 rfl ?_
    refine aT 16 rfl vQ ?_
    refine aT 17 rfl vA ?_
    refine a_done (by kernel_rfl) ?_ _
    refine c_ret1 Tryz.func12 rfl rfl fun w O hS => ?_
    exact ⟨(), congrArg Value.bool (decide_eq_false (by rw [hi, g2]; simp)).symm, trivial, trivial⟩
set_option maxRecDepth 100000 in
theorem right7_con (q : Rq9) (d f l : Value) (hk : q.1 = 7) (hq : FineQ q) : Con Tryz.prog 12 [.agg #[.int .i64 q.1, .int .i64 q.2.1, .int .i64 q.2.2.1, .string q.2.2.2.1, .string q.2.2.2.2.1, d, f, l]] [Sl (eInt .i64) d q.2.2.2.2.2.1, Sl eStr f q.2.2.2.2.2.2.1, Sl ePr l q.2.2.2.2.2.2.2] (γ := Unit) (fun _ => .bool (decide (RightQ q))) (fun _ => True) (fun _ => []) := by
  have hlk : ∀ b1 b2, Go.SL.look (kindsM b1 b2) q.1 = some (.agg #[fnV 83, fnV 84]) := fun b1 b2 => by rw [hk]; exact look7 b1 b2
  have hT := tNone_con q d f l
  have hR := rNone_con q d f l
  have hi := right_iff7 hk
  have hS := sameReq_con (q.1, q.2.1, q.2.2.1, q.2.2.2.1, q.2.2.2.2.1, q.2.2.2.2.2.1, q.2.2.2.2.2.2.1, q.2.2.2.2.2.2.2) (zeroQ q.1) (d) (f) (l) (.slice none 0 0) (.slice none 0 0) (.slice none 0 0) ⟨hq.size.1, hq.size.2.1, hq.size.2.2⟩ (zeroQ_size _)
  dsimp only at hS
  refine con_of Tryz.func12 rfl (dd rfl) fun w0 O0 => ?_
  refine c_seq (c_region ?_)
  refine o_step (s_box rfl (dd rfl) (fun b1 => ?_))
  refine oV vA ?_
  refine o_nil (c_seq ?_)
  refine c_joinR (γ := Nat × Nat × Nat × Nat) [(1, _), (2, _)] (fun _ => True) (fun g => [(3, ptr g.1), (4, .bool true)]) (fun g => [Blk g.1 77 [fnV 83, fnV 84], Blk b1 32 [.int .i64 q.1, .int .i64 q.2.1, .int .i64 q.2.2.1, .string q.2.2.2.1, .string q.2.2.2.2.1, d, f, l], Sl (eInt .i64) d q.2.2.2.2.2.1, Sl eStr f q.2.2.2.2.2.2.1, Sl ePr l q.2.2.2.2.2.2.2, Blk g.2.2.1 75 [fnV 81], Blk g.2.2.2 75 [fnV 82]]) (by repeat (first | exact trivial | refine ⟨rfl, ?_⟩)) ?_ ?_
  rotate_left
  · intro MEET
    skip
    refine c_held [BlkR b1 32 [.int .i64 q.1, .int .i64 q.2.1, .int .i64 q.2.2.1, .string q.2.2.2.1, .string q.2.2.2.2.1, d, f, l], Sl (eInt .i64) d q.2.2.2.2.2.1, Sl eStr f q.2.2.2.2.2.2.1, Sl ePr l q.2.2.2.2.2.2.2] rfl ?_
    refine aT 1 rfl (vF 0 Tryz.underlying32 ti3) ?_
    refine aT 2 rfl (vL lone3) ?_
    refine a_two 0 7 rfl rfl (by kernel_rfl) ?_ ?_
    · skip
      refine s_callf cl39 (kinds_con) rfl (dd rfl) (pXs (by repeat constructor)) (fun g _ => aK ?_)
      refine a_two 3 7 rfl rfl (by kernel_rfl) ?_ ?_
      · skip
        refine s_val (v_lookupS kInt Tryz.underlying79 Tryz.underlying3 ti77 rfl rfl (hX (by repeat constructor)) (hlk g.2.1 g.2.2)) (dd rfl) (aK ?_)
        refine aT 4 rfl vM ?_
        refine aT 5 rfl vE ?_
        refine aT 6 rfl vE ?_
        refine aO 7 rfl (s_alloc ti77 (dd rfl) (fun b3 => aK ?_))
        refine aS 8 rfl ti77 ?_
        refine aT 9 rfl vA ?_
        refine a_done (by kernel_rfl) ?_ _
        refine cU (MEET ((b3, g)) (trivial))
      · skip
        refine s_alloc ti77 (dd rfl) (fun b3 => aK ?_)
        refine aO 3 rfl (s_val (v_lookupS kInt Tryz.underlying79 Tryz.underlying3 ti77 rfl rfl (hX (by repeat constructor)) (hlk g.2.1 g.2.2)) (dd rfl) (aK ?_))
        refine aT 4 rfl vM ?_
        refine aT 5 rfl vE ?_
        refine aT 6 rfl vE ?_
        refine aS 8 rfl ti77 ?_
        refine aT 9 rfl vA ?_
        refine a_done (by kernel_rfl) ?_ _
        refine cU (MEET ((b3, g)) (trivial))
    · skip
      refine s_alloc ti77 (dd rfl) (fun b3 => aK ?_)
      refine aO 0 rfl (s_callf cl39 (kinds_con) rfl (dd rfl) (pXs (by repeat constructor)) (fun g _ => aK ?_))
      refine aO 3 rfl (s_val (v_lookupS kInt Tryz.underlying79 Tryz.underlying3 ti77 rfl rfl (hX (by repeat constructor)) (hlk g.2.1 g.2.2)) (dd rfl) (aK ?_))
      refine aT 4 rfl vM ?_
      refine aT 5 rfl vE ?_
      refine aT 6 rfl vE ?_
      refine aS 8 rfl ti77 ?_
      refine aT 9 rfl vA ?_
      refine a_done (by kernel_rfl) ?_ _
      refine cU (MEET ((b3, g)) (trivial))
  rintro ⟨b3, bm, bn, bg⟩ -
  dsimp only [List.cons_append, List.nil_append]
  refine c_seq ?_
  refine c_held [BlkR b3 77 [fnV 83, fnV 84], BlkR b1 32 [.int .i64 q.1, .int .i64 q.2.1, .int .i64 q.2.2.1, .string q.2.2.2.1, .string q.2.2.2.2.1, d, f, l], Sl (eInt .i64) d q.2.2.2.2.2.1, Sl eStr f q.2.2.2.2.2.2.1, Sl ePr l q.2.2.2.2.2.2.2] rfl ?_
  refine aT 0 rfl vM ?_
  refine aT 1 rfl vM ?_
  refine aN 2 rfl (vF 0 Tryz.underlying77 ti29) ?_
  refine aN 3 rfl (vL lone29) ?_
  refine aN 4 rfl (vW Tryz.underlying32 ti32) ?_
  refine aP 5 rfl (s_call_keep cl83 (hT) (first := []) (cap := []) rfl rfl rfl (dd rfl) (rX (by repeat constructor)) (fun _ => sX) (fun _ _ => aK ?_))
  refine aT 6 rfl vT ?_
  refine aT 7 rfl vM ?_
  refine a_know (s := 19) rfl (show _ = Value.bool true from rfl) ?_
  refine aN 8 rfl (vF 1 Tryz.underlying77 ti75) ?_
  refine aN 9 rfl (vL lone75) ?_
  refine aN 10 rfl (vW Tryz.underlying32 ti32) ?_
  refine aN 12 rfl (vF 0 Tryz.underlying32 ti3) ?_
  refine aN 13 rfl (vL lone3) ?_
  refine aN 14 rfl (v_buildS (places := [(0, 1), (1, 1), (2, 1), (3, 1), (4, 1), (5, 1), (6, 1), (7, 1)]) (cells := [_, .int .i64 0, .int .i64 0, .string ⟨#[]⟩, .string ⟨#[]⟩, .slice none 0 0, .slice none 0 0, .slice none 0 0]) Tryz.underlying32 ti32 (by kernel_rfl) rfl (by repeat (first | exact PartsC.nil | (apply PartsC.one (by first | exact OneC.lit rfl | exact OneC.sl (hX (by repeat constructor)) )) | (apply PartsC.lit rfl))) rfl) ?_
  refine aP 11 rfl (s_call_keep cl84 (hR) (first := []) (cap := []) rfl rfl rfl (dd rfl) (rX (by repeat constructor)) (fun _ => sX) (fun _ _ => aK ?_))
  refine aP 15 rfl (s_callf cl15 (hS) rfl (dd rfl) (pXs (by repeat constructor)) (fun _ _ => aK ?_))
  refine aT 16 rfl vT ?_
  refine aT 17 rfl vA ?_
  refine a_done (by kernel_rfl) ?_ _
  refine c_ret1 Tryz.func12 rfl rfl fun w O hS => ?_
  exact ⟨(), congrArg Value.bool (decide_eq_decide.2 (by rw [hi]; simp)), trivial, trivial⟩
set_option maxRecDepth 100000 in
theorem right8_con (q : Rq9) (d f l : Value) (hk : q.1 = 8) (hq : FineQ q) : Con Tryz.prog 12 [.agg #[.int .i64 q.1, .int .i64 q.2.1, .int .i64 q.2.2.1, .string q.2.2.2.1, .string q.2.2.2.2.1, d, f, l]] [Sl (eInt .i64) d q.2.2.2.2.2.1, Sl eStr f q.2.2.2.2.2.2.1, Sl ePr l q.2.2.2.2.2.2.2] (γ := Unit) (fun _ => .bool (decide (RightQ q))) (fun _ => True) (fun _ => []) := by
  have hlk : ∀ b1 b2, Go.SL.look (kindsM b1 b2) q.1 = some (.agg #[fnV 83, fnV 84]) := fun b1 b2 => by rw [hk]; exact look8 b1 b2
  have hT := tNone_con q d f l
  have hR := rNone_con q d f l
  have hi := right_iff8 hk
  have hS := sameReq_con (q.1, q.2.1, q.2.2.1, q.2.2.2.1, q.2.2.2.2.1, q.2.2.2.2.2.1, q.2.2.2.2.2.2.1, q.2.2.2.2.2.2.2) (zeroQ q.1) (d) (f) (l) (.slice none 0 0) (.slice none 0 0) (.slice none 0 0) ⟨hq.size.1, hq.size.2.1, hq.size.2.2⟩ (zeroQ_size _)
  dsimp only at hS
  refine con_of Tryz.func12 rfl (dd rfl) fun w0 O0 => ?_
  refine c_seq (c_region ?_)
  refine o_step (s_box rfl (dd rfl) (fun b1 => ?_))
  refine oV vA ?_
  refine o_nil (c_seq ?_)
  refine c_joinR (γ := Nat × Nat × Nat × Nat) [(1, _), (2, _)] (fun _ => True) (fun g => [(3, ptr g.1), (4, .bool true)]) (fun g => [Blk g.1 77 [fnV 83, fnV 84], Blk b1 32 [.int .i64 q.1, .int .i64 q.2.1, .int .i64 q.2.2.1, .string q.2.2.2.1, .string q.2.2.2.2.1, d, f, l], Sl (eInt .i64) d q.2.2.2.2.2.1, Sl eStr f q.2.2.2.2.2.2.1, Sl ePr l q.2.2.2.2.2.2.2, Blk g.2.2.1 75 [fnV 81], Blk g.2.2.2 75 [fnV 82]]) (by repeat (first | exact trivial | refine ⟨rfl, ?_⟩)) ?_ ?_
  rotate_left
  · intro MEET
    skip
    refine c_held [BlkR b1 32 [.int .i64 q.1, .int .i64 q.2.1, .int .i64 q.2.2.1, .string q.2.2.2.1, .string q.2.2.2.2.1, d, f, l], Sl (eInt .i64) d q.2.2.2.2.2.1, Sl eStr f q.2.2.2.2.2.2.1, Sl ePr l q.2.2.2.2.2.2.2] rfl ?_
    refine aT 1 rfl (vF 0 Tryz.underlying32 ti3) ?_
    refine aT 2 rfl (vL lone3) ?_
    refine a_two 0 7 rfl rfl (by kernel_rfl) ?_ ?_
    · skip
      refine s_callf cl39 (kinds_con) rfl (dd rfl) (pXs (by repeat constructor)) (fun g _ => aK ?_)
      refine a_two 3 7 rfl rfl (by kernel_rfl) ?_ ?_
      · skip
        refine s_val (v_lookupS kInt Tryz.underlying79 Tryz.underlying3 ti77 rfl rfl (hX (by repeat constructor)) (hlk g.2.1 g.2.2)) (dd rfl) (aK ?_)
        refine aT 4 rfl vM ?_
        refine aT 5 rfl vE ?_
        refine aT 6 rfl vE ?_
        refine aO 7 rfl (s_alloc ti77 (dd rfl) (fun b3 => aK ?_))
        refine aS 8 rfl ti77 ?_
        refine aT 9 rfl vA ?_
        refine a_done (by kernel_rfl) ?_ _
        refine cU (MEET ((b3, g)) (trivial))
      · skip
        refine s_alloc ti77 (dd rfl) (fun b3 => aK ?_)
        refine aO 3 rfl (s_val (v_lookupS kInt Tryz.underlying79 Tryz.underlying3 ti77 rfl rfl (hX (by repeat constructor)) (hlk g.2.1 g.2.2)) (dd rfl) (aK ?_))
        refine aT 4 rfl vM ?_
        refine aT 5 rfl vE ?_
        refine aT 6 rfl vE ?_
        refine aS 8 rfl ti77 ?_
        refine aT 9 rfl vA ?_
        refine a_done (by kernel_rfl) ?_ _
        refine cU (MEET ((b3, g)) (trivial))
    · skip
      refine s_alloc ti77 (dd rfl) (fun b3 => aK ?_)
      refine aO 0 rfl (s_callf cl39 (kinds_con) rfl (dd rfl) (pXs (by repeat constructor)) (fun g _ => aK ?_))
      refine aO 3 rfl (s_val (v_lookupS kInt Tryz.underlying79 Tryz.underlying3 ti77 rfl rfl (hX (by repeat constructor)) (hlk g.2.1 g.2.2)) (dd rfl) (aK ?_))
      refine aT 4 rfl vM ?_
      refine aT 5 rfl vE ?_
      refine aT 6 rfl vE ?_
      refine aS 8 rfl ti77 ?_
      refine aT 9 rfl vA ?_
      refine a_done (by kernel_rfl) ?_ _
      refine cU (MEET ((b3, g)) (trivial))
  rintro ⟨b3, bm, bn, bg⟩ -
  dsimp only [List.cons_append, List.nil_append]
  refine c_seq ?_
  refine c_held [BlkR b3 77 [fnV 83, fnV 84], BlkR b1 32 [.int .i64 q.1, .int .i64 q.2.1, .int .i64 q.2.2.1, .string q.2.2.2.1, .string q.2.2.2.2.1, d, f, l], Sl (eInt .i64) d q.2.2.2.2.2.1, Sl eStr f q.2.2.2.2.2.2.1, Sl ePr l q.2.2.2.2.2.2.2] rfl ?_
  refine aT 0 rfl vM ?_
  refine aT 1 rfl vM ?_
  refine aN 2 rfl (vF 0 Tryz.underlying77 ti29) ?_
  refine aN 3 rfl (vL lone29) ?_
  refine aN 4 rfl (vW Tryz.underlying32 ti32) ?_
  refine aP 5 rfl (s_call_keep cl83 (hT) (first := []) (cap := []) rfl rfl rfl (dd rfl) (rX (by repeat constructor)) (fun _ => sX) (fun _ _ => aK ?_))
  refine aT 6 rfl vT ?_
  refine aT 7 rfl vM ?_
  refine a_know (s := 19) rfl (show _ = Value.bool true from rfl) ?_
  refine aN 8 rfl (vF 1 Tryz.underlying77 ti75) ?_
  refine aN 9 rfl (vL lone75) ?_
  refine aN 10 rfl (vW Tryz.underlying32 ti32) ?_
  refine aN 12 rfl (vF 0 Tryz.underlying32 ti3) ?_
  refine aN 13 rfl (vL lone3) ?_
  refine aN 14 rfl (v_buildS (places := [(0, 1), (1, 1), (2, 1), (3, 1), (4, 1), (5, 1), (6, 1), (7, 1)]) (cells := [_, .int .i64 0, .int .i64 0, .string ⟨#[]⟩, .string ⟨#[]⟩, .slice none 0 0, .slice none 0 0, .slice none 0 0]) Tryz.underlying32 ti32 (by kernel_rfl) rfl (by repeat (first | exact PartsC.nil | (apply PartsC.one (by first | exact OneC.lit rfl | exact OneC.sl (hX (by repeat constructor)) )) | (apply PartsC.lit rfl))) rfl) ?_
  refine aP 11 rfl (s_call_keep cl84 (hR) (first := []) (cap := []) rfl rfl rfl (dd rfl) (rX (by repeat constructor)) (fun _ => sX) (fun _ _ => aK ?_))
  refine aP 15 rfl (s_callf cl15 (hS) rfl (dd rfl) (pXs (by repeat constructor)) (fun _ _ => aK ?_))
  refine aT 16 rfl vT ?_
  refine aT 17 rfl vA ?_
  refine a_done (by kernel_rfl) ?_ _
  refine c_ret1 Tryz.func12 rfl rfl fun w O hS => ?_
  exact ⟨(), congrArg Value.bool (decide_eq_decide.2 (by rw [hi]; simp)), trivial, trivial⟩
set_option maxRecDepth 100000 in
theorem right9_con (q : Rq9) (d f l : Value) (hk : q.1 = 9) (hq : FineQ q) : Con Tryz.prog 12 [.agg #[.int .i64 q.1, .int .i64 q.2.1, .int .i64 q.2.2.1, .string q.2.2.2.1, .string q.2.2.2.2.1, d, f, l]] [Sl (eInt .i64) d q.2.2.2.2.2.1, Sl eStr f q.2.2.2.2.2.2.1, Sl ePr l q.2.2.2.2.2.2.2] (γ := Unit) (fun _ => .bool (decide (RightQ q))) (fun _ => True) (fun _ => []) := by
  have hlk : ∀ b1 b2, Go.SL.look (kindsM b1 b2) q.1 = some (.agg #[fnV 85, fnV 81]) := fun b1 b2 => by rw [hk]; exact look9 b1 b2
  have hT := tNamed_con q d f l hq.name
  have hR := rName_con q d f l
  have hi := right_iff9 hk
  have hS := sameReq_con (q.1, q.2.1, q.2.2.1, ⟨#[]⟩, q.2.2.2.2.1, q.2.2.2.2.2.1, q.2.2.2.2.2.2.1, q.2.2.2.2.2.2.2) (zeroQ q.1) (d) (f) (l) (.slice none 0 0) (.slice none 0 0) (.slice none 0 0) ⟨hq.size.1, hq.size.2.1, hq.size.2.2⟩ (zeroQ_size _)
  dsimp only at hS
  refine con_of Tryz.func12 rfl (dd rfl) fun w0 O0 => ?_
  refine c_seq (c_region ?_)
  refine o_step (s_box rfl (dd rfl) (fun b1 => ?_))
  refine oV vA ?_
  refine o_nil (c_seq ?_)
  refine c_joinR (γ := Nat × Nat × Nat × Nat) [(1, _), (2, _)] (fun _ => True) (fun g => [(3, ptr g.1), (4, .bool true)]) (fun g => [Blk g.1 77 [fnV 85, fnV 81], Blk b1 32 [.int .i64 q.1, .int .i64 q.2.1, .int .i64 q.2.2.1, .string q.2.2.2.1, .string q.2.2.2.2.1, d, f, l], Sl (eInt .i64) d q.2.2.2.2.2.1, Sl eStr f q.2.2.2.2.2.2.1, Sl ePr l q.2.2.2.2.2.2.2, Blk g.2.2.1 75 [fnV 81], Blk g.2.2.2 75 [fnV 82]]) (by repeat (first | exact trivial | refine ⟨rfl, ?_⟩)) ?_ ?_
  rotate_left
  · intro MEET
    skip
    refine c_held [BlkR b1 32 [.int .i64 q.1, .int .i64 q.2.1, .int .i64 q.2.2.1, .string q.2.2.2.1, .string q.2.2.2.2.1, d, f, l], Sl (eInt .i64) d q.2.2.2.2.2.1, Sl eStr f q.2.2.2.2.2.2.1, Sl ePr l q.2.2.2.2.2.2.2] rfl ?_
    refine aT 1 rfl (vF 0 Tryz.underlying32 ti3) ?_
    refine aT 2 rfl (vL lone3) ?_
    refine a_two 0 7 rfl rfl (by kernel_rfl) ?_ ?_
    · skip
      refine s_callf cl39 (kinds_con) rfl (dd rfl) (pXs (by repeat constructor)) (fun g _ => aK ?_)
      refine a_two 3 7 rfl rfl (by kernel_rfl) ?_ ?_
      · skip
        refine s_val (v_lookupS kInt Tryz.underlying79 Tryz.underlying3 ti77 rfl rfl (hX (by repeat constructor)) (hlk g.2.1 g.2.2)) (dd rfl) (aK ?_)
        refine aT 4 rfl vM ?_
        refine aT 5 rfl vE ?_
        refine aT 6 rfl vE ?_
        refine aO 7 rfl (s_alloc ti77 (dd rfl) (fun b3 => aK ?_))
        refine aS 8 rfl ti77 ?_
        refine aT 9 rfl vA ?_
        refine a_done (by kernel_rfl) ?_ _
        refine cU (MEET ((b3, g)) (trivial))
      · skip
        refine s_alloc ti77 (dd rfl) (fun b3 => aK ?_)
        refine aO 3 rfl (s_val (v_lookupS kInt Tryz.underlying79 Tryz.underlying3 ti77 rfl rfl (hX (by repeat constructor)) (hlk g.2.1 g.2.2)) (dd rfl) (aK ?_))
        refine aT 4 rfl vM ?_
        refine aT 5 rfl vE ?_
        refine aT 6 rfl vE ?_
        refine aS 8 rfl ti77 ?_
        refine aT 9 rfl vA ?_
        refine a_done (by kernel_rfl) ?_ _
        refine cU (MEET ((b3, g)) (trivial))
    · skip
      refine s_alloc ti77 (dd rfl) (fun b3 => aK ?_)
      refine aO 0 rfl (s_callf cl39 (kinds_con) rfl (dd rfl) (pXs (by repeat constructor)) (fun g _ => aK ?_))
      refine aO 3 rfl (s_val (v_lookupS kInt Tryz.underlying79 Tryz.underlying3 ti77 rfl rfl (hX (by repeat constructor)) (hlk g.2.1 g.2.2)) (dd rfl) (aK ?_))
      refine aT 4 rfl vM ?_
      refine aT 5 rfl vE ?_
      refine aT 6 rfl vE ?_
      refine aS 8 rfl ti77 ?_
      refine aT 9 rfl vA ?_
      refine a_done (by kernel_rfl) ?_ _
      refine cU (MEET ((b3, g)) (trivial))
  rintro ⟨b3, bm, bn, bg⟩ -
  dsimp only [List.cons_append, List.nil_append]
  refine c_seq ?_
  refine c_held [BlkR b3 77 [fnV 85, fnV 81], BlkR b1 32 [.int .i64 q.1, .int .i64 q.2.1, .int .i64 q.2.2.1, .string q.2.2.2.1, .string q.2.2.2.2.1, d, f, l], Sl (eInt .i64) d q.2.2.2.2.2.1, Sl eStr f q.2.2.2.2.2.2.1, Sl ePr l q.2.2.2.2.2.2.2] rfl ?_
  refine aT 0 rfl vM ?_
  refine aT 1 rfl vM ?_
  refine aN 2 rfl (vF 0 Tryz.underlying77 ti29) ?_
  refine aN 3 rfl (vL lone29) ?_
  refine aN 4 rfl (vW Tryz.underlying32 ti32) ?_
  by_cases g1 : (namedP q.2.2.2.1) = true
  · rw [g1] at hT
    refine aP 5 rfl (s_call_keep cl85 (hT) (first := []) (cap := []) rfl rfl rfl (dd rfl) (rX (by repeat constructor)) (fun _ => sX) (fun _ _ => aK ?_))
    refine aT 6 rfl vT ?_
    refine aT 7 rfl vM ?_
    refine a_know (s := 19) rfl (show _ = Value.bool true from rfl) ?_
    refine aN 8 rfl (vF 1 Tryz.underlying77 ti75) ?_
    refine aN 9 rfl (vL lone75) ?_
    refine aN 10 rfl (vW Tryz.underlying32 ti32) ?_
    refine aN 12 rfl (vF 0 Tryz.underlying32 ti3) ?_
    refine aN 13 rfl (vL lone3) ?_
    refine aN 14 rfl (v_buildS (places := [(0, 1), (1, 1), (2, 1), (3, 1), (4, 1), (5, 1), (6, 1), (7, 1)]) (cells := [_, .int .i64 0, .int .i64 0, .string ⟨#[]⟩, .string ⟨#[]⟩, .slice none 0 0, .slice none 0 0, .slice none 0 0]) Tryz.underlying32 ti32 (by kernel_rfl) rfl (by repeat (first | exact PartsC.nil | (apply PartsC.one (by first | exact OneC.lit rfl | exact OneC.sl (hX (by repeat constructor)) )) | (apply PartsC.lit rfl))) rfl) ?_
    refine aP 11 rfl (s_call_keep cl81 (hR) (first := []) (cap := []) rfl rfl rfl (dd rfl) (rX (by repeat constructor)) (fun _ => sX) (fun _ _ => aK ?_))
    refine aP 15 rfl (s_callf cl15 (hS) rfl (dd rfl) (pXs (by repeat constructor)) (fun _ _ => aK ?_))
    refine aT 16 rfl vT ?_
    refine aT 17 rfl vA ?_
    refine a_done (by kernel_rfl) ?_ _
    refine c_ret1 Tryz.func12 rfl rfl fun w O hS => ?_
    exact ⟨(), congrArg Value.bool (decide_eq_decide.2 (by rw [hi, g1]; simp)), trivial, trivial⟩
  · have g2 : (namedP q.2.2.2.1) = false := Bool.eq_false_iff.2 g1
    rw [g2] at hT
    refine aP 5 rfl (s_call_keep cl85 (hT) (first := []) (cap := []) rfl rfl rfl (dd rfl) (rX (by repeat constructor)) (fun _ => sX) (fun _ _ => aK ?_))
    refine aT 6 rfl vT ?_
    refine aT 7 rfl vM ?_
    refine a_know (s := 19) rfl (show _ = Value.bool false from rfl) ?_
    refine aX 8 rfl ?_
    refine aX 9 rfl ?_
    refine aX 10 rfl ?_
    refine aX 11 rfl ?_
    refine aX 12 rfl ?_
    refine aX 13 rfl ?_
    refine aX 14 rfl ?_
    refine aX 15 rfl ?_
    refine aT 16 rfl vQ ?_
    refine aT 17 rfl vA ?_
    refine a_done (by kernel_rfl) ?_ _
    refine c_ret1 Tryz.func12 rfl rfl fun w O hS => ?_
    exact ⟨(), congrArg Value.bool (decide_eq_false (by rw [hi, g2]; simp)).symm, trivial, trivial⟩
set_option maxRecDepth 100000 in
theorem right10_con (q : Rq9) (d f l : Value) (hk : q.1 = 10) (hq : FineQ q) : Con Tryz.prog 12 [.agg #[.int .i64 q.1, .int .i64 q.2.1, .int .i64 q.2.2.1, .string q.2.2.2.1, .string q.2.2.2.2.1, d, f, l]] [Sl (eInt .i64) d q.2.2.2.2.2.1, Sl eStr f q.2.2.2.2.2.2.1, Sl ePr l q.2.2.2.2.2.2.2] (γ := Unit) (fun _ => .bool (decide (RightQ q))) (fun _ => True) (fun _ => []) := by
  have hlk : ∀ b1 b2, Go.SL.look (kindsM b1 b2) q.1 = some (.agg #[fnV 101, fnV 81]) := fun b1 b2 => by rw [hk]; exact look10 b1 b2
  have hT := tWatch_con q d f l hq.name
  have hR := rName_con q d f l
  have hi := right_iff10 hk
  have hS := sameReq_con (q.1, q.2.1, q.2.2.1, ⟨#[]⟩, q.2.2.2.2.1, q.2.2.2.2.2.1, q.2.2.2.2.2.2.1, q.2.2.2.2.2.2.2) (zeroQ q.1) (d) (f) (l) (.slice none 0 0) (.slice none 0 0) (.slice none 0 0) ⟨hq.size.1, hq.size.2.1, hq.size.2.2⟩ (zeroQ_size _)
  dsimp only at hS
  refine con_of Tryz.func12 rfl (dd rfl) fun w0 O0 => ?_
  refine c_seq (c_region ?_)
  refine o_step (s_box rfl (dd rfl) (fun b1 => ?_))
  refine oV vA ?_
  refine o_nil (c_seq ?_)
  refine c_joinR (γ := Nat × Nat × Nat × Nat) [(1, _), (2, _)] (fun _ => True) (fun g => [(3, ptr g.1), (4, .bool true)]) (fun g => [Blk g.1 77 [fnV 101, fnV 81], Blk b1 32 [.int .i64 q.1, .int .i64 q.2.1, .int .i64 q.2.2.1, .string q.2.2.2.1, .string q.2.2.2.2.1, d, f, l], Sl (eInt .i64) d q.2.2.2.2.2.1, Sl eStr f q.2.2.2.2.2.2.1, Sl ePr l q.2.2.2.2.2.2.2, Blk g.2.2.1 75 [fnV 81], Blk g.2.2.2 75 [fnV 82]]) (by repeat (first | exact trivial | refine ⟨rfl, ?_⟩)) ?_ ?_
  rotate_left
  · intro MEET
    skip
    refine c_held [BlkR b1 32 [.int .i64 q.1, .int .i64 q.2.1, .int .i64 q.2.2.1, .string q.2.2.2.1, .string q.2.2.2.2.1, d, f, l], Sl (eInt .i64) d q.2.2.2.2.2.1, Sl eStr f q.2.2.2.2.2.2.1, Sl ePr l q.2.2.2.2.2.2.2] rfl ?_
    refine aT 1 rfl (vF 0 Tryz.underlying32 ti3) ?_
    refine aT 2 rfl (vL lone3) ?_
    refine a_two 0 7 rfl rfl (by kernel_rfl) ?_ ?_
    · skip
      refine s_callf cl39 (kinds_con) rfl (dd rfl) (pXs (by repeat constructor)) (fun g _ => aK ?_)
      refine a_two 3 7 rfl rfl (by kernel_rfl) ?_ ?_
      · skip
        refine s_val (v_lookupS kInt Tryz.underlying79 Tryz.underlying3 ti77 rfl rfl (hX (by repeat constructor)) (hlk g.2.1 g.2.2)) (dd rfl) (aK ?_)
        refine aT 4 rfl vM ?_
        refine aT 5 rfl vE ?_
        refine aT 6 rfl vE ?_
        refine aO 7 rfl (s_alloc ti77 (dd rfl) (fun b3 => aK ?_))
        refine aS 8 rfl ti77 ?_
        refine aT 9 rfl vA ?_
        refine a_done (by kernel_rfl) ?_ _
        refine cU (MEET ((b3, g)) (trivial))
      · skip
        refine s_alloc ti77 (dd rfl) (fun b3 => aK ?_)
        refine aO 3 rfl (s_val (v_lookupS kInt Tryz.underlying79 Tryz.underlying3 ti77 rfl rfl (hX (by repeat constructor)) (hlk g.2.1 g.2.2)) (dd rfl) (aK ?_))
        refine aT 4 rfl vM ?_
        refine aT 5 rfl vE ?_
        refine aT 6 rfl vE ?_
        refine aS 8 rfl ti77 ?_
        refine aT 9 rfl vA ?_
        refine a_done (by kernel_rfl) ?_ _
        refine cU (MEET ((b3, g)) (trivial))
    · skip
      refine s_alloc ti77 (dd rfl) (fun b3 => aK ?_)
      refine aO 0 rfl (s_callf cl39 (kinds_con) rfl (dd rfl) (pXs (by repeat constructor)) (fun g _ => aK ?_))
      refine aO 3 rfl (s_val (v_lookupS kInt Tryz.underlying79 Tryz.underlying3 ti77 rfl rfl (hX (by repeat constructor)) (hlk g.2.1 g.2.2)) (dd rfl) (aK ?_))
      refine aT 4 rfl vM ?_
      refine aT 5 rfl vE ?_
      refine aT 6 rfl vE ?_
      refine aS 8 rfl ti77 ?_
      refine aT 9 rfl vA ?_
      refine a_done (by kernel_rfl) ?_ _
      refine cU (MEET ((b3, g)) (trivial))
  rintro ⟨b3, bm, bn, bg⟩ -
  dsimp only [List.cons_append, List.nil_append]
  refine c_seq ?_
  refine c_held [BlkR b3 77 [fnV 101, fnV 81], BlkR b1 32 [.int .i64 q.1, .int .i64 q.2.1, .int .i64 q.2.2.1, .string q.2.2.2.1, .string q.2.2.2.2.1, d, f, l], Sl (eInt .i64) d q.2.2.2.2.2.1, Sl eStr f q.2.2.2.2.2.2.1, Sl ePr l q.2.2.2.2.2.2.2] rfl ?_
  refine aT 0 rfl vM ?_
  refine aT 1 rfl vM ?_
  refine aN 2 rfl (vF 0 Tryz.underlying77 ti29) ?_
  refine aN 3 rfl (vL lone29) ?_
  refine aN 4 rfl (vW Tryz.underlying32 ti32) ?_
  by_cases g1 : (decide (q.2.2.2.1 = ⟨#[]⟩) || namedP q.2.2.2.1) = true
  · rw [g1] at hT
    refine aP 5 rfl (s_call_keep cl101 (hT) (first := []) (cap := []) rfl rfl rfl (dd rfl) (rX (by repeat constructor)) (fun _ => sX) (fun _ _ => aK ?_))
    refine aT 6 rfl vT ?_
    refine aT 7 rfl vM ?_
    refine a_know (s := 19) rfl (show _ = Value.bool true from rfl) ?_
    refine aN 8 rfl (vF 1 Tryz.underlying77 ti75) ?_
    refine aN 9 rfl (vL lone75) ?_
    refine aN 10 rfl (vW Tryz.underlying32 ti32) ?_
    refine aN 12 rfl (vF 0 Tryz.underlying32 ti3) ?_
    refine aN 13 rfl (vL lone3) ?_
    refine aN 14 rfl (v_buildS (places := [(0, 1), (1, 1), (2, 1), (3, 1), (4, 1), (5, 1), (6, 1), (7, 1)]) (cells := [_, .int .i64 0, .int .i64 0, .string ⟨#[]⟩, .string ⟨#[]⟩, .slice none 0 0, .slice none 0 0, .slice none 0 0]) Tryz.underlying32 ti32 (by kernel_rfl) rfl (by repeat (first | exact PartsC.nil | (apply PartsC.one (by first | exact OneC.lit rfl | exact OneC.sl (hX (by repeat constructor)) )) | (apply PartsC.lit rfl))) rfl) ?_
    refine aP 11 rfl (s_call_keep cl81 (hR) (first := []) (cap := []) rfl rfl rfl (dd rfl) (rX (by repeat constructor)) (fun _ => sX) (fun _ _ => aK ?_))
    refine aP 15 rfl (s_callf cl15 (hS) rfl (dd rfl) (pXs (by repeat constructor)) (fun _ _ => aK ?_))
    refine aT 16 rfl vT ?_
    refine aT 17 rfl vA ?_
    refine a_done (by kernel_rfl) ?_ _
    refine c_ret1 Tryz.func12 rfl rfl fun w O hS => ?_
    exact ⟨(), congrArg Value.bool (decide_eq_decide.2 (by rw [hi, g1]; simp)), trivial, trivial⟩
  · have g2 : (decide (q.2.2.2.1 = ⟨#[]⟩) || namedP q.2.2.2.1) = false := Bool.eq_false_iff.2 g1
    rw [g2] at hT
    refine aP 5 rfl (s_call_keep cl101 (hT) (first := []) (cap := []) rfl rfl rfl (dd rfl) (rX (by repeat constructor)) (fun _ => sX) (fun _ _ => aK ?_))
    refine aT 6 rfl vT ?_
    refine aT 7 rfl vM ?_
    refine a_know (s := 19) rfl (show _ = Value.bool false from rfl) ?_
    refine aX 8 rfl ?_
    refine aX 9 rfl ?_
    refine aX 10 rfl ?_
    refine aX 11 rfl ?_
    refine aX 12 rfl ?_
    refine aX 13 rfl ?_
    refine aX 14 rfl ?_
    refine aX 15 rfl ?_
    refine aT 16 rfl vQ ?_
    refine aT 17 rfl vA ?_
    refine a_done (by kernel_rfl) ?_ _
    refine c_ret1 Tryz.func12 rfl rfl fun w O hS => ?_
    exact ⟨(), congrArg Value.bool (decide_eq_false (by rw [hi, g2]; simp)).symm, trivial, trivial⟩
set_option maxRecDepth 100000 in
theorem right11_con (q : Rq9) (d f l : Value) (hk : q.1 = 11) (hq : FineQ q) : Con Tryz.prog 12 [.agg #[.int .i64 q.1, .int .i64 q.2.1, .int .i64 q.2.2.1, .string q.2.2.2.1, .string q.2.2.2.2.1, d, f, l]] [Sl (eInt .i64) d q.2.2.2.2.2.1, Sl eStr f q.2.2.2.2.2.2.1, Sl ePr l q.2.2.2.2.2.2.2] (γ := Unit) (fun _ => .bool (decide (RightQ q))) (fun _ => True) (fun _ => []) := by
  have hlk : ∀ b1 b2, Go.SL.look (kindsM b1 b2) q.1 = some (.agg #[fnV 83, fnV 84]) := fun b1 b2 => by rw [hk]; exact look11 b1 b2
  have hT := tNone_con q d f l
  have hR := rNone_con q d f l
  have hi := right_iff11 hk
  have hS := sameReq_con (q.1, q.2.1, q.2.2.1, q.2.2.2.1, q.2.2.2.2.1, q.2.2.2.2.2.1, q.2.2.2.2.2.2.1, q.2.2.2.2.2.2.2) (zeroQ q.1) (d) (f) (l) (.slice none 0 0) (.slice none 0 0) (.slice none 0 0) ⟨hq.size.1, hq.size.2.1, hq.size.2.2⟩ (zeroQ_size _)
  dsimp only at hS
  refine con_of Tryz.func12 rfl (dd rfl) fun w0 O0 => ?_
  refine c_seq (c_region ?_)
  refine o_step (s_box rfl (dd rfl) (fun b1 => ?_))
  refine oV vA ?_
  refine o_nil (c_seq ?_)
  refine c_joinR (γ := Nat × Nat × Nat × Nat) [(1, _), (2, _)] (fun _ => True) (fun g => [(3, ptr g.1), (4, .bool true)]) (fun g => [Blk g.1 77 [fnV 83, fnV 84], Blk b1 32 [.int .i64 q.1, .int .i64 q.2.1, .int .i64 q.2.2.1, .string q.2.2.2.1, .string q.2.2.2.2.1, d, f, l], Sl (eInt .i64) d q.2.2.2.2.2.1, Sl eStr f q.2.2.2.2.2.2.1, Sl ePr l q.2.2.2.2.2.2.2, Blk g.2.2.1 75 [fnV 81], Blk g.2.2.2 75 [fnV 82]]) (by repeat (first | exact trivial | refine ⟨rfl, ?_⟩)) ?_ ?_
  rotate_left
  · intro MEET
    skip
    refine c_held [BlkR b1 32 [.int .i64 q.1, .int .i64 q.2.1, .int .i64 q.2.2.1, .string q.2.2.2.1, .string q.2.2.2.2.1, d, f, l], Sl (eInt .i64) d q.2.2.2.2.2.1, Sl eStr f q.2.2.2.2.2.2.1, Sl ePr l q.2.2.2.2.2.2.2] rfl ?_
    refine aT 1 rfl (vF 0 Tryz.underlying32 ti3) ?_
    refine aT 2 rfl (vL lone3) ?_
    refine a_two 0 7 rfl rfl (by kernel_rfl) ?_ ?_
    · skip
      refine s_callf cl39 (kinds_con) rfl (dd rfl) (pXs (by repeat constructor)) (fun g _ => aK ?_)
      refine a_two 3 7 rfl rfl (by kernel_rfl) ?_ ?_
      · skip
        refine s_val (v_lookupS kInt Tryz.underlying79 Tryz.underlying3 ti77 rfl rfl (hX (by repeat constructor)) (hlk g.2.1 g.2.2)) (dd rfl) (aK ?_)
        refine aT 4 rfl vM ?_
        refine aT 5 rfl vE ?_
        refine aT 6 rfl vE ?_
        refine aO 7 rfl (s_alloc ti77 (dd rfl) (fun b3 => aK ?_))
        refine aS 8 rfl ti77 ?_
        refine aT 9 rfl vA ?_
        refine a_done (by kernel_rfl) ?_ _
        refine cU (MEET ((b3, g)) (trivial))
      · skip
        refine s_alloc ti77 (dd rfl) (fun b3 => aK ?_)
        refine aO 3 rfl (s_val (v_lookupS kInt Tryz.underlying79 Tryz.underlying3 ti77 rfl rfl (hX (by repeat constructor)) (hlk g.2.1 g.2.2)) (dd rfl) (aK ?_))
        refine aT 4 rfl vM ?_
        refine aT 5 rfl vE ?_
        refine aT 6 rfl vE ?_
        refine aS 8 rfl ti77 ?_
        refine aT 9 rfl vA ?_
        refine a_done (by kernel_rfl) ?_ _
        refine cU (MEET ((b3, g)) (trivial))
    · skip
      refine s_alloc ti77 (dd rfl) (fun b3 => aK ?_)
      refine aO 0 rfl (s_callf cl39 (kinds_con) rfl (dd rfl) (pXs (by repeat constructor)) (fun g _ => aK ?_))
      refine aO 3 rfl (s_val (v_lookupS kInt Tryz.underlying79 Tryz.underlying3 ti77 rfl rfl (hX (by repeat constructor)) (hlk g.2.1 g.2.2)) (dd rfl) (aK ?_))
      refine aT 4 rfl vM ?_
      refine aT 5 rfl vE ?_
      refine aT 6 rfl vE ?_
      refine aS 8 rfl ti77 ?_
      refine aT 9 rfl vA ?_
      refine a_done (by kernel_rfl) ?_ _
      refine cU (MEET ((b3, g)) (trivial))
  rintro ⟨b3, bm, bn, bg⟩ -
  dsimp only [List.cons_append, List.nil_append]
  refine c_seq ?_
  refine c_held [BlkR b3 77 [fnV 83, fnV 84], BlkR b1 32 [.int .i64 q.1, .int .i64 q.2.1, .int .i64 q.2.2.1, .string q.2.2.2.1, .string q.2.2.2.2.1, d, f, l], Sl (eInt .i64) d q.2.2.2.2.2.1, Sl eStr f q.2.2.2.2.2.2.1, Sl ePr l q.2.2.2.2.2.2.2] rfl ?_
  refine aT 0 rfl vM ?_
  refine aT 1 rfl vM ?_
  refine aN 2 rfl (vF 0 Tryz.underlying77 ti29) ?_
  refine aN 3 rfl (vL lone29) ?_
  refine aN 4 rfl (vW Tryz.underlying32 ti32) ?_
  refine aP 5 rfl (s_call_keep cl83 (hT) (first := []) (cap := []) rfl rfl rfl (dd rfl) (rX (by repeat constructor)) (fun _ => sX) (fun _ _ => aK ?_))
  refine aT 6 rfl vT ?_
  refine aT 7 rfl vM ?_
  refine a_know (s := 19) rfl (show _ = Value.bool true from rfl) ?_
  refine aN 8 rfl (vF 1 Tryz.underlying77 ti75) ?_
  refine aN 9 rfl (vL lone75) ?_
  refine aN 10 rfl (vW Tryz.underlying32 ti32) ?_
  refine aN 12 rfl (vF 0 Tryz.underlying32 ti3) ?_
  refine aN 13 rfl (vL lone3) ?_
  refine aN 14 rfl (v_buildS (places := [(0, 1), (1, 1), (2, 1), (3, 1), (4, 1), (5, 1), (6, 1), (7, 1)]) (cells := [_, .int .i64 0, .int .i64 0, .string ⟨#[]⟩, .string ⟨#[]⟩, .slice none 0 0, .slice none 0 0, .slice none 0 0]) Tryz.underlying32 ti32 (by kernel_rfl) rfl (by repeat (first | exact PartsC.nil | (apply PartsC.one (by first | exact OneC.lit rfl | exact OneC.sl (hX (by repeat constructor)) )) | (apply PartsC.lit rfl))) rfl) ?_
  refine aP 11 rfl (s_call_keep cl84 (hR) (first := []) (cap := []) rfl rfl rfl (dd rfl) (rX (by repeat constructor)) (fun _ => sX) (fun _ _ => aK ?_))
  refine aP 15 rfl (s_callf cl15 (hS) rfl (dd rfl) (pXs (by repeat constructor)) (fun _ _ => aK ?_))
  refine aT 16 rfl vT ?_
  refine aT 17 rfl vA ?_
  refine a_done (by kernel_rfl) ?_ _
  refine c_ret1 Tryz.func12 rfl rfl fun w O hS => ?_
  exact ⟨(), congrArg Value.bool (decide_eq_decide.2 (by rw [hi]; simp)), trivial, trivial⟩
set_option maxRecDepth 100000 in
theorem right12_con (q : Rq9) (d f l : Value) (hk : q.1 = 12) (hq : FineQ q) : Con Tryz.prog 12 [.agg #[.int .i64 q.1, .int .i64 q.2.1, .int .i64 q.2.2.1, .string q.2.2.2.1, .string q.2.2.2.2.1, d, f, l]] [Sl (eInt .i64) d q.2.2.2.2.2.1, Sl eStr f q.2.2.2.2.2.2.1, Sl ePr l q.2.2.2.2.2.2.2] (γ := Unit) (fun _ => .bool (decide (RightQ q))) (fun _ => True) (fun _ => []) := by
  have hlk : ∀ b1 b2, Go.SL.look (kindsM b1 b2) q.1 = some (.agg #[fnV 102, fnV 103]) := fun b1 b2 => by rw [hk]; exact look12 b1 b2
  have hT := tTake_con q d f l
  have hR := rTake_con q d f l
  have hi := right_iff12 hk
  have hS := sameReq_con (q.1, q.2.1, 0, q.2.2.2.1, q.2.2.2.2.1, q.2.2.2.2.2.1, q.2.2.2.2.2.2.1, q.2.2.2.2.2.2.2) (zeroQ q.1) (d) (f) (l) (.slice none 0 0) (.slice none 0 0) (.slice none 0 0) ⟨hq.size.1, hq.size.2.1, hq.size.2.2⟩ (zeroQ_size _)
  dsimp only at hS
  refine con_of Tryz.func12 rfl (dd rfl) fun w0 O0 => ?_
  refine c_seq (c_region ?_)
  refine o_step (s_box rfl (dd rfl) (fun b1 => ?_))
  refine oV vA ?_
  refine o_nil (c_seq ?_)
  refine c_joinR (γ := Nat × Nat × Nat × Nat) [(1, _), (2, _)] (fun _ => True) (fun g => [(3, ptr g.1), (4, .bool true)]) (fun g => [Blk g.1 77 [fnV 102, fnV 103], Blk b1 32 [.int .i64 q.1, .int .i64 q.2.1, .int .i64 q.2.2.1, .string q.2.2.2.1, .string q.2.2.2.2.1, d, f, l], Sl (eInt .i64) d q.2.2.2.2.2.1, Sl eStr f q.2.2.2.2.2.2.1, Sl ePr l q.2.2.2.2.2.2.2, Blk g.2.2.1 75 [fnV 81], Blk g.2.2.2 75 [fnV 82]]) (by repeat (first | exact trivial | refine ⟨rfl, ?_⟩)) ?_ ?_
  rotate_left
  · intro MEET
    skip
    refine c_held [BlkR b1 32 [.int .i64 q.1, .int .i64 q.2.1, .int .i64 q.2.2.1, .string q.2.2.2.1, .string q.2.2.2.2.1, d, f, l], Sl (eInt .i64) d q.2.2.2.2.2.1, Sl eStr f q.2.2.2.2.2.2.1, Sl ePr l q.2.2.2.2.2.2.2] rfl ?_
    refine aT 1 rfl (vF 0 Tryz.underlying32 ti3) ?_
    refine aT 2 rfl (vL lone3) ?_
    refine a_two 0 7 rfl rfl (by kernel_rfl) ?_ ?_
    · skip
      refine s_callf cl39 (kinds_con) rfl (dd rfl) (pXs (by repeat constructor)) (fun g _ => aK ?_)
      refine a_two 3 7 rfl rfl (by kernel_rfl) ?_ ?_
      · skip
        refine s_val (v_lookupS kInt Tryz.underlying79 Tryz.underlying3 ti77 rfl rfl (hX (by repeat constructor)) (hlk g.2.1 g.2.2)) (dd rfl) (aK ?_)
        refine aT 4 rfl vM ?_
        refine aT 5 rfl vE ?_
        refine aT 6 rfl vE ?_
        refine aO 7 rfl (s_alloc ti77 (dd rfl) (fun b3 => aK ?_))
        refine aS 8 rfl ti77 ?_
        refine aT 9 rfl vA ?_
        refine a_done (by kernel_rfl) ?_ _
        refine cU (MEET ((b3, g)) (trivial))
      · skip
        refine s_alloc ti77 (dd rfl) (fun b3 => aK ?_)
        refine aO 3 rfl (s_val (v_lookupS kInt Tryz.underlying79 Tryz.underlying3 ti77 rfl rfl (hX (by repeat constructor)) (hlk g.2.1 g.2.2)) (dd rfl) (aK ?_))
        refine aT 4 rfl vM ?_
        refine aT 5 rfl vE ?_
        refine aT 6 rfl vE ?_
        refine aS 8 rfl ti77 ?_
        refine aT 9 rfl vA ?_
        refine a_done (by kernel_rfl) ?_ _
        refine cU (MEET ((b3, g)) (trivial))
    · skip
      refine s_alloc ti77 (dd rfl) (fun b3 => aK ?_)
      refine aO 0 rfl (s_callf cl39 (kinds_con) rfl (dd rfl) (pXs (by repeat constructor)) (fun g _ => aK ?_))
      refine aO 3 rfl (s_val (v_lookupS kInt Tryz.underlying79 Tryz.underlying3 ti77 rfl rfl (hX (by repeat constructor)) (hlk g.2.1 g.2.2)) (dd rfl) (aK ?_))
      refine aT 4 rfl vM ?_
      refine aT 5 rfl vE ?_
      refine aT 6 rfl vE ?_
      refine aS 8 rfl ti77 ?_
      refine aT 9 rfl vA ?_
      refine a_done (by kernel_rfl) ?_ _
      refine cU (MEET ((b3, g)) (trivial))
  rintro ⟨b3, bm, bn, bg⟩ -
  dsimp only [List.cons_append, List.nil_append]
  refine c_seq ?_
  refine c_held [BlkR b3 77 [fnV 102, fnV 103], BlkR b1 32 [.int .i64 q.1, .int .i64 q.2.1, .int .i64 q.2.2.1, .string q.2.2.2.1, .string q.2.2.2.2.1, d, f, l], Sl (eInt .i64) d q.2.2.2.2.2.1, Sl eStr f q.2.2.2.2.2.2.1, Sl ePr l q.2.2.2.2.2.2.2] rfl ?_
  refine aT 0 rfl vM ?_
  refine aT 1 rfl vM ?_
  refine aN 2 rfl (vF 0 Tryz.underlying77 ti29) ?_
  refine aN 3 rfl (vL lone29) ?_
  refine aN 4 rfl (vW Tryz.underlying32 ti32) ?_
  by_cases g1 : (decide (0 ≤ q.2.2.1 ∧ q.2.2.1 ≤ 100)) = true
  · rw [g1] at hT
    refine aP 5 rfl (s_call_keep cl102 (hT) (first := []) (cap := []) rfl rfl rfl (dd rfl) (rX (by repeat constructor)) (fun _ => sX) (fun _ _ => aK ?_))
    refine aT 6 rfl vT ?_
    refine aT 7 rfl vM ?_
    refine a_know (s := 19) rfl (show _ = Value.bool true from rfl) ?_
    refine aN 8 rfl (vF 1 Tryz.underlying77 ti75) ?_
    refine aN 9 rfl (vL lone75) ?_
    refine aN 10 rfl (vW Tryz.underlying32 ti32) ?_
    refine aN 12 rfl (vF 0 Tryz.underlying32 ti3) ?_
    refine aN 13 rfl (vL lone3) ?_
    refine aN 14 rfl (v_buildS (places := [(0, 1), (1, 1), (2, 1), (3, 1), (4, 1), (5, 1), (6, 1), (7, 1)]) (cells := [_, .int .i64 0, .int .i64 0, .string ⟨#[]⟩, .string ⟨#[]⟩, .slice none 0 0, .slice none 0 0, .slice none 0 0]) Tryz.underlying32 ti32 (by kernel_rfl) rfl (by repeat (first | exact PartsC.nil | (apply PartsC.one (by first | exact OneC.lit rfl | exact OneC.sl (hX (by repeat constructor)) )) | (apply PartsC.lit rfl))) rfl) ?_
    refine aP 11 rfl (s_call_keep cl103 (hR) (first := []) (cap := []) rfl rfl rfl (dd rfl) (rX (by repeat constructor)) (fun _ => sX) (fun _ _ => aK ?_))
    refine aP 15 rfl (s_callf cl15 (hS) rfl (dd rfl) (pXs (by repeat constructor)) (fun _ _ => aK ?_))
    refine aT 16 rfl vT ?_
    refine aT 17 rfl vA ?_
    refine a_done (by kernel_rfl) ?_ _
    refine c_ret1 Tryz.func12 rfl rfl fun w O hS => ?_
    exact ⟨(), congrArg Value.bool (decide_eq_decide.2 (by rw [hi, g1]; simp)), trivial, trivial⟩
  · have g2 : (decide (0 ≤ q.2.2.1 ∧ q.2.2.1 ≤ 100)) = false := Bool.eq_false_iff.2 g1
    rw [g2] at hT
    refine aP 5 rfl (s_call_keep cl102 (hT) (first := []) (cap := []) rfl rfl rfl (dd rfl) (rX (by repeat constructor)) (fun _ => sX) (fun _ _ => aK ?_))
    refine aT 6 rfl vT ?_
    refine aT 7 rfl vM ?_
    refine a_know (s := 19) rfl (show _ = Value.bool false from rfl) ?_
    refine aX 8 rfl ?_
    refine aX 9 rfl ?_
    refine aX 10 rfl ?_
    refine aX 11 rfl ?_
    refine aX 12 rfl ?_
    refine aX 13 rfl ?_
    refine aX 14 rfl ?_
    refine aX 15 rfl ?_
    refine aT 16 rfl vQ ?_
    refine aT 17 rfl vA ?_
    refine a_done (by kernel_rfl) ?_ _
    refine c_ret1 Tryz.func12 rfl rfl fun w O hS => ?_
    exact ⟨(), congrArg Value.bool (decide_eq_false (by rw [hi, g2]; simp)).symm, trivial, trivial⟩
set_option maxRecDepth 100000 in
theorem rightN_con (q : Rq9) (d f l : Value) (hk : q.1 < 0 ∨ 12 < q.1) : Con Tryz.prog 12 [.agg #[.int .i64 q.1, .int .i64 q.2.1, .int .i64 q.2.2.1, .string q.2.2.2.1, .string q.2.2.2.2.1, d, f, l]] [Sl (eInt .i64) d q.2.2.2.2.2.1, Sl eStr f q.2.2.2.2.2.2.1, Sl ePr l q.2.2.2.2.2.2.2] (γ := Unit) (fun _ => .bool (decide (RightQ q))) (fun _ => True) (fun _ => []) := by
  have hlk : ∀ b1 b2, Go.SL.look (kindsM b1 b2) q.1 = none := fun b1 b2 => lookN b1 b2 hk
  refine con_of Tryz.func12 rfl (dd rfl) fun w0 O0 => ?_
  refine c_seq (c_region ?_)
  refine o_step (s_box rfl (dd rfl) (fun b1 => ?_))
  refine oV vA ?_
  refine o_nil (c_seq ?_)
  refine c_joinR (γ := Unit) [(1, _), (2, _)] (fun _ => True) (fun g => [(4, .bool false)]) (fun g => [Blk b1 32 [.int .i64 q.1, .int .i64 q.2.1, .int .i64 q.2.2.1, .string q.2.2.2.1, .string q.2.2.2.2.1, d, f, l]]) (by repeat (first | exact trivial | refine ⟨rfl, ?_⟩)) ?_ ?_
  rotate_left
  · intro MEET
    skip
    refine c_held [BlkR b1 32 [.int .i64 q.1, .int .i64 q.2.1, .int .i64 q.2.2.1, .string q.2.2.2.1, .string q.2.2.2.2.1, d, f, l], Sl (eInt .i64) d q.2.2.2.2.2.1, Sl eStr f q.2.2.2.2.2.2.1, Sl ePr l q.2.2.2.2.2.2.2] rfl ?_
    refine aT 1 rfl (vF 0 Tryz.underlying32 ti3) ?_
    refine aT 2 rfl (vL lone3) ?_
    refine a_two 0 7 rfl rfl (by kernel_rfl) ?_ ?_
    · skip
      refine s_callf cl39 (kinds_con) rfl (dd rfl) (pXs (by repeat constructor)) (fun g _ => aK ?_)
      refine a_two 3 7 rfl rfl (by kernel_rfl) ?_ ?_
      · skip
        refine s_val (v_lookupN kInt Tryz.underlying79 Tryz.underlying3 ti77 rfl rfl (hX (by repeat constructor)) (hlk g.2.1 g.2.2)) (dd rfl) (aK ?_)
        refine aT 4 rfl vM ?_
        refine aT 5 rfl vE ?_
        refine aT 6 rfl vE ?_
        refine aO 7 rfl (s_alloc ti77 (dd rfl) (fun b3 => aK ?_))
        refine aS 8 rfl ti77 ?_
        refine aT 9 rfl vA ?_
        refine a_done (by kernel_rfl) ?_ _
        refine cU (MEET (()) (trivial))
      · skip
        refine s_alloc ti77 (dd rfl) (fun b3 => aK ?_)
        refine aO 3 rfl (s_val (v_lookupN kInt Tryz.underlying79 Tryz.underlying3 ti77 rfl rfl (hX (by repeat constructor)) (hlk g.2.1 g.2.2)) (dd rfl) (aK ?_))
        refine aT 4 rfl vM ?_
        refine aT 5 rfl vE ?_
        refine aT 6 rfl vE ?_
        refine aS 8 rfl ti77 ?_
        refine aT 9 rfl vA ?_
        refine a_done (by kernel_rfl) ?_ _
        refine cU (MEET (()) (trivial))
    · skip
      refine s_alloc ti77 (dd rfl) (fun b3 => aK ?_)
      refine aO 0 rfl (s_callf cl39 (kinds_con) rfl (dd rfl) (pXs (by repeat constructor)) (fun g _ => aK ?_))
      refine aO 3 rfl (s_val (v_lookupN kInt Tryz.underlying79 Tryz.underlying3 ti77 rfl rfl (hX (by repeat constructor)) (hlk g.2.1 g.2.2)) (dd rfl) (aK ?_))
      refine aT 4 rfl vM ?_
      refine aT 5 rfl vE ?_
      refine aT 6 rfl vE ?_
      refine aS 8 rfl ti77 ?_
      refine aT 9 rfl vA ?_
      refine a_done (by kernel_rfl) ?_ _
      refine cU (MEET (()) (trivial))
  rintro - -
  dsimp only [List.cons_append, List.nil_append]
  refine c_seq ?_
  refine c_held [BlkR b1 32 [.int .i64 q.1, .int .i64 q.2.1, .int .i64 q.2.2.1, .string q.2.2.2.1, .string q.2.2.2.2.1, d, f, l]] rfl ?_
  refine aT 0 rfl vM ?_
  refine aT 1 rfl vM ?_
  refine aX 2 rfl ?_
  refine aX 3 rfl ?_
  refine aX 4 rfl ?_
  refine aX 5 rfl ?_
  refine aT 6 rfl vQ ?_
  refine aT 7 rfl vM ?_
  refine aX 8 rfl ?_
  refine aX 9 rfl ?_
  refine aX 10 rfl ?_
  refine aX 11 rfl ?_
  refine aX 12 rfl ?_
  refine aX 13 rfl ?_
  refine aX 14 rfl ?_
  refine aX 15 rfl ?_
  refine aT 16 rfl vQ ?_
  refine aT 17 rfl vA ?_
  refine a_done (by kernel_rfl) ?_ _
  refine c_ret1 Tryz.func12 rfl rfl fun w O hS => ?_
  exact ⟨(), congrArg Value.bool (decide_eq_false (right_none hk)).symm, trivial, trivial⟩
theorem reqRight_con (q : Rq9) (d f l : Value) (hq : FineQ q) : Con Tryz.prog 12 [.agg #[.int .i64 q.1, .int .i64 q.2.1, .int .i64 q.2.2.1, .string q.2.2.2.1, .string q.2.2.2.2.1, d, f, l]] [Sl (eInt .i64) d q.2.2.2.2.2.1, Sl eStr f q.2.2.2.2.2.2.1, Sl ePr l q.2.2.2.2.2.2.2] (γ := Unit) (fun _ => .bool (decide (RightQ q))) (fun _ => True) (fun _ => []) := by
  by_cases hn : q.1 < 0 ∨ 12 < q.1
  · exact rightN_con q d f l hn
  have h : q.1 = 0 ∨ q.1 = 1 ∨ q.1 = 2 ∨ q.1 = 3 ∨ q.1 = 4 ∨ q.1 = 5 ∨ q.1 = 6 ∨ q.1 = 7 ∨ q.1 = 8 ∨ q.1 = 9 ∨ q.1 = 10 ∨ q.1 = 11 ∨ q.1 = 12 := by omega
  rcases h with h | h | h | h | h | h | h | h | h | h | h | h | h
  · exact right0_con q d f l h hq
  · exact right1_con q d f l h hq
  · exact right2_con q d f l h hq
  · exact right3_con q d f l h hq
  · exact right4_con q d f l h hq
  · exact right5_con q d f l h hq
  · exact right6_con q d f l h hq
  · exact right7_con q d f l h hq
  · exact right8_con q d f l h hq
  · exact right9_con q d f l h hq
  · exact right10_con q d f l h hq
  · exact right11_con q d f l h hq
  · exact right12_con q d f l h hq
end Go.Proofs.YtlfehnnmpkohkaaGreatDoor
/- Chapter 16: which requests may be, as the document asks. -/
namespace Go.Proofs.YtlfehnnmpkohkaaGreatDoor
open Go Go.Lib
def needI (k : Int) : Bool := decide (k = 1 ∨ k = 2 ∨ k = 3 ∨ k = 12)
def needN (k : Int) : Bool := decide (k = 5 ∨ k = 6 ∨ k = 9 ∨ k = 10)
def needF (k : Int) : Bool := decide (k = 1 ∨ k = 2 ∨ k = 4 ∨ k = 5)
/-- What a kind needs, by the field's name. -/
def needsV (fd : ByteArray) (k : Int) : Bool :=
  if fd = ⟨#[98, 97, 115, 101]⟩ ∨ fd = ⟨#[108]⟩ then decide (k = 0) else if fd = ⟨#[110, 111, 116, 101]⟩ ∨ fd = ⟨#[100, 101, 112, 115]⟩ then decide (k = 1) else if fd = ⟨#[105, 100]⟩ then needI k else if fd = ⟨#[110, 97, 109, 101]⟩ then needN k else needF k
theorem nd_base (k : Int) : needsV ⟨#[98, 97, 115, 101]⟩ k = decide (k = 0) := rfl
theorem nd_l (k : Int) : needsV ⟨#[108]⟩ k = decide (k = 0) := rfl
theorem nd_note (k : Int) : needsV ⟨#[110, 111, 116, 101]⟩ k = decide (k = 1) := rfl
theorem nd_deps (k : Int) : needsV ⟨#[100, 101, 112, 115]⟩ k = decide (k = 1) := rfl
theorem nd_id (k : Int) : needsV ⟨#[105, 100]⟩ k = needI k := rfl
theorem nd_name (k : Int) : needsV ⟨#[110, 97, 109, 101]⟩ k = needN k := rfl
theorem nd_files (k : Int) : needsV ⟨#[102, 105, 108, 101, 115]⟩ k = needF k := rfl
def bad1 (q : Rq9) : Prop := q.1 < 0 ∨ 12 < q.1 ∨ q.2.1 < 0 ∨ 1099511627776 < q.2.1 ∨ 24 < q.2.2.2.2.2.2.2.length ∨ ¬ q.2.2.2.2.2.2.2.all rightP = true ∨ ¬ lineP q.2.2.2.2.1 = true ∨ 8 < q.2.2.2.2.2.1.length ∨ 8 < q.2.2.2.2.2.2.1.length
def bad2 (q : Rq9) : Prop := q.2.2.2.1 ≠ ⟨#[]⟩ ∧ ¬ namedP q.2.2.2.1 = true
def bad3 (q : Rq9) : Prop := (q.2.1 ≠ 0 ∧ q.1 ≠ 0) ∨ (q.2.2.1 ≠ 0 ∧ ¬ needI q.1 = true) ∨ (q.2.2.2.1 ≠ ⟨#[]⟩ ∧ ¬ needN q.1 = true) ∨ (q.2.2.2.2.1 ≠ ⟨#[]⟩ ∧ q.1 ≠ 1)
def bad4 (q : Rq9) : Prop := (0 < q.2.2.2.2.2.1.length ∧ q.1 ≠ 1) ∨ (0 < q.2.2.2.2.2.2.1.length ∧ ¬ needF q.1 = true) ∨ ¬ (0 < q.2.2.2.2.2.2.2.length ↔ q.1 = 0)
instance (q : Rq9) : Decidable (bad1 q) := by unfold bad1; infer_instance
instance (q : Rq9) : Decidable (bad2 q) := by unfold bad2; infer_instance
instance (q : Rq9) : Decidable (bad3 q) := by unfold bad3; infer_instance
instance (q : Rq9) : Decidable (bad4 q) := by unfold bad4; infer_instance
theorem named_nil : namedP ⟨#[]⟩ = false := by decide +kernel
theorem line_nil : lineP ⟨#[]⟩ = true := by decide +kernel
theorem len0 {α : Type} {l : List α} : l = [] ↔ ¬ 0 < l.length := by cases l <;> simp
theorem right_bad1 {q : Rq9} (h : bad1 q) : ¬ RightQ q := by
  obtain ⟨k, b, i, n, t, d, f, l⟩ := q
  unfold bad1 at h
  dsimp only at h
  rintro ⟨h1, h2, h3, -, h5, -⟩
  dsimp only at h1 h2 h3 h5
  have e1 : ∀ {α : Type} {l : List α}, l = [] → l.length = 0 := fun h => by rw [h]; rfl
  rcases h with h | h | h | h | h | h | h | h | h
  · omega
  · omega
  · split at h2 <;> omega
  · unfold far9 at h2; split at h2 <;> omega
  · split at h2
    · omega
    · have := e1 h2.2; omega
  · split at h2
    · exact h h2.2.2.2.2
    · rw [h2.2] at h; exact h rfl
  · split at h3
    · exact h h3.1
    · rw [h3.1] at h; exact h line_nil
  · split at h3
    · omega
    · have := e1 h3.2; omega
  · split at h5
    · omega
    · have := e1 h5; omega
theorem right_deps {q : Rq9} (h : RightQ q) : depsP q.2.2.1 0 q.2.2.2.2.2.1 = true := by
  have h3 := h.2.2.1
  split at h3
  · exact h3.2.2
  · rw [h3.2]; rfl
theorem right_files {q : Rq9} (h : RightQ q) : filesP ⟨#[]⟩ q.2.2.2.2.2.2.1 = true := by
  have h3 := h.2.2.2.2.1
  split at h3
  · exact h3.2
  · rw [h3]; rfl
theorem right_bad2 {q : Rq9} (h : bad2 q) : ¬ RightQ q := by
  rintro ⟨-, -, -, -, -, h6⟩
  obtain ⟨a, b⟩ := h
  split at h6
  · exact b h6
  split at h6
  · exact h6.elim a b
  · exact a h6
theorem right_bad3 {q : Rq9} (h : bad3 q) : ¬ RightQ q := by
  obtain ⟨k, b, i, n, t, d, f, l⟩ := q
  unfold bad3 needI needN at h
  simp only [decide_eq_true_eq] at h
  rintro ⟨h1, h2, h3, h4, -, h6⟩
  dsimp only at *
  rcases h with ⟨a, b⟩ | ⟨a, b⟩ | ⟨a, b⟩ | ⟨a, b⟩
  · rw [if_neg b] at h2; exact a h2.1
  · rw [if_neg (by omega), if_neg (by omega)] at h4; exact a h4
  · rw [if_neg (by omega), if_neg (by omega)] at h6; exact a h6
  · rw [if_neg b] at h3; exact a h3.1
theorem right_bad4 {q : Rq9} (h : bad4 q) : ¬ RightQ q := by
  obtain ⟨k, b, i, n, t, d, f, l⟩ := q
  unfold bad4 needF at h
  simp only [decide_eq_true_eq] at h
  rintro ⟨h1, h2, h3, -, h5, -⟩
  dsimp only at *
  rcases h with ⟨a, b⟩ | ⟨a, b⟩ | a
  · rw [if_neg b] at h3; exact absurd a (len0.1 h3.2)
  · rw [if_neg (by omega)] at h5; exact absurd a (len0.1 h5)
  · by_cases hk : k = 0
    · rw [if_pos hk] at h2; exact a ⟨fun _ => hk, fun _ => by omega⟩
    · rw [if_neg hk] at h2; exact a ⟨fun h => absurd h (len0.1 h2.2), fun h => absurd h hk⟩
theorem right_good {q : Rq9} (g1 : ¬ bad1 q) (gd : depsP q.2.2.1 0 q.2.2.2.2.2.1 = true) (gf : filesP ⟨#[]⟩ q.2.2.2.2.2.2.1 = true) (g2 : ¬ bad2 q) (g3 : ¬ bad3 q) (g4 : ¬ bad4 q) :
    RightQ q ↔ (if q.1 = 12 then 0 ≤ q.2.2.1 ∧ q.2.2.1 ≤ 100 else ¬ (needI q.1 = true ∧ (q.2.2.1 < 1 ∨ 1000000000 < q.2.2.1)) ∧ (q.2.2.2.1 ≠ ⟨#[]⟩ ∨ ¬ needN q.1 = true ∨ q.1 = 10)) := by
  obtain ⟨k, b, i, n, t, d, f, l⟩ := q
  unfold bad1 bad2 bad3 bad4 needI needN needF at *
  unfold RightQ
  dsimp only at *
  simp only [decide_eq_true_eq] at *
  have e1 := @len0 _ d
  have e2 := @len0 _ f
  have e3 := @len0 _ l
  have hL : l.all rightP = true := Classical.byContradiction fun h => g1 (.inr (.inr (.inr (.inr (.inr (.inl h))))))
  have hT : lineP t = true := Classical.byContradiction fun h => g1 (.inr (.inr (.inr (.inr (.inr (.inr (.inl h)))))))
  have hN : n = ⟨#[]⟩ ∨ namedP n = true := Classical.byContradiction fun h => g2 ⟨fun e => h (.inl e), fun e => h (.inr e)⟩
  have hk : 0 ≤ k ∧ k ≤ 12 := by omega
  have hb : 0 ≤ b ∧ b ≤ far9 := by unfold far9; omega
  have hl : l.length ≤ 24 ∧ d.length ≤ 8 ∧ f.length ≤ 8 := by omega
  have z0 : k ≠ 0 → b = 0 ∧ l = [] := fun h => ⟨Classical.byContradiction fun e => g3 (.inl ⟨e, h⟩), e3.2 fun e => g4 (.inr (.inr fun q => h (q.1 e)))⟩
  have z1 : k = 0 → 1 ≤ l.length := fun h => Classical.byContradiction fun e => g4 (.inr (.inr fun q => e (q.2 h)))
  have z2 : k ≠ 1 → t = ⟨#[]⟩ ∧ d = [] := fun h => ⟨Classical.byContradiction fun e => g3 (.inr (.inr (.inr ⟨e, h⟩))), e1.2 fun e => g4 (.inl ⟨e, h⟩)⟩
  have z3 : ¬ (k = 1 ∨ k = 2 ∨ k = 3 ∨ k = 12) → i = 0 := fun h => Classical.byContradiction fun e => g3 (.inr (.inl ⟨e, h⟩))
  have z4 : ¬ (k = 5 ∨ k = 6 ∨ k = 9 ∨ k = 10) → n = ⟨#[]⟩ := fun h => Classical.byContradiction fun e => g3 (.inr (.inr (.inl ⟨e, h⟩)))
  have z5 : ¬ (k = 1 ∨ k = 2 ∨ k = 4 ∨ k = 5) → f = [] := fun h => e2.2 fun e => g4 (.inr (.inl ⟨e, h⟩))
  have p1 : (if k = 0 then 0 ≤ b ∧ b ≤ far9 ∧ 1 ≤ l.length ∧ l.length ≤ 24 ∧ l.all rightP = true else b = 0 ∧ l = []) := by
    split
    · rename_i h; exact ⟨hb.1, hb.2, z1 h, hl.1, hL⟩
    · rename_i h; exact z0 h
  have p2 : (if k = 1 then lineP t = true ∧ d.length ≤ 8 ∧ depsP i 0 d = true else t = ⟨#[]⟩ ∧ d = []) := by
    split
    · exact ⟨hT, hl.2.1, gd⟩
    · rename_i h; exact z2 h
  have p3 : (if k = 1 ∨ k = 2 ∨ k = 4 ∨ k = 5 then f.length ≤ 8 ∧ filesP ⟨#[]⟩ f = true else f = []) := by
    split
    · exact ⟨hl.2.2, gf⟩
    · rename_i h; exact z5 (by omega)
  have nn : namedP n = true → n ≠ ⟨#[]⟩ := fun h e => by rw [e, named_nil] at h; cases h
  constructor
  · rintro ⟨-, -, -, h4, -, h6⟩
    split
    · rename_i h; rw [if_neg (by omega), if_pos h] at h4; exact h4
    · rename_i h
      constructor
      · rintro ⟨a, c⟩
        rw [if_pos (by omega)] at h4; omega
      · by_cases h7 : k = 5 ∨ k = 6 ∨ k = 9
        · rw [if_pos h7] at h6; exact .inl (nn h6)
        · by_cases h8 : k = 10
          · exact .inr (.inr h8)
          · exact .inr (.inl (by omega))
  · intro h
    refine ⟨hk, p1, p2, ?_, p3, ?_⟩
    · split
      · rename_i h1
        rw [if_neg (by omega)] at h
        have := h.1
        have h2 : ¬ (i < 1 ∨ 1000000000 < i) := fun e => this ⟨by omega, e⟩
        omega
      · rename_i h1
        split
        · rename_i h2; rw [if_pos h2] at h; exact h
        · rename_i h2; exact z3 (by omega)
    · split
      · rename_i h1
        rw [if_neg (by omega)] at h
        exact hN.resolve_left (h.2.resolve_right (by omega))
      · split
        · exact hN
        · exact z4 (by omega)
end Go.Proofs.YtlfehnnmpkohkaaGreatDoor
/- Chapter 16: which requests may be: the document's way. -/
namespace Go.Proofs.YtlfehnnmpkohkaaGreatDoor
open Go Go.SL Go.Lib
attribute [local irreducible] Cfg Kont StepK Val Con Qops Any Sl Own Blk BlkR Rd Pu ExA AllA Has Pick Ent Elem Beside Callable TI Lone OwnO AndA
set_option maxRecDepth 100000 in
theorem needs_con (k : Int) (fd : ByteArray) : Con Tryz.prog 44 [.int .i64 k, .string fd] [] (γ := Unit) (fun _ => .bool (needsV fd k)) (fun _ => True) (fun _ => []) := by
  refine con_of Tryz.func44 rfl (dd rfl) fun w0 O0 => ?_
  refine c_seq (c_region ?_)
  refine oV vA ?_
  refine o_nil (c_seq (c_seq (c_region ?_)))
  refine oV vM ?_
  refine o_nil (c_block (c_seq (c_seq (c_region ?_))))
  refine oV (v_seq rfl rfl) ?_
  refine oV vA ?_
  refine o_nil ?_
  refine c_cond_p rfl (fun h1 => ?_) (fun h1 => ?_)
  · refine c_skip ?_
    refine c_cond_p rfl (fun k1 => ?_) (fun k1 => ?_)
    · refine c_seq (c_region ?_)
      refine oV vM ?_
      refine oV (v_eq rfl rfl) ?_
      refine oV vA ?_
      refine o_nil ?_
      refine c_ret1 Tryz.func44 rfl rfl fun w O hS => ?_
      exact ⟨(), by unfold needsV; rw [if_pos (.inl h1)], trivial, trivial⟩
    · skip
      exact absurd h1 k1
  · refine c_region ?_
    refine oV (v_seq rfl rfl) ?_
    refine oV vA ?_
    refine o_nil ?_
    refine c_cond_p rfl (fun h2 => ?_) (fun h2 => ?_)
    · refine c_seq (c_region ?_)
      refine oV vM ?_
      refine oV (v_eq rfl rfl) ?_
      refine oV vA ?_
      refine o_nil ?_
      refine c_ret1 Tryz.func44 rfl rfl fun w O hS => ?_
      exact ⟨(), by unfold needsV; rw [if_pos (.inr h2)], trivial, trivial⟩
    · have n1 : ¬ (fd = ⟨#[98, 97, 115, 101]⟩ ∨ fd = ⟨#[108]⟩) := fun h => h.elim h1 h2
      refine c_seq (c_seq (c_region ?_))
      refine oV (v_seq rfl rfl) ?_
      refine oV vA ?_
      refine o_nil ?_
      refine c_cond_p rfl (fun h3 => ?_) (fun h3 => ?_)
      · refine c_skip ?_
        refine c_cond_p rfl (fun k1 => ?_) (fun k1 => ?_)
        · refine c_seq (c_region ?_)
          refine oV vM ?_
          refine oV (v_eq rfl rfl) ?_
          refine oV vA ?_
          refine o_nil ?_
          refine c_ret1 Tryz.func44 rfl rfl fun w O hS => ?_
          exact ⟨(), by unfold needsV; rw [if_neg n1, if_pos (.inl h3)], trivial, trivial⟩
        · skip
          exact absurd h3 k1
      · refine c_region ?_
        refine oV (v_seq rfl rfl) ?_
        refine oV vA ?_
        refine o_nil ?_
        refine c_cond_p rfl (fun h4 => ?_) (fun h4 => ?_)
        · refine c_seq (c_region ?_)
          refine oV vM ?_
          refine oV (v_eq rfl rfl) ?_
          refine oV vA ?_
          refine o_nil ?_
          refine c_ret1 Tryz.func44 rfl rfl fun w O hS => ?_
          exact ⟨(), by unfold needsV; rw [if_neg n1, if_pos (.inr h4)], trivial, trivial⟩
        · have n2 : ¬ (fd = ⟨#[110, 111, 116, 101]⟩ ∨ fd = ⟨#[100, 101, 112, 115]⟩) := fun h => h.elim h3 h4
          refine c_seq (c_region ?_)
          refine oV (v_seq rfl rfl) ?_
          refine oV vA ?_
          refine o_nil ?_
          refine c_cond_p rfl (fun h5 => ?_) (fun h5 => ?_)
          · refine c_seq ?_
            refine c_env (env' := [(0, _)]) (by repeat (first | exact trivial | refine ⟨rfl, ?_⟩)) ?_
            refine c_joinb (d := 4) (decide (k = 1 ∨ k = 2 ∨ k = 3 ∨ k = 12)) ?_ ?_
            rotate_left
            · intro J
              refine c_region ?_
              refine oV vM ?_
              refine oV (v_eq rfl rfl) ?_
              refine oV vM ?_
              first | refine o_guard_f rfl rfl (fun g20 => ?_) (fun g20 => ?_) | refine o_guard rfl rfl (fun g20 => ?_) (fun g20 => ?_)
              · refine oV vM ?_
                refine oN ?_
                refine oV (v_eq rfl rfl) ?_
                refine oV vQ ?_
                refine oV vM ?_
                first | refine o_guard_f rfl rfl (fun g24 => ?_) (fun g24 => ?_) | refine o_guard rfl rfl (fun g24 => ?_) (fun g24 => ?_)
                · refine oV vM ?_
                  refine oN ?_
                  refine oV (v_eq rfl rfl) ?_
                  refine oV vQ ?_
                  refine oV vM ?_
                  first | refine o_guard_f rfl rfl (fun g28 => ?_) (fun g28 => ?_) | refine o_guard rfl rfl (fun g28 => ?_) (fun g28 => ?_)
                  · refine oV vM ?_
                    refine oN ?_
                    refine oV (v_eq rfl rfl) ?_
                    refine oV vQ ?_
                    refine oV vA ?_
                    refine o_nil ?_
                    exact cJ J rfl (by first | rfl | (simp_all; done) | (simp_all; omega) | (simp; omega))
                  · refine oX ?_
                    refine oX ?_
                    refine oV vT ?_
                    refine oV vA ?_
                    refine o_nil ?_
                    exact cJ J rfl (by first | rfl | (simp_all; done) | (simp_all; omega) | (simp; omega))
                · refine oX ?_
                  refine oX ?_
                  refine oV vT ?_
                  refine oV vM ?_
                  iterate 2 refine oX ?_
                  refine oV vT ?_
                  refine oV vA ?_
                  refine o_nil ?_
                  exact cJ J rfl (by first | rfl | (simp_all; done) | (simp_all; omega) | (simp; omega))
              · refine oX ?_
                refine oX ?_
                refine oV vT ?_
                refine oV vM ?_
                iterate 2 refine oX ?_
                refine oV vT ?_
                refine oV vM ?_
                iterate 2 refine oX ?_
                refine oV vT ?_
                refine oV vA ?_
                refine o_nil ?_
                exact cJ J rfl (by first | rfl | (simp_all; done) | (simp_all; omega) | (simp; omega))
            refine c_ret1 Tryz.func44 rfl rfl fun w O hS => ?_
            exact ⟨(), by unfold needsV; rw [if_neg n1, if_neg n2, if_pos h5]; rfl, trivial, trivial⟩
          · refine c_seq (c_region ?_)
            refine oV (v_seq rfl rfl) ?_
            refine oV vA ?_
            refine o_nil ?_
            refine c_cond_p rfl (fun h6 => ?_) (fun h6 => ?_)
            · refine c_seq ?_
              refine c_env (env' := [(0, _)]) (by repeat (first | exact trivial | refine ⟨rfl, ?_⟩)) ?_
              refine c_joinb (d := 4) (decide (k = 5 ∨ k = 6 ∨ k = 9 ∨ k = 10)) ?_ ?_
              rotate_left
              · intro J
                refine c_region ?_
                refine oV vM ?_
                refine oV (v_eq rfl rfl) ?_
                refine oV vM ?_
                first | refine o_guard_f rfl rfl (fun g36 => ?_) (fun g36 => ?_) | refine o_guard rfl rfl (fun g36 => ?_) (fun g36 => ?_)
                · refine oV vM ?_
                  refine oN ?_
                  refine oV (v_eq rfl rfl) ?_
                  refine oV vQ ?_
                  refine oV vM ?_
                  first | refine o_guard_f rfl rfl (fun g40 => ?_) (fun g40 => ?_) | refine o_guard rfl rfl (fun g40 => ?_) (fun g40 => ?_)
                  · refine oV vM ?_
                    refine oN ?_
                    refine oV (v_eq rfl rfl) ?_
                    refine oV vQ ?_
                    refine oV vM ?_
                    first | refine o_guard_f rfl rfl (fun g44 => ?_) (fun g44 => ?_) | refine o_guard rfl rfl (fun g44 => ?_) (fun g44 => ?_)
                    · refine oV vM ?_
                      refine oN ?_
                      refine oV (v_eq rfl rfl) ?_
                      refine oV vQ ?_
                      refine oV vA ?_
                      refine o_nil ?_
                      exact cJ J rfl (by first | rfl | (simp_all; done) | (simp_all; omega) | (simp; omega))
                    · refine oX ?_
                      refine oX ?_
                      refine oV vT ?_
                      refine oV vA ?_
                      refine o_nil ?_
                      exact cJ J rfl (by first | rfl | (simp_all; done) | (simp_all; omega) | (simp; omega))
                  · refine oX ?_
                    refine oX ?_
                    refine oV vT ?_
                    refine oV vM ?_
                    iterate 2 refine oX ?_
                    refine oV vT ?_
                    refine oV vA ?_
                    refine o_nil ?_
                    exact cJ J rfl (by first | rfl | (simp_all; done) | (simp_all; omega) | (simp; omega))
                · refine oX ?_
                  refine oX ?_
                  refine oV vT ?_
                  refine oV vM ?_
                  iterate 2 refine oX ?_
                  refine oV vT ?_
                  refine oV vM ?_
                  iterate 2 refine oX ?_
                  refine oV vT ?_
                  refine oV vA ?_
                  refine o_nil ?_
                  exact cJ J rfl (by first | rfl | (simp_all; done) | (simp_all; omega) | (simp; omega))
              refine c_ret1 Tryz.func44 rfl rfl fun w O hS => ?_
              exact ⟨(), by unfold needsV; rw [if_neg n1, if_neg n2, if_neg h5, if_pos h6]; rfl, trivial, trivial⟩
            · refine c_skip (c_inBlock (c_seq ?_))
              refine c_env (env' := [(0, _)]) (by repeat (first | exact trivial | refine ⟨rfl, ?_⟩)) ?_
              refine c_joinb (d := 4) (decide (k = 1 ∨ k = 2 ∨ k = 4 ∨ k = 5)) ?_ ?_
              rotate_left
              · intro J
                refine c_region ?_
                refine oV vM ?_
                refine oV (v_eq rfl rfl) ?_
                refine oV vM ?_
                first | refine o_guard_f rfl rfl (fun g50 => ?_) (fun g50 => ?_) | refine o_guard rfl rfl (fun g50 => ?_) (fun g50 => ?_)
                · refine oV vM ?_
                  refine oN ?_
                  refine oV (v_eq rfl rfl) ?_
                  refine oV vQ ?_
                  refine oV vM ?_
                  first | refine o_guard_f rfl rfl (fun g54 => ?_) (fun g54 => ?_) | refine o_guard rfl rfl (fun g54 => ?_) (fun g54 => ?_)
                  · refine oV vM ?_
                    refine oN ?_
                    refine oV (v_eq rfl rfl) ?_
                    refine oV vQ ?_
                    refine oV vM ?_
                    first | refine o_guard_f rfl rfl (fun g58 => ?_) (fun g58 => ?_) | refine o_guard rfl rfl (fun g58 => ?_) (fun g58 => ?_)
                    · refine oV vM ?_
                      refine oN ?_
                      refine oV (v_eq rfl rfl) ?_
                      refine oV vQ ?_
                      refine oV vA ?_
                      refine o_nil ?_
                      exact cJ J rfl (by first | rfl | (simp_all; done) | (simp_all; omega) | (simp; omega))
                    · refine oX ?_
                      refine oX ?_
                      refine oV vT ?_
                      refine oV vA ?_
                      refine o_nil ?_
                      exact cJ J rfl (by first | rfl | (simp_all; done) | (simp_all; omega) | (simp; omega))
                  · refine oX ?_
                    refine oX ?_
                    refine oV vT ?_
                    refine oV vM ?_
                    iterate 2 refine oX ?_
                    refine oV vT ?_
                    refine oV vA ?_
                    refine o_nil ?_
                    exact cJ J rfl (by first | rfl | (simp_all; done) | (simp_all; omega) | (simp; omega))
                · refine oX ?_
                  refine oX ?_
                  refine oV vT ?_
                  refine oV vM ?_
                  iterate 2 refine oX ?_
                  refine oV vT ?_
                  refine oV vM ?_
                  iterate 2 refine oX ?_
                  refine oV vT ?_
                  refine oV vA ?_
                  refine o_nil ?_
                  exact cJ J rfl (by first | rfl | (simp_all; done) | (simp_all; omega) | (simp; omega))
              refine c_ret1 Tryz.func44 rfl rfl fun w O hS => ?_
              exact ⟨(), by unfold needsV; rw [if_neg n1, if_neg n2, if_neg h5, if_neg h6]; rfl, trivial, trivial⟩
end Go.Proofs.YtlfehnnmpkohkaaGreatDoor
/- Chapter 16: which requests may be: the document's walk. -/
namespace Go.Proofs.YtlfehnnmpkohkaaGreatDoor
open Go Go.SL Go.Lib
/-- Names that rise, as the document looks at them. -/
theorem files_at {f : List ByteArray} {k : Nat} {last : ByteArray} (hk : k < f.length) (hl : k = 0 ∧ last = ⟨#[]⟩ ∨ ∃ h : k - 1 < f.length, 0 < k ∧ last = f[k - 1]) : filesP last (f.drop k) = (!decide (¬ namedP f[k] = true ∨ (0 < k ∧ (Op.bytesLess f[k].data.toList (f[k - 1]'(by omega)).data.toList || decide (f[k] = f[k - 1]'(by omega))) = true)) && filesP f[k] (f.drop (k + 1))) := by
  rw [files_step hk]
  congr 1
  rcases hl with ⟨rfl, rfl⟩ | ⟨h1, h0, rfl⟩
  · cases hn : namedP f[0] with
    | false => simp
    | true =>
      have e1 : Op.bytesLess f[0].data.toList (⟨#[]⟩ : ByteArray).data.toList = false := by
        show Op.bytesLess f[0].data.toList [] = false
        cases f[0].data.toList <;> rfl
      have e2 : decide (f[0] = (⟨#[]⟩ : ByteArray)) = false := decide_eq_false fun e => by rw [e, named_nil] at hn; cases hn
      rw [e1, e2]; simp
  · rw [Bool.eq_iff_iff]
    simp only [Bool.not_eq_true', Bool.or_eq_false_iff, Bool.not_eq_false', decide_eq_false_iff_not, not_or, Classical.not_not, not_and, Bool.not_eq_true]
    constructor
    · rintro ⟨a, b⟩
      exact ⟨by rw [a]; decide, fun _ => b⟩
    · rintro ⟨a, b⟩
      exact ⟨by simpa using a, b h0⟩
attribute [local irreducible] Cfg Kont StepK Val Con Qops Any Sl Own Blk BlkR Rd Pu ExA AllA Has Pick Ent Elem Beside Callable TI Lone OwnO AndA
set_option maxHeartbeats 1000000 in
set_option maxRecDepth 100000 in
theorem reqRightR_con (q : Rq9) (d f l : Value) (hq : FineQ q) : Con Tryz.prog 14 [.agg #[.int .i64 q.1, .int .i64 q.2.1, .int .i64 q.2.2.1, .string q.2.2.2.1, .string q.2.2.2.2.1, d, f, l]] [Sl (eInt .i64) d q.2.2.2.2.2.1, Sl eStr f q.2.2.2.2.2.2.1, Sl ePr l q.2.2.2.2.2.2.2] (γ := Unit) (fun _ => .bool (decide (RightQ q))) (fun _ => True) (fun _ => []) := by
  have hfl := hq.files.2
  have hlen := hq.files.1
  have hdl := hq.deps
  have hL := rightsRef_con l q.2.2.2.2.2.2.2 hq.prims
  have hT := right_ref_con q.2.2.2.2.1 hq.note
  have hN := namedRef_con q.2.2.2.1 (Nat.le_trans hq.name (by decide))
  rw [right_line] at hT
  refine con_of Tryz.func14 rfl (dd rfl) fun w0 O0 => ?_
  refine c_seq (c_region ?_)
  refine o_step (s_box rfl (dd rfl) (fun b1 => ?_))
  refine oV vA ?_
  refine o_nil (c_seq (c_seq ?_))
  refine c_env (env' := [(1, _), (2, _)]) (by repeat (first | exact trivial | refine ⟨rfl, ?_⟩)) ?_
  refine c_joinb (d := 52) (decide (q.1 < 0 ∨ 12 < q.1 ∨ q.2.1 < 0 ∨ 1099511627776 < q.2.1 ∨ 24 < q.2.2.2.2.2.2.2.length ∨ ¬ q.2.2.2.2.2.2.2.all rightP = true ∨ ¬ lineP q.2.2.2.2.1 = true ∨ 8 < q.2.2.2.2.2.1.length ∨ 8 < q.2.2.2.2.2.2.1.length)) ?_ ?_
  rotate_left
  · intro J
    refine c_region ?_
    refine oV (vF 0 Tryz.underlying26 ti3) ?_
    refine oV (vL lone3) ?_
    refine oV (v_lt rfl rfl) ?_
    refine oV vM ?_
    first | refine o_guard_f rfl rfl (fun g8 => ?_) (fun g8 => ?_) | refine o_guard rfl rfl (fun g8 => ?_) (fun g8 => ?_)
    · refine oV (vF 0 Tryz.underlying26 ti3) ?_
      refine oN ?_
      refine oV (vL lone3) ?_
      refine oN ?_
      refine oV (v_gt rfl rfl) ?_
      refine oV vQ ?_
      refine oV vM ?_
      first | refine o_guard_f rfl rfl (fun g13 => ?_) (fun g13 => ?_) | refine o_guard rfl rfl (fun g13 => ?_) (fun g13 => ?_)
      · refine oV (vF 1 Tryz.underlying26 ti3) ?_
        refine oN ?_
        refine oV (vL lone3) ?_
        refine oN ?_
        refine oV (v_lt rfl rfl) ?_
        refine oV vQ ?_
        refine oV vM ?_
        first | refine o_guard_f rfl rfl (fun g18 => ?_) (fun g18 => ?_) | refine o_guard rfl rfl (fun g18 => ?_) (fun g18 => ?_)
        · refine oV (vF 1 Tryz.underlying26 ti3) ?_
          refine oN ?_
          refine oV (vL lone3) ?_
          refine oN ?_
          refine oV (v_gt rfl rfl) ?_
          refine oV vQ ?_
          refine oV vM ?_
          first | refine o_guard_f rfl rfl (fun g23 => ?_) (fun g23 => ?_) | refine o_guard rfl rfl (fun g23 => ?_) (fun g23 => ?_)
          · refine oV (vF 7 Tryz.underlying26 ti24) ?_
            refine oN ?_
            refine oV (vL lone24) ?_
            refine oN ?_
            refine oV ((by first | exact v_len_form Tryz.underlying24 rfl | exact v_len_sl Tryz.underlying24 rfl (hX (by repeat constructor)))) ?_
            refine oN ?_
            refine oV (v_gt rfl rfl) ?_
            refine oV vQ ?_
            refine oV vM ?_
            first | refine o_guard_f rfl rfl (fun g29 => ?_) (fun g29 => ?_) | refine o_guard rfl rfl (fun g29 => ?_) (fun g29 => ?_)
            · refine oV (vF 7 Tryz.underlying26 ti24) ?_
              refine oN ?_
              refine oV (vL lone24) ?_
              refine oN ?_
              refine o_step (s_callf_keep cl41 (hL) rfl (dd rfl) (rX (by repeat constructor)) (fun _ => sX) (fun _ _ => ?_))
              refine oN ?_
              refine oV (v_not rfl) ?_
              refine oV vQ ?_
              refine oV vM ?_
              first | refine o_guard_f rfl rfl (fun g35 => ?_) (fun g35 => ?_) | refine o_guard rfl rfl (fun g35 => ?_) (fun g35 => ?_)
              · refine oV (vF 4 Tryz.underlying26 ti9) ?_
                refine oN ?_
                refine oV (vL lone9) ?_
                refine oN ?_
                refine o_step (s_callf_keep cl42 (hT) rfl (dd rfl) (rX (by repeat constructor)) (fun _ => sX) (fun _ _ => ?_))
                refine oN ?_
                refine oV (v_not rfl) ?_
                refine oV vQ ?_
                refine oV vM ?_
                first | refine o_guard_f rfl rfl (fun g41 => ?_) (fun g41 => ?_) | refine o_guard rfl rfl (fun g41 => ?_) (fun g41 => ?_)
                · refine oV (vF 5 Tryz.underlying26 ti22) ?_
                  refine oN ?_
                  refine oV (vL lone22) ?_
                  refine oN ?_
                  refine oV ((by first | exact v_len_form Tryz.underlying22 rfl | exact v_len_sl Tryz.underlying22 rfl (hX (by repeat constructor)))) ?_
                  refine oN ?_
                  refine oV (v_gt rfl rfl) ?_
                  refine oV vQ ?_
                  refine oV vM ?_
                  first | refine o_guard_f rfl rfl (fun g47 => ?_) (fun g47 => ?_) | refine o_guard rfl rfl (fun g47 => ?_) (fun g47 => ?_)
                  · refine oV (vF 6 Tryz.underlying26 ti23) ?_
                    refine oN ?_
                    refine oV (vL lone23) ?_
                    refine oN ?_
                    refine oV ((by first | exact v_len_form Tryz.underlying23 rfl | exact v_len_sl Tryz.underlying23 rfl (hX (by repeat constructor)))) ?_
                    refine oN ?_
                    refine oV (v_gt rfl rfl) ?_
                    refine oV vQ ?_
                    refine o_nil ?_
                    exact cJ J rfl (by clear hfl hq hL hT hN; first | rfl | (simp_all; done) | (simp_all; omega) | exact decide_eq_decide.2 ⟨fun h => .inr (.inr (.inr (.inr (.inr (.inr (.inr (.inr (by omega)))))))), fun h => by rcases h with h | h | h | h | h | h | h | h | h <;> first | omega | (simp_all; done)⟩ | exact (decide_eq_true (by omega)).symm)
                  · refine oX ?_
                    iterate 3 refine oX ?_
                    refine oV vT ?_
                    refine o_nil ?_
                    exact cJ J rfl (by clear hfl hq hL hT hN; first | rfl | (simp_all; done) | (simp_all; omega) | exact decide_eq_decide.2 ⟨fun h => .inr (.inr (.inr (.inr (.inr (.inr (.inr (.inr (by omega)))))))), fun h => by rcases h with h | h | h | h | h | h | h | h | h <;> first | omega | (simp_all; done)⟩ | exact (decide_eq_true (by omega)).symm)
                · refine oX ?_
                  iterate 3 refine oX ?_
                  refine oV vT ?_
                  refine oV vM ?_
                  iterate 4 refine oX ?_
                  refine oV vT ?_
                  refine o_nil ?_
                  exact cJ J rfl (by clear hfl hq hL hT hN; first | rfl | (simp_all; done) | (simp_all; omega) | exact decide_eq_decide.2 ⟨fun h => .inr (.inr (.inr (.inr (.inr (.inr (.inr (.inr (by omega)))))))), fun h => by rcases h with h | h | h | h | h | h | h | h | h <;> first | omega | (simp_all; done)⟩ | exact (decide_eq_true (by omega)).symm)
              · refine oX ?_
                iterate 3 refine oX ?_
                refine oV vT ?_
                refine oV vM ?_
                iterate 4 refine oX ?_
                refine oV vT ?_
                refine oV vM ?_
                iterate 4 refine oX ?_
                refine oV vT ?_
                refine o_nil ?_
                exact cJ J rfl (by clear hfl hq hL hT hN; first | rfl | (simp_all; done) | (simp_all; omega) | exact decide_eq_decide.2 ⟨fun h => .inr (.inr (.inr (.inr (.inr (.inr (.inr (.inr (by omega)))))))), fun h => by rcases h with h | h | h | h | h | h | h | h | h <;> first | omega | (simp_all; done)⟩ | exact (decide_eq_true (by omega)).symm)
            · refine oX ?_
              iterate 3 refine oX ?_
              refine oV vT ?_
              refine oV vM ?_
              iterate 4 refine oX ?_
              refine oV vT ?_
              refine oV vM ?_
              iterate 4 refine oX ?_
              refine oV vT ?_
              refine oV vM ?_
              iterate 4 refine oX ?_
              refine oV vT ?_
              refine o_nil ?_
              exact cJ J rfl (by clear hfl hq hL hT hN; first | rfl | (simp_all; done) | (simp_all; omega) | exact decide_eq_decide.2 ⟨fun h => .inr (.inr (.inr (.inr (.inr (.inr (.inr (.inr (by omega)))))))), fun h => by rcases h with h | h | h | h | h | h | h | h | h <;> first | omega | (simp_all; done)⟩ | exact (decide_eq_true (by omega)).symm)
          · refine oX ?_
            iterate 3 refine oX ?_
            refine oV vT ?_
            refine oV vM ?_
            iterate 4 refine oX ?_
            refine oV vT ?_
            refine oV vM ?_
            iterate 4 refine oX ?_
            refine oV vT ?_
            refine oV vM ?_
            iterate 4 refine oX ?_
            refine oV vT ?_
            refine oV vM ?_
            iterate 4 refine oX ?_
            refine oV vT ?_
            refine o_nil ?_
            exact cJ J rfl (by clear hfl hq hL hT hN; first | rfl | (simp_all; done) | (simp_all; omega) | exact decide_eq_decide.2 ⟨fun h => .inr (.inr (.inr (.inr (.inr (.inr (.inr (.inr (by omega)))))))), fun h => by rcases h with h | h | h | h | h | h | h | h | h <;> first | omega | (simp_all; done)⟩ | exact (decide_eq_true (by omega)).symm)
        · refine oX ?_
          iterate 2 refine oX ?_
          refine oV vT ?_
          refine oV vM ?_
          iterate 4 refine oX ?_
          refine oV vT ?_
          refine oV vM ?_
          iterate 4 refine oX ?_
          refine oV vT ?_
          refine oV vM ?_
          iterate 4 refine oX ?_
          refine oV vT ?_
          refine oV vM ?_
          iterate 4 refine oX ?_
          refine oV vT ?_
          refine oV vM ?_
          iterate 4 refine oX ?_
          refine oV vT ?_
          refine o_nil ?_
          exact cJ J rfl (by clear hfl hq hL hT hN; first | rfl | (simp_all; done) | (simp_all; omega) | exact decide_eq_decide.2 ⟨fun h => .inr (.inr (.inr (.inr (.inr (.inr (.inr (.inr (by omega)))))))), fun h => by rcases h with h | h | h | h | h | h | h | h | h <;> first | omega | (simp_all; done)⟩ | exact (decide_eq_true (by omega)).symm)
      · refine oX ?_
        iterate 2 refine oX ?_
        refine oV vT ?_
        refine oV vM ?_
        iterate 3 refine oX ?_
        refine oV vT ?_
        refine oV vM ?_
        iterate 4 refine oX ?_
        refine oV vT ?_
        refine oV vM ?_
        iterate 4 refine oX ?_
        refine oV vT ?_
        refine oV vM ?_
        iterate 4 refine oX ?_
        refine oV vT ?_
        refine oV vM ?_
        iterate 4 refine oX ?_
        refine oV vT ?_
        refine oV vM ?_
        iterate 4 refine oX ?_
        refine oV vT ?_
        refine o_nil ?_
        exact cJ J rfl (by clear hfl hq hL hT hN; first | rfl | (simp_all; done) | (simp_all; omega) | exact decide_eq_decide.2 ⟨fun h => .inr (.inr (.inr (.inr (.inr (.inr (.inr (.inr (by omega)))))))), fun h => by rcases h with h | h | h | h | h | h | h | h | h <;> first | omega | (simp_all; done)⟩ | exact (decide_eq_true (by omega)).symm)
    · refine oX ?_
      iterate 2 refine oX ?_
      refine oV vT ?_
      refine oV vM ?_
      iterate 3 refine oX ?_
      refine oV vT ?_
      refine oV vM ?_
      iterate 3 refine oX ?_
      refine oV vT ?_
      refine oV vM ?_
      iterate 4 refine oX ?_
      refine oV vT ?_
      refine oV vM ?_
      iterate 4 refine oX ?_
      refine oV vT ?_
      refine oV vM ?_
      iterate 4 refine oX ?_
      refine oV vT ?_
      refine oV vM ?_
      iterate 4 refine oX ?_
      refine oV vT ?_
      refine oV vM ?_
      iterate 4 refine oX ?_
      refine oV vT ?_
      refine o_nil ?_
      exact cJ J rfl (by clear hfl hq hL hT hN; first | rfl | (simp_all; done) | (simp_all; omega) | exact decide_eq_decide.2 ⟨fun h => .inr (.inr (.inr (.inr (.inr (.inr (.inr (.inr (by omega)))))))), fun h => by rcases h with h | h | h | h | h | h | h | h | h <;> first | omega | (simp_all; done)⟩ | exact (decide_eq_true (by omega)).symm)
  refine c_cond_p rfl (fun h1 => ?_) (fun h1 => ?_)
  · refine c_seq (c_region ?_)
    refine oV vA ?_
    refine o_nil ?_
    refine c_ret1 Tryz.func14 rfl rfl fun w O hS => ?_
    exact ⟨(), congrArg Value.bool (decide_eq_false (right_bad1 h1)).symm, trivial, trivial⟩
  · have hdp := depsP0_iff q.2.2.1 q.2.2.2.2.2.1
    refine c_skip (c_seq (c_seq (c_region ?_)))
    refine oV vA ?_
    refine o_nil (c_block ?_)
    refine c_loopR (γ := Nat) [(1, _), (2, _)] (fun k => q.2.2.2.2.2.1.length - k) (fun k => k ≤ q.2.2.2.2.2.1.length ∧ ∀ j (h : j < q.2.2.2.2.2.1.length), j < k → 1 ≤ q.2.2.2.2.2.1[j] ∧ q.2.2.2.2.2.1[j] ≤ 1000000000 ∧ q.2.2.2.2.2.1[j] ≠ q.2.2.1 ∧ (j = 0 ∨ q.2.2.2.2.2.1[j - 1] < q.2.2.2.2.2.1[j])) (fun k => [(3, .int .i64 k)]) (fun _ => [Blk b1 26 [.int .i64 q.1, .int .i64 q.2.1, .int .i64 q.2.2.1, .string q.2.2.2.1, .string q.2.2.2.2.1, d, f, l], Sl (eInt .i64) d q.2.2.2.2.2.1, Sl eStr f q.2.2.2.2.2.2.1, Sl ePr l q.2.2.2.2.2.2.2]) (0) (⟨Nat.zero_le _, fun _ _ h => absurd h (Nat.not_lt_zero _)⟩) (by repeat (first | exact trivial | refine ⟨rfl, ?_⟩)) (eX (by repeat constructor)) ?_
    rintro k ⟨hk, hc⟩ IH
    try dsimp only [List.cons_append, List.nil_append]
    refine c_seq (c_seq (c_region ?_))
    refine oV vM ?_
    refine oV (vF 5 Tryz.underlying26 ti22) ?_
    refine oV (vL lone22) ?_
    refine oV ((by first | exact v_len_form Tryz.underlying22 rfl | exact v_len_sl Tryz.underlying22 rfl (hX (by repeat constructor)))) ?_
    refine oV (v_lt rfl rfl) ?_
    refine o_nil ?_
    refine c_cond_p rfl (fun hlt => ?_) (fun hlt => ?_)
    · have hk' : k < q.2.2.2.2.2.1.length := by omega
      refine c_skip (c_seq (c_block (c_seq ?_)))
      refine c_env (env' := [(1, _), (2, _), (3, _), (53, _), (54, _), (55, _), (56, _), (57, _)]) (by repeat (first | exact trivial | refine ⟨rfl, ?_⟩)) ?_
      refine c_joinb (d := 101) (decide (¬ (1 ≤ q.2.2.2.2.2.1[k] ∧ q.2.2.2.2.2.1[k] ≤ 1000000000 ∧ q.2.2.2.2.2.1[k] ≠ q.2.2.1 ∧ (k = 0 ∨ q.2.2.2.2.2.1[k - 1] < q.2.2.2.2.2.1[k])))) ?_ ?_
      rotate_left
      · intro J
        refine c_quiet rfl (by kernel_rfl) ?_
        refine qV (vF 5 Tryz.underlying26 ti22) ?_
        refine qV (vL lone22) ?_
        refine qV vM ?_
        refine qV ((by first | exact v_indexAddrN Tryz.underlying22 ti3 rfl rfl (hX (by repeat constructor)) (by omega) | exact v_indexAddr Tryz.underlying22 ti3 rfl rfl (hX (by repeat constructor)) (by omega))) ?_
        refine qV (v_load_int lone3 rfl (by repeat (first | exact Elem.sl (List.getElem?_eq_getElem (by omega)) | exact Elem.own (List.getElem?_eq_getElem (by omega)) | exact Elem.ownO (List.getElem?_eq_getElem (by omega)) | apply Elem.there))) ?_
        refine qV (v_lt rfl rfl) ?_
        refine qV vM ?_
        first | refine q_guard_f rfl rfl (fun g66 => ?_) (fun g66 => ?_) | refine q_guard rfl rfl (fun g66 => ?_) (fun g66 => ?_)
        · refine qV (vF 5 Tryz.underlying26 ti22) ?_
          refine qN ?_
          refine qV (vL lone22) ?_
          refine qN ?_
          refine qV vM ?_
          refine qN ?_
          refine qV ((by first | exact v_indexAddrN Tryz.underlying22 ti3 rfl rfl (hX (by repeat constructor)) (by omega) | exact v_indexAddr Tryz.underlying22 ti3 rfl rfl (hX (by repeat constructor)) (by omega))) ?_
          refine qN ?_
          refine qV (v_load_int lone3 rfl (by repeat (first | exact Elem.sl (List.getElem?_eq_getElem (by omega)) | exact Elem.own (List.getElem?_eq_getElem (by omega)) | exact Elem.ownO (List.getElem?_eq_getElem (by omega)) | apply Elem.there))) ?_
          refine qN ?_
          refine qV (v_gt rfl rfl) ?_
          refine qV vQ ?_
          refine qV vM ?_
          first | refine q_guard_f rfl rfl (fun g74 => ?_) (fun g74 => ?_) | refine q_guard rfl rfl (fun g74 => ?_) (fun g74 => ?_)
          · refine qV (vF 5 Tryz.underlying26 ti22) ?_
            refine qN ?_
            refine qV (vL lone22) ?_
            refine qN ?_
            refine qV vM ?_
            refine qN ?_
            refine qV ((by first | exact v_indexAddrN Tryz.underlying22 ti3 rfl rfl (hX (by repeat constructor)) (by omega) | exact v_indexAddr Tryz.underlying22 ti3 rfl rfl (hX (by repeat constructor)) (by omega))) ?_
            refine qN ?_
            refine qV (v_load_int lone3 rfl (by repeat (first | exact Elem.sl (List.getElem?_eq_getElem (by omega)) | exact Elem.own (List.getElem?_eq_getElem (by omega)) | exact Elem.ownO (List.getElem?_eq_getElem (by omega)) | apply Elem.there))) ?_
            refine qN ?_
            refine qV (vF 2 Tryz.underlying26 ti3) ?_
            refine qN ?_
            refine qV (vL lone3) ?_
            refine qN ?_
            refine qV (v_eq rfl rfl) ?_
            refine qV vQ ?_
            refine qV vM ?_
            first | refine q_guard_f rfl rfl (fun g84 => ?_) (fun g84 => ?_) | refine q_guard rfl rfl (fun g84 => ?_) (fun g84 => ?_)
            · refine qV vM ?_
              refine qN ?_
              refine qV (v_gt rfl rfl) ?_
              refine qN ?_
              refine qV vM ?_
              first | refine q_guard_t rfl rfl (fun g87 => ?_) (fun g87 => ?_) | refine q_guard rfl rfl (fun g87 => ?_) (fun g87 => ?_)
              · refine qV (vF 5 Tryz.underlying26 ti22) ?_
                refine qN ?_
                refine qV (vL lone22) ?_
                refine qN ?_
                refine qV vM ?_
                refine qN ?_
                refine qV ((by first | exact v_indexAddrN Tryz.underlying22 ti3 rfl rfl (hX (by repeat constructor)) (by omega) | exact v_indexAddr Tryz.underlying22 ti3 rfl rfl (hX (by repeat constructor)) (by omega))) ?_
                refine qN ?_
                refine qV (v_load_int lone3 rfl (by repeat (first | exact Elem.sl (List.getElem?_eq_getElem (by omega)) | exact Elem.own (List.getElem?_eq_getElem (by omega)) | exact Elem.ownO (List.getElem?_eq_getElem (by omega)) | apply Elem.there))) ?_
                refine qN ?_
                refine qV (vF 5 Tryz.underlying26 ti22) ?_
                refine qN ?_
                refine qV (vL lone22) ?_
                refine qN ?_
                refine qV vM ?_
                refine qN ?_
                refine qV ((by first | exact v_sub64 rfl rfl (by omega) | exact v_sub rfl rfl)) ?_
                refine qN ?_
                refine qV ((by first | exact v_indexAddrN Tryz.underlying22 ti3 rfl rfl (hX (by repeat constructor)) (by omega) | exact v_indexAddr Tryz.underlying22 ti3 rfl rfl (hX (by repeat constructor)) (by omega))) ?_
                refine qN ?_
                refine qV (v_load_int lone3 rfl (by repeat (first | exact Elem.sl (List.getElem?_eq_getElem (by omega)) | exact Elem.own (List.getElem?_eq_getElem (by omega)) | exact Elem.ownO (List.getElem?_eq_getElem (by omega)) | apply Elem.there))) ?_
                refine qN ?_
                refine qV (v_le rfl rfl) ?_
                refine qN ?_
                refine qV vT ?_
                refine qV vQ ?_
                refine q_nil ?_
                exact cJ J rfl (by clear IH hc hfl hq hL hT hN h1; first | rfl | (simp_all; done) | (simp_all; omega) | (rw [Bool.eq_iff_iff]; simp_all; done) | (rw [Bool.eq_iff_iff]; simp_all; omega))
              · refine qX ?_
                iterate 11 refine qX ?_
                refine qN ?_
                refine qV vQ ?_
                refine qV vQ ?_
                refine q_nil ?_
                exact cJ J rfl (by clear IH hc hfl hq hL hT hN h1; first | rfl | (simp_all; done) | (simp_all; omega) | (rw [Bool.eq_iff_iff]; simp_all; done) | (rw [Bool.eq_iff_iff]; simp_all; omega))
            · refine qX ?_
              iterate 2 refine qX ?_
              refine q_offu rfl rfl (dd rfl) ?_
              refine q_offu rfl rfl (dd rfl) ?_
              refine q_offu rfl rfl (dd rfl) ?_
              refine q_offu rfl rfl (dd rfl) ?_
              refine q_offu rfl rfl (dd rfl) ?_
              refine q_offu rfl rfl (dd rfl) ?_
              refine q_offu rfl rfl (dd rfl) ?_
              refine q_offu rfl rfl (dd rfl) ?_
              refine q_offu rfl rfl (dd rfl) ?_
              refine q_offu rfl rfl (dd rfl) ?_
              refine q_offu rfl rfl (dd rfl) ?_
              refine q_offu rfl rfl (dd rfl) ?_
              refine qX ?_
              refine qV vT ?_
              refine q_nil ?_
              exact cJ J rfl (by clear IH hc hfl hq hL hT hN h1; first | rfl | (simp_all; done) | (simp_all; omega) | (rw [Bool.eq_iff_iff]; simp_all; done) | (rw [Bool.eq_iff_iff]; simp_all; omega))
          · refine qX ?_
            iterate 7 refine qX ?_
            refine qV vT ?_
            refine qV vM ?_
            iterate 3 refine qX ?_
            refine q_offu rfl rfl (dd rfl) ?_
            refine q_offu rfl rfl (dd rfl) ?_
            refine q_offu rfl rfl (dd rfl) ?_
            refine q_offu rfl rfl (dd rfl) ?_
            refine q_offu rfl rfl (dd rfl) ?_
            refine q_offu rfl rfl (dd rfl) ?_
            refine q_offu rfl rfl (dd rfl) ?_
            refine q_offu rfl rfl (dd rfl) ?_
            refine q_offu rfl rfl (dd rfl) ?_
            refine q_offu rfl rfl (dd rfl) ?_
            refine q_offu rfl rfl (dd rfl) ?_
            refine q_offu rfl rfl (dd rfl) ?_
            refine qX ?_
            refine qV vT ?_
            refine q_nil ?_
            exact cJ J rfl (by clear IH hc hfl hq hL hT hN h1; first | rfl | (simp_all; done) | (simp_all; omega) | (rw [Bool.eq_iff_iff]; simp_all; done) | (rw [Bool.eq_iff_iff]; simp_all; omega))
        · refine qX ?_
          iterate 5 refine qX ?_
          refine qV vT ?_
          refine qV vM ?_
          iterate 8 refine qX ?_
          refine qV vT ?_
          refine qV vM ?_
          iterate 3 refine qX ?_
          refine q_offu rfl rfl (dd rfl) ?_
          refine q_offu rfl rfl (dd rfl) ?_
          refine q_offu rfl rfl (dd rfl) ?_
          refine q_offu rfl rfl (dd rfl) ?_
          refine q_offu rfl rfl (dd rfl) ?_
          refine q_offu rfl rfl (dd rfl) ?_
          refine q_offu rfl rfl (dd rfl) ?_
          refine q_offu rfl rfl (dd rfl) ?_
          refine q_offu rfl rfl (dd rfl) ?_
          refine q_offu rfl rfl (dd rfl) ?_
          refine q_offu rfl rfl (dd rfl) ?_
          refine q_offu rfl rfl (dd rfl) ?_
          refine qX ?_
          refine qV vT ?_
          refine q_nil ?_
          exact cJ J rfl (by clear IH hc hfl hq hL hT hN h1; first | rfl | (simp_all; done) | (simp_all; omega) | (rw [Bool.eq_iff_iff]; simp_all; done) | (rw [Bool.eq_iff_iff]; simp_all; omega))
      refine c_cond_p rfl (fun hbad => ?_) (fun hbad => ?_)
      · have hno : ¬ RightQ q := fun hr => hbad (hdp.1 (right_deps hr) k hk')
        refine c_seq (c_region ?_)
        refine oV vA ?_
        refine o_nil ?_
        refine c_ret1 Tryz.func14 rfl rfl fun w O hS => ?_
        exact ⟨(), congrArg Value.bool (decide_eq_false hno).symm, trivial, trivial⟩
      · refine c_skip (c_inBlock (c_region ?_))
        refine oV vM ?_
        refine oV ((by first | exact v_add64 rfl rfl (by omega) | exact v_add rfl rfl)) ?_
        refine oV vA ?_
        refine o_nil ?_
        refine cU (IH (k + 1) (by first | omega | (dsimp only; omega)) (⟨by omega, fun j h h1 => (Nat.lt_succ_iff_lt_or_eq.1 h1).elim (hc j h) fun q => by subst q; exact Classical.not_not.1 hbad⟩))
    · have gd := hdp.2 fun j hj => hc j hj (by omega)
      refine c_exit rfl ?_
      refine c_seq (c_seq (c_region ?_))
      refine oV vA ?_
      refine o_nil (c_block ?_)
      refine c_loopR (γ := Nat × ByteArray) [(1, _), (2, _)] (fun g => q.2.2.2.2.2.2.1.length - g.1) (fun g => g.1 ≤ q.2.2.2.2.2.2.1.length ∧ filesP ⟨#[]⟩ q.2.2.2.2.2.2.1 = filesP g.2 (q.2.2.2.2.2.2.1.drop g.1) ∧ (g.1 = 0 ∧ g.2 = ⟨#[]⟩ ∨ ∃ h : g.1 - 1 < q.2.2.2.2.2.2.1.length, 0 < g.1 ∧ g.2 = q.2.2.2.2.2.2.1[g.1 - 1])) (fun g => [(4, .int .i64 g.1)]) (fun _ => [Blk b1 26 [.int .i64 q.1, .int .i64 q.2.1, .int .i64 q.2.2.1, .string q.2.2.2.1, .string q.2.2.2.2.1, d, f, l], Sl eStr f q.2.2.2.2.2.2.1, Sl ePr l q.2.2.2.2.2.2.2, Sl (eInt .i64) d q.2.2.2.2.2.1]) ((0, ⟨#[]⟩)) (⟨Nat.zero_le _, rfl, .inl ⟨rfl, rfl⟩⟩) (by repeat (first | exact trivial | refine ⟨rfl, ?_⟩)) (eX (by repeat constructor)) ?_
      rintro ⟨j, last⟩ ⟨hj, hfp, hls⟩ IH2
      dsimp only at hj hfp hls ⊢
      try dsimp only [List.cons_append, List.nil_append]
      refine c_seq (c_seq (c_region ?_))
      refine oV vM ?_
      refine oV (vF 6 Tryz.underlying26 ti23) ?_
      refine oV (vL lone23) ?_
      refine oV ((by first | exact v_len_form Tryz.underlying23 rfl | exact v_len_sl Tryz.underlying23 rfl (hX (by repeat constructor)))) ?_
      refine oV (v_lt rfl rfl) ?_
      refine o_nil ?_
      refine c_cond_p rfl (fun hlj => ?_) (fun hlj => ?_)
      · have hj' : j < q.2.2.2.2.2.2.1.length := by omega
        have hst := files_at hj' hls
        have hNj := namedRef_con q.2.2.2.2.2.2.1[j] (Nat.le_trans (hfl _ (List.getElem_mem hj')) (by decide))
        refine c_skip (c_seq (c_block (c_seq ?_)))
        refine c_env (env' := [(1, _), (2, _), (4, _), (102, _), (103, _), (104, _), (105, _), (106, _)]) (by repeat (first | exact trivial | refine ⟨rfl, ?_⟩)) ?_
        refine c_joinb (d := 133) (decide (¬ namedP q.2.2.2.2.2.2.1[j] = true ∨ (0 < j ∧ (Op.bytesLess q.2.2.2.2.2.2.1[j].data.toList (q.2.2.2.2.2.2.1[j - 1]'(by omega)).data.toList || decide (q.2.2.2.2.2.2.1[j] = q.2.2.2.2.2.2.1[j - 1]'(by omega))) = true))) ?_ ?_
        rotate_left
        · intro J
          refine c_quiet rfl (by kernel_rfl) ?_
          refine qV (vF 6 Tryz.underlying26 ti23) ?_
          refine qV (vL lone23) ?_
          refine qV vM ?_
          refine qV ((by first | exact v_indexAddrN Tryz.underlying23 ti9 rfl rfl (hX (by repeat constructor)) (by omega) | exact v_indexAddr Tryz.underlying23 ti9 rfl rfl (hX (by repeat constructor)) (by omega))) ?_
          refine qV (v_load_str lone9 rfl (by repeat (first | exact Elem.sl (List.getElem?_eq_getElem (by omega)) | exact Elem.own (List.getElem?_eq_getElem (by omega)) | exact Elem.ownO (List.getElem?_eq_getElem (by omega)) | apply Elem.there))) ?_
          refine q_call_keep cl43 (hNj) rfl (first := []) (cap := []) (fun _ _ => rfl) rfl rfl (dd rfl) (rX (by repeat constructor)) ?_
          refine qV (v_not rfl) ?_
          refine qV vM ?_
          first | refine q_guard_f rfl rfl (fun g116 => ?_) (fun g116 => ?_) | refine q_guard rfl rfl (fun g116 => ?_) (fun g116 => ?_)
          · refine qV vM ?_
            refine qN ?_
            refine qV (v_gt rfl rfl) ?_
            refine qN ?_
            refine qV vM ?_
            first | refine q_guard_t rfl rfl (fun g119 => ?_) (fun g119 => ?_) | refine q_guard rfl rfl (fun g119 => ?_) (fun g119 => ?_)
            · refine qV (vF 6 Tryz.underlying26 ti23) ?_
              refine qN ?_
              refine qV (vL lone23) ?_
              refine qN ?_
              refine qV vM ?_
              refine qN ?_
              refine qV ((by first | exact v_indexAddrN Tryz.underlying23 ti9 rfl rfl (hX (by repeat constructor)) (by omega) | exact v_indexAddr Tryz.underlying23 ti9 rfl rfl (hX (by repeat constructor)) (by omega))) ?_
              refine qN ?_
              refine qV (v_load_str lone9 rfl (by repeat (first | exact Elem.sl (List.getElem?_eq_getElem (by omega)) | exact Elem.own (List.getElem?_eq_getElem (by omega)) | exact Elem.ownO (List.getElem?_eq_getElem (by omega)) | apply Elem.there))) ?_
              refine qN ?_
              refine qV (vF 6 Tryz.underlying26 ti23) ?_
              refine qN ?_
              refine qV (vL lone23) ?_
              refine qN ?_
              refine qV vM ?_
              refine qN ?_
              refine qV ((by first | exact v_sub64 rfl rfl (by omega) | exact v_sub rfl rfl)) ?_
              refine qN ?_
              refine qV ((by first | exact v_indexAddrN Tryz.underlying23 ti9 rfl rfl (hX (by repeat constructor)) (by omega) | exact v_indexAddr Tryz.underlying23 ti9 rfl rfl (hX (by repeat constructor)) (by omega))) ?_
              refine qN ?_
              refine qV (v_load_str lone9 rfl (by repeat (first | exact Elem.sl (List.getElem?_eq_getElem (by omega)) | exact Elem.own (List.getElem?_eq_getElem (by omega)) | exact Elem.ownO (List.getElem?_eq_getElem (by omega)) | apply Elem.there))) ?_
              refine qN ?_
              refine qV (v_sle rfl rfl) ?_
              refine qN ?_
              refine qV vT ?_
              refine qV vQ ?_
              refine q_nil ?_
              exact cJ J rfl (by clear IH IH2 hc hfl hq hL hT hN h1 hfp hls hst hNj; first | rfl | (simp_all; done) | (simp_all; omega) | (rw [Bool.eq_iff_iff]; simp_all; done) | (rw [Bool.eq_iff_iff]; simp_all; omega))
            · refine qX ?_
              iterate 11 refine qX ?_
              refine qN ?_
              refine qV vQ ?_
              refine qV vQ ?_
              refine q_nil ?_
              exact cJ J rfl (by clear IH IH2 hc hfl hq hL hT hN h1 hfp hls hst hNj; first | rfl | (simp_all; done) | (simp_all; omega) | (rw [Bool.eq_iff_iff]; simp_all; done) | (rw [Bool.eq_iff_iff]; simp_all; omega))
          · refine qX ?_
            iterate 2 refine qX ?_
            refine q_offu rfl rfl (dd rfl) ?_
            refine q_offu rfl rfl (dd rfl) ?_
            refine q_offu rfl rfl (dd rfl) ?_
            refine q_offu rfl rfl (dd rfl) ?_
            refine q_offu rfl rfl (dd rfl) ?_
            refine q_offu rfl rfl (dd rfl) ?_
            refine q_offu rfl rfl (dd rfl) ?_
            refine q_offu rfl rfl (dd rfl) ?_
            refine q_offu rfl rfl (dd rfl) ?_
            refine q_offu rfl rfl (dd rfl) ?_
            refine q_offu rfl rfl (dd rfl) ?_
            refine q_offu rfl rfl (dd rfl) ?_
            refine qX ?_
            refine qV vT ?_
            refine q_nil ?_
            exact cJ J rfl (by clear IH IH2 hc hfl hq hL hT hN h1 hfp hls hst hNj; first | rfl | (simp_all; done) | (simp_all; omega) | (rw [Bool.eq_iff_iff]; simp_all; done) | (rw [Bool.eq_iff_iff]; simp_all; omega))
        refine c_cond_p rfl (fun hbad => ?_) (fun hbad => ?_)
        · rw [hst, decide_eq_true hbad] at hfp
          have hno : ¬ RightQ q := fun hr => by have := right_files hr; rw [hfp] at this; cases this
          refine c_seq (c_region ?_)
          refine oV vA ?_
          refine o_nil ?_
          refine c_ret1 Tryz.func14 rfl rfl fun w O hS => ?_
          exact ⟨(), congrArg Value.bool (decide_eq_false hno).symm, trivial, trivial⟩
        · rw [hst, decide_eq_false hbad] at hfp
          refine c_skip (c_inBlock (c_region ?_))
          refine oV vM ?_
          refine oV ((by first | exact v_add64 rfl rfl (by omega) | exact v_add rfl rfl)) ?_
          refine oV vA ?_
          refine o_nil ?_
          refine cU (IH2 ((j + 1, q.2.2.2.2.2.2.1[j])) (by first | omega | (dsimp only; omega)) (⟨by dsimp only; omega, hfp, .inr ⟨by dsimp only; omega, Nat.succ_pos _, rfl⟩⟩))
      · have gf : filesP ⟨#[]⟩ q.2.2.2.2.2.2.1 = true := by rw [hfp, List.drop_of_length_le (by omega)]; rfl
        refine c_exit rfl ?_
        refine c_seq (c_seq ?_)
        refine c_env (env' := [(1, _), (2, _)]) (by repeat (first | exact trivial | refine ⟨rfl, ?_⟩)) ?_
        refine c_joinb (d := 142) (decide (bad2 q)) ?_ ?_
        rotate_left
        · intro J
          refine c_region ?_
          refine oV (vF 3 Tryz.underlying26 ti9) ?_
          refine oV (vL lone9) ?_
          refine oV (v_sne rfl rfl) ?_
          refine oV vM ?_
          first | refine o_guard_t rfl rfl (fun g137 => ?_) (fun g137 => ?_) | refine o_guard rfl rfl (fun g137 => ?_) (fun g137 => ?_)
          · refine oV (vF 3 Tryz.underlying26 ti9) ?_
            refine oN ?_
            refine oV (vL lone9) ?_
            refine oN ?_
            refine o_step (s_callf_keep cl43 (hN) rfl (dd rfl) (rX (by repeat constructor)) (fun _ => sX) (fun _ _ => ?_))
            refine oN ?_
            refine oV (v_not rfl) ?_
            refine oV vT ?_
            refine o_nil ?_
            exact cJ J rfl (by clear IH IH2 hc hfl hq hL hT hN h1 hfp hls; unfold bad2; first | rfl | (simp_all; done))
          · refine oX ?_
            iterate 3 refine oX ?_
            refine oV vQ ?_
            refine o_nil ?_
            exact cJ J rfl (by clear IH IH2 hc hfl hq hL hT hN h1 hfp hls; unfold bad2; first | rfl | (simp_all; done))
        refine c_cond_p rfl (fun h2 => ?_) (fun h2 => ?_)
        · refine c_seq (c_region ?_)
          refine oV vA ?_
          refine o_nil ?_
          refine c_ret1 Tryz.func14 rfl rfl fun w O hS => ?_
          exact ⟨(), congrArg Value.bool (decide_eq_false (right_bad2 h2)).symm, trivial, trivial⟩
        · refine c_skip (c_seq (c_seq ?_))
          refine c_env (env' := [(1, _), (2, _)]) (by repeat (first | exact trivial | refine ⟨rfl, ?_⟩)) ?_
          refine c_joinb (d := 184) (decide (bad3 q)) ?_ ?_
          rotate_left
          · intro J
            refine c_region ?_
            refine oV (vF 1 Tryz.underlying26 ti3) ?_
            refine oV (vL lone3) ?_
            refine oV (v_ne rfl rfl) ?_
            refine oV vM ?_
            first | refine o_guard_t rfl rfl (fun g146 => ?_) (fun g146 => ?_) | refine o_guard rfl rfl (fun g146 => ?_) (fun g146 => ?_)
            · refine oV (vF 0 Tryz.underlying26 ti3) ?_
              refine oN ?_
              refine oV (vL lone3) ?_
              refine oN ?_
              refine o_step (s_callf_keep cl44 (needs_con _ _) rfl (dd rfl) (rX (by repeat constructor)) (fun _ => sX) (fun _ _ => ?_))
              refine oN ?_
              refine oV (v_not rfl) ?_
              refine oV vT ?_
              refine oV vM ?_
              first | refine o_guard_f rfl rfl (fun g152 => ?_) (fun g152 => ?_) | refine o_guard rfl rfl (fun g152 => ?_) (fun g152 => ?_)
              · refine oV (vF 2 Tryz.underlying26 ti3) ?_
                refine oN ?_
                refine oV (vL lone3) ?_
                refine oN ?_
                refine oV (v_ne rfl rfl) ?_
                refine oN ?_
                refine oV vM ?_
                first | refine o_guard_t rfl rfl (fun g156 => ?_) (fun g156 => ?_) | refine o_guard rfl rfl (fun g156 => ?_) (fun g156 => ?_)
                · refine oV (vF 0 Tryz.underlying26 ti3) ?_
                  refine oN ?_
                  refine oV (vL lone3) ?_
                  refine oN ?_
                  refine o_step (s_callf_keep cl44 (needs_con _ _) rfl (dd rfl) (rX (by repeat constructor)) (fun _ => sX) (fun _ _ => ?_))
                  refine oN ?_
                  refine oV (v_not rfl) ?_
                  refine oN ?_
                  refine oV vT ?_
                  refine oV vQ ?_
                  refine oV vM ?_
                  first | refine o_guard_f rfl rfl (fun g163 => ?_) (fun g163 => ?_) | refine o_guard rfl rfl (fun g163 => ?_) (fun g163 => ?_)
                  · refine oV (vF 3 Tryz.underlying26 ti9) ?_
                    refine oN ?_
                    refine oV (vL lone9) ?_
                    refine oN ?_
                    refine oV (v_sne rfl rfl) ?_
                    refine oN ?_
                    refine oV vM ?_
                    first | refine o_guard_t rfl rfl (fun g167 => ?_) (fun g167 => ?_) | refine o_guard rfl rfl (fun g167 => ?_) (fun g167 => ?_)
                    · refine oV (vF 0 Tryz.underlying26 ti3) ?_
                      refine oN ?_
                      refine oV (vL lone3) ?_
                      refine oN ?_
                      refine o_step (s_callf_keep cl44 (needs_con _ _) rfl (dd rfl) (rX (by repeat constructor)) (fun _ => sX) (fun _ _ => ?_))
                      refine oN ?_
                      refine oV (v_not rfl) ?_
                      refine oN ?_
                      refine oV vT ?_
                      refine oV vQ ?_
                      refine oV vM ?_
                      first | refine o_guard_f rfl rfl (fun g174 => ?_) (fun g174 => ?_) | refine o_guard rfl rfl (fun g174 => ?_) (fun g174 => ?_)
                      · refine oV (vF 4 Tryz.underlying26 ti9) ?_
                        refine oN ?_
                        refine oV (vL lone9) ?_
                        refine oN ?_
                        refine oV (v_sne rfl rfl) ?_
                        refine oN ?_
                        refine oV vM ?_
                        first | refine o_guard_t rfl rfl (fun g178 => ?_) (fun g178 => ?_) | refine o_guard rfl rfl (fun g178 => ?_) (fun g178 => ?_)
                        · refine oV (vF 0 Tryz.underlying26 ti3) ?_
                          refine oN ?_
                          refine oV (vL lone3) ?_
                          refine oN ?_
                          refine o_step (s_callf_keep cl44 (needs_con _ _) rfl (dd rfl) (rX (by repeat constructor)) (fun _ => sX) (fun _ _ => ?_))
                          refine oN ?_
                          refine oV (v_not rfl) ?_
                          refine oN ?_
                          refine oV vT ?_
                          refine oV vQ ?_
                          refine o_nil ?_
                          exact cJ J rfl (by clear IH IH2 hc hfl hq hL hT hN h1 hfp hls h2; (try simp only [nd_base, nd_id, nd_name, nd_note] at *); unfold bad3; first | rfl | (simp_all; done))
                        · refine oX ?_
                          iterate 3 refine oX ?_
                          refine oN ?_
                          iterate 2 refine oV vQ ?_
                          refine o_nil ?_
                          exact cJ J rfl (by clear IH IH2 hc hfl hq hL hT hN h1 hfp hls h2; (try simp only [nd_base, nd_id, nd_name, nd_note] at *); unfold bad3; first | rfl | (simp_all; done))
                      · refine oX ?_
                        iterate 3 refine oX ?_
                        iterate 4 refine oU ?_
                        refine oX ?_
                        refine oV vT ?_
                        refine o_nil ?_
                        exact cJ J rfl (by clear IH IH2 hc hfl hq hL hT hN h1 hfp hls h2; (try simp only [nd_base, nd_id, nd_name, nd_note] at *); unfold bad3; first | rfl | (simp_all; done))
                    · refine oX ?_
                      iterate 3 refine oX ?_
                      refine oN ?_
                      iterate 2 refine oV vQ ?_
                      refine oV vM ?_
                      refine oN ?_
                      refine oV (vF 4 Tryz.underlying26 ti9) ?_
                      refine oN ?_
                      refine oV (vL lone9) ?_
                      refine oN ?_
                      refine oV (v_sne rfl rfl) ?_
                      refine oN ?_
                      refine oV vM ?_
                      first | refine o_guard_t rfl rfl (fun g178 => ?_) (fun g178 => ?_) | refine o_guard rfl rfl (fun g178 => ?_) (fun g178 => ?_)
                      · refine oV (vF 0 Tryz.underlying26 ti3) ?_
                        refine oN ?_
                        refine oV (vL lone3) ?_
                        refine oN ?_
                        refine o_step (s_callf_keep cl44 (needs_con _ _) rfl (dd rfl) (rX (by repeat constructor)) (fun _ => sX) (fun _ _ => ?_))
                        refine oN ?_
                        refine oV (v_not rfl) ?_
                        refine oN ?_
                        refine oV vT ?_
                        refine oV vQ ?_
                        refine o_nil ?_
                        exact cJ J rfl (by clear IH IH2 hc hfl hq hL hT hN h1 hfp hls h2; (try simp only [nd_base, nd_id, nd_name, nd_note] at *); unfold bad3; first | rfl | (simp_all; done))
                      · refine oX ?_
                        iterate 3 refine oX ?_
                        refine oN ?_
                        iterate 2 refine oV vQ ?_
                        refine o_nil ?_
                        exact cJ J rfl (by clear IH IH2 hc hfl hq hL hT hN h1 hfp hls h2; (try simp only [nd_base, nd_id, nd_name, nd_note] at *); unfold bad3; first | rfl | (simp_all; done))
                  · refine oX ?_
                    iterate 3 refine oX ?_
                    iterate 4 refine oU ?_
                    refine oX ?_
                    refine oV vT ?_
                    refine oV vM ?_
                    iterate 4 refine oX ?_
                    iterate 4 refine oU ?_
                    refine oX ?_
                    refine oV vT ?_
                    refine o_nil ?_
                    exact cJ J rfl (by clear IH IH2 hc hfl hq hL hT hN h1 hfp hls h2; (try simp only [nd_base, nd_id, nd_name, nd_note] at *); unfold bad3; first | rfl | (simp_all; done))
                · refine oX ?_
                  iterate 3 refine oX ?_
                  refine oN ?_
                  iterate 2 refine oV vQ ?_
                  refine oV vM ?_
                  refine oN ?_
                  refine oV (vF 3 Tryz.underlying26 ti9) ?_
                  refine oN ?_
                  refine oV (vL lone9) ?_
                  refine oN ?_
                  refine oV (v_sne rfl rfl) ?_
                  refine oN ?_
                  refine oV vM ?_
                  first | refine o_guard_t rfl rfl (fun g167 => ?_) (fun g167 => ?_) | refine o_guard rfl rfl (fun g167 => ?_) (fun g167 => ?_)
                  · refine oV (vF 0 Tryz.underlying26 ti3) ?_
                    refine oN ?_
                    refine oV (vL lone3) ?_
                    refine oN ?_
                    refine o_step (s_callf_keep cl44 (needs_con _ _) rfl (dd rfl) (rX (by repeat constructor)) (fun _ => sX) (fun _ _ => ?_))
                    refine oN ?_
                    refine oV (v_not rfl) ?_
                    refine oN ?_
                    refine oV vT ?_
                    refine oV vQ ?_
                    refine oV vM ?_
                    first | refine o_guard_f rfl rfl (fun g174 => ?_) (fun g174 => ?_) | refine o_guard rfl rfl (fun g174 => ?_) (fun g174 => ?_)
                    · refine oV (vF 4 Tryz.underlying26 ti9) ?_
                      refine oN ?_
                      refine oV (vL lone9) ?_
                      refine oN ?_
                      refine oV (v_sne rfl rfl) ?_
                      refine oN ?_
                      refine oV vM ?_
                      first | refine o_guard_t rfl rfl (fun g178 => ?_) (fun g178 => ?_) | refine o_guard rfl rfl (fun g178 => ?_) (fun g178 => ?_)
                      · refine oV (vF 0 Tryz.underlying26 ti3) ?_
                        refine oN ?_
                        refine oV (vL lone3) ?_
                        refine oN ?_
                        refine o_step (s_callf_keep cl44 (needs_con _ _) rfl (dd rfl) (rX (by repeat constructor)) (fun _ => sX) (fun _ _ => ?_))
                        refine oN ?_
                        refine oV (v_not rfl) ?_
                        refine oN ?_
                        refine oV vT ?_
                        refine oV vQ ?_
                        refine o_nil ?_
                        exact cJ J rfl (by clear IH IH2 hc hfl hq hL hT hN h1 hfp hls h2; (try simp only [nd_base, nd_id, nd_name, nd_note] at *); unfold bad3; first | rfl | (simp_all; done))
                      · refine oX ?_
                        iterate 3 refine oX ?_
                        refine oN ?_
                        iterate 2 refine oV vQ ?_
                        refine o_nil ?_
                        exact cJ J rfl (by clear IH IH2 hc hfl hq hL hT hN h1 hfp hls h2; (try simp only [nd_base, nd_id, nd_name, nd_note] at *); unfold bad3; first | rfl | (simp_all; done))
                    · refine oX ?_
                      iterate 3 refine oX ?_
                      iterate 4 refine oU ?_
                      refine oX ?_
                      refine oV vT ?_
                      refine o_nil ?_
                      exact cJ J rfl (by clear IH IH2 hc hfl hq hL hT hN h1 hfp hls h2; (try simp only [nd_base, nd_id, nd_name, nd_note] at *); unfold bad3; first | rfl | (simp_all; done))
                  · refine oX ?_
                    iterate 3 refine oX ?_
                    refine oN ?_
                    iterate 2 refine oV vQ ?_
                    refine oV vM ?_
                    refine oN ?_
                    refine oV (vF 4 Tryz.underlying26 ti9) ?_
                    refine oN ?_
                    refine oV (vL lone9) ?_
                    refine oN ?_
                    refine oV (v_sne rfl rfl) ?_
                    refine oN ?_
                    refine oV vM ?_
                    first | refine o_guard_t rfl rfl (fun g178 => ?_) (fun g178 => ?_) | refine o_guard rfl rfl (fun g178 => ?_) (fun g178 => ?_)
                    · refine oV (vF 0 Tryz.underlying26 ti3) ?_
                      refine oN ?_
                      refine oV (vL lone3) ?_
                      refine oN ?_
                      refine o_step (s_callf_keep cl44 (needs_con _ _) rfl (dd rfl) (rX (by repeat constructor)) (fun _ => sX) (fun _ _ => ?_))
                      refine oN ?_
                      refine oV (v_not rfl) ?_
                      refine oN ?_
                      refine oV vT ?_
                      refine oV vQ ?_
                      refine o_nil ?_
                      exact cJ J rfl (by clear IH IH2 hc hfl hq hL hT hN h1 hfp hls h2; (try simp only [nd_base, nd_id, nd_name, nd_note] at *); unfold bad3; first | rfl | (simp_all; done))
                    · refine oX ?_
                      iterate 3 refine oX ?_
                      refine oN ?_
                      iterate 2 refine oV vQ ?_
                      refine o_nil ?_
                      exact cJ J rfl (by clear IH IH2 hc hfl hq hL hT hN h1 hfp hls h2; (try simp only [nd_base, nd_id, nd_name, nd_note] at *); unfold bad3; first | rfl | (simp_all; done))
              · refine oX ?_
                iterate 3 refine oX ?_
                iterate 4 refine oU ?_
                refine oX ?_
                refine oV vT ?_
                refine oV vM ?_
                iterate 4 refine oX ?_
                iterate 4 refine oU ?_
                refine oX ?_
                refine oV vT ?_
                refine oV vM ?_
                iterate 4 refine oX ?_
                iterate 4 refine oU ?_
                refine oX ?_
                refine oV vT ?_
                refine o_nil ?_
                exact cJ J rfl (by clear IH IH2 hc hfl hq hL hT hN h1 hfp hls h2; (try simp only [nd_base, nd_id, nd_name, nd_note] at *); unfold bad3; first | rfl | (simp_all; done))
            · refine oX ?_
              iterate 3 refine oX ?_
              refine oV vQ ?_
              refine oV vM ?_
              refine oN ?_
              refine oV (vF 2 Tryz.underlying26 ti3) ?_
              refine oN ?_
              refine oV (vL lone3) ?_
              refine oN ?_
              refine oV (v_ne rfl rfl) ?_
              refine oN ?_
              refine oV vM ?_
              first | refine o_guard_t rfl rfl (fun g156 => ?_) (fun g156 => ?_) | refine o_guard rfl rfl (fun g156 => ?_) (fun g156 => ?_)
              · refine oV (vF 0 Tryz.underlying26 ti3) ?_
                refine oN ?_
                refine oV (vL lone3) ?_
                refine oN ?_
                refine o_step (s_callf_keep cl44 (needs_con _ _) rfl (dd rfl) (rX (by repeat constructor)) (fun _ => sX) (fun _ _ => ?_))
                refine oN ?_
                refine oV (v_not rfl) ?_
                refine oN ?_
                refine oV vT ?_
                refine oV vQ ?_
                refine oV vM ?_
                first | refine o_guard_f rfl rfl (fun g163 => ?_) (fun g163 => ?_) | refine o_guard rfl rfl (fun g163 => ?_) (fun g163 => ?_)
                · refine oV (vF 3 Tryz.underlying26 ti9) ?_
                  refine oN ?_
                  refine oV (vL lone9) ?_
                  refine oN ?_
                  refine oV (v_sne rfl rfl) ?_
                  refine oN ?_
                  refine oV vM ?_
                  first | refine o_guard_t rfl rfl (fun g167 => ?_) (fun g167 => ?_) | refine o_guard rfl rfl (fun g167 => ?_) (fun g167 => ?_)
                  · refine oV (vF 0 Tryz.underlying26 ti3) ?_
                    refine oN ?_
                    refine oV (vL lone3) ?_
                    refine oN ?_
                    refine o_step (s_callf_keep cl44 (needs_con _ _) rfl (dd rfl) (rX (by repeat constructor)) (fun _ => sX) (fun _ _ => ?_))
                    refine oN ?_
                    refine oV (v_not rfl) ?_
                    refine oN ?_
                    refine oV vT ?_
                    refine oV vQ ?_
                    refine oV vM ?_
                    first | refine o_guard_f rfl rfl (fun g174 => ?_) (fun g174 => ?_) | refine o_guard rfl rfl (fun g174 => ?_) (fun g174 => ?_)
                    · refine oV (vF 4 Tryz.underlying26 ti9) ?_
                      refine oN ?_
                      refine oV (vL lone9) ?_
                      refine oN ?_
                      refine oV (v_sne rfl rfl) ?_
                      refine oN ?_
                      refine oV vM ?_
                      first | refine o_guard_t rfl rfl (fun g178 => ?_) (fun g178 => ?_) | refine o_guard rfl rfl (fun g178 => ?_) (fun g178 => ?_)
                      · refine oV (vF 0 Tryz.underlying26 ti3) ?_
                        refine oN ?_
                        refine oV (vL lone3) ?_
                        refine oN ?_
                        refine o_step (s_callf_keep cl44 (needs_con _ _) rfl (dd rfl) (rX (by repeat constructor)) (fun _ => sX) (fun _ _ => ?_))
                        refine oN ?_
                        refine oV (v_not rfl) ?_
                        refine oN ?_
                        refine oV vT ?_
                        refine oV vQ ?_
                        refine o_nil ?_
                        exact cJ J rfl (by clear IH IH2 hc hfl hq hL hT hN h1 hfp hls h2; (try simp only [nd_base, nd_id, nd_name, nd_note] at *); unfold bad3; first | rfl | (simp_all; done))
                      · refine oX ?_
                        iterate 3 refine oX ?_
                        refine oN ?_
                        iterate 2 refine oV vQ ?_
                        refine o_nil ?_
                        exact cJ J rfl (by clear IH IH2 hc hfl hq hL hT hN h1 hfp hls h2; (try simp only [nd_base, nd_id, nd_name, nd_note] at *); unfold bad3; first | rfl | (simp_all; done))
                    · refine oX ?_
                      iterate 3 refine oX ?_
                      iterate 4 refine oU ?_
                      refine oX ?_
                      refine oV vT ?_
                      refine o_nil ?_
                      exact cJ J rfl (by clear IH IH2 hc hfl hq hL hT hN h1 hfp hls h2; (try simp only [nd_base, nd_id, nd_name, nd_note] at *); unfold bad3; first | rfl | (simp_all; done))
                  · refine oX ?_
                    iterate 3 refine oX ?_
                    refine oN ?_
                    iterate 2 refine oV vQ ?_
                    refine oV vM ?_
                    refine oN ?_
                    refine oV (vF 4 Tryz.underlying26 ti9) ?_
                    refine oN ?_
                    refine oV (vL lone9) ?_
                    refine oN ?_
                    refine oV (v_sne rfl rfl) ?_
                    refine oN ?_
                    refine oV vM ?_
                    first | refine o_guard_t rfl rfl (fun g178 => ?_) (fun g178 => ?_) | refine o_guard rfl rfl (fun g178 => ?_) (fun g178 => ?_)
                    · refine oV (vF 0 Tryz.underlying26 ti3) ?_
                      refine oN ?_
                      refine oV (vL lone3) ?_
                      refine oN ?_
                      refine o_step (s_callf_keep cl44 (needs_con _ _) rfl (dd rfl) (rX (by repeat constructor)) (fun _ => sX) (fun _ _ => ?_))
                      refine oN ?_
                      refine oV (v_not rfl) ?_
                      refine oN ?_
                      refine oV vT ?_
                      refine oV vQ ?_
                      refine o_nil ?_
                      exact cJ J rfl (by clear IH IH2 hc hfl hq hL hT hN h1 hfp hls h2; (try simp only [nd_base, nd_id, nd_name, nd_note] at *); unfold bad3; first | rfl | (simp_all; done))
                    · refine oX ?_
                      iterate 3 refine oX ?_
                      refine oN ?_
                      iterate 2 refine oV vQ ?_
                      refine o_nil ?_
                      exact cJ J rfl (by clear IH IH2 hc hfl hq hL hT hN h1 hfp hls h2; (try simp only [nd_base, nd_id, nd_name, nd_note] at *); unfold bad3; first | rfl | (simp_all; done))
                · refine oX ?_
                  iterate 3 refine oX ?_
                  iterate 4 refine oU ?_
                  refine oX ?_
                  refine oV vT ?_
                  refine oV vM ?_
                  iterate 4 refine oX ?_
                  iterate 4 refine oU ?_
                  refine oX ?_
                  refine oV vT ?_
                  refine o_nil ?_
                  exact cJ J rfl (by clear IH IH2 hc hfl hq hL hT hN h1 hfp hls h2; (try simp only [nd_base, nd_id, nd_name, nd_note] at *); unfold bad3; first | rfl | (simp_all; done))
              · refine oX ?_
                iterate 3 refine oX ?_
                refine oN ?_
                iterate 2 refine oV vQ ?_
                refine oV vM ?_
                refine oN ?_
                refine oV (vF 3 Tryz.underlying26 ti9) ?_
                refine oN ?_
                refine oV (vL lone9) ?_
                refine oN ?_
                refine oV (v_sne rfl rfl) ?_
                refine oN ?_
                refine oV vM ?_
                first | refine o_guard_t rfl rfl (fun g167 => ?_) (fun g167 => ?_) | refine o_guard rfl rfl (fun g167 => ?_) (fun g167 => ?_)
                · refine oV (vF 0 Tryz.underlying26 ti3) ?_
                  refine oN ?_
                  refine oV (vL lone3) ?_
                  refine oN ?_
                  refine o_step (s_callf_keep cl44 (needs_con _ _) rfl (dd rfl) (rX (by repeat constructor)) (fun _ => sX) (fun _ _ => ?_))
                  refine oN ?_
                  refine oV (v_not rfl) ?_
                  refine oN ?_
                  refine oV vT ?_
                  refine oV vQ ?_
                  refine oV vM ?_
                  first | refine o_guard_f rfl rfl (fun g174 => ?_) (fun g174 => ?_) | refine o_guard rfl rfl (fun g174 => ?_) (fun g174 => ?_)
                  · refine oV (vF 4 Tryz.underlying26 ti9) ?_
                    refine oN ?_
                    refine oV (vL lone9) ?_
                    refine oN ?_
                    refine oV (v_sne rfl rfl) ?_
                    refine oN ?_
                    refine oV vM ?_
                    first | refine o_guard_t rfl rfl (fun g178 => ?_) (fun g178 => ?_) | refine o_guard rfl rfl (fun g178 => ?_) (fun g178 => ?_)
                    · refine oV (vF 0 Tryz.underlying26 ti3) ?_
                      refine oN ?_
                      refine oV (vL lone3) ?_
                      refine oN ?_
                      refine o_step (s_callf_keep cl44 (needs_con _ _) rfl (dd rfl) (rX (by repeat constructor)) (fun _ => sX) (fun _ _ => ?_))
                      refine oN ?_
                      refine oV (v_not rfl) ?_
                      refine oN ?_
                      refine oV vT ?_
                      refine oV vQ ?_
                      refine o_nil ?_
                      exact cJ J rfl (by clear IH IH2 hc hfl hq hL hT hN h1 hfp hls h2; (try simp only [nd_base, nd_id, nd_name, nd_note] at *); unfold bad3; first | rfl | (simp_all; done))
                    · refine oX ?_
                      iterate 3 refine oX ?_
                      refine oN ?_
                      iterate 2 refine oV vQ ?_
                      refine o_nil ?_
                      exact cJ J rfl (by clear IH IH2 hc hfl hq hL hT hN h1 hfp hls h2; (try simp only [nd_base, nd_id, nd_name, nd_note] at *); unfold bad3; first | rfl | (simp_all; done))
                  · refine oX ?_
                    iterate 3 refine oX ?_
                    iterate 4 refine oU ?_
                    refine oX ?_
                    refine oV vT ?_
                    refine o_nil ?_
                    exact cJ J rfl (by clear IH IH2 hc hfl hq hL hT hN h1 hfp hls h2; (try simp only [nd_base, nd_id, nd_name, nd_note] at *); unfold bad3; first | rfl | (simp_all; done))
                · refine oX ?_
                  iterate 3 refine oX ?_
                  refine oN ?_
                  iterate 2 refine oV vQ ?_
                  refine oV vM ?_
                  refine oN ?_
                  refine oV (vF 4 Tryz.underlying26 ti9) ?_
                  refine oN ?_
                  refine oV (vL lone9) ?_
                  refine oN ?_
                  refine oV (v_sne rfl rfl) ?_
                  refine oN ?_
                  refine oV vM ?_
                  first | refine o_guard_t rfl rfl (fun g178 => ?_) (fun g178 => ?_) | refine o_guard rfl rfl (fun g178 => ?_) (fun g178 => ?_)
                  · refine oV (vF 0 Tryz.underlying26 ti3) ?_
                    refine oN ?_
                    refine oV (vL lone3) ?_
                    refine oN ?_
                    refine o_step (s_callf_keep cl44 (needs_con _ _) rfl (dd rfl) (rX (by repeat constructor)) (fun _ => sX) (fun _ _ => ?_))
                    refine oN ?_
                    refine oV (v_not rfl) ?_
                    refine oN ?_
                    refine oV vT ?_
                    refine oV vQ ?_
                    refine o_nil ?_
                    exact cJ J rfl (by clear IH IH2 hc hfl hq hL hT hN h1 hfp hls h2; (try simp only [nd_base, nd_id, nd_name, nd_note] at *); unfold bad3; first | rfl | (simp_all; done))
                  · refine oX ?_
                    iterate 3 refine oX ?_
                    refine oN ?_
                    iterate 2 refine oV vQ ?_
                    refine o_nil ?_
                    exact cJ J rfl (by clear IH IH2 hc hfl hq hL hT hN h1 hfp hls h2; (try simp only [nd_base, nd_id, nd_name, nd_note] at *); unfold bad3; first | rfl | (simp_all; done))
          refine c_cond_p rfl (fun h3 => ?_) (fun h3 => ?_)
          · refine c_seq (c_region ?_)
            refine oV vA ?_
            refine o_nil ?_
            refine c_ret1 Tryz.func14 rfl rfl fun w O hS => ?_
            exact ⟨(), congrArg Value.bool (decide_eq_false (right_bad3 h3)).symm, trivial, trivial⟩
          · refine c_skip (c_seq (c_seq ?_))
            refine c_env (env' := [(1, _), (2, _)]) (by repeat (first | exact trivial | refine ⟨rfl, ?_⟩)) ?_
            refine c_joinb (d := 216) (decide (bad4 q)) ?_ ?_
            rotate_left
            · intro J
              refine c_quiet rfl (by kernel_rfl) ?_
              refine qV (vF 5 Tryz.underlying26 ti22) ?_
              refine qV (vL lone22) ?_
              refine qV ((by first | exact v_len_form Tryz.underlying22 rfl | exact v_len_sl Tryz.underlying22 rfl (hX (by repeat constructor)))) ?_
              refine qV (v_gt rfl rfl) ?_
              refine qV vM ?_
              first | refine q_guard_t rfl rfl (fun g189 => ?_) (fun g189 => ?_) | refine q_guard rfl rfl (fun g189 => ?_) (fun g189 => ?_)
              · refine qV (vF 0 Tryz.underlying26 ti3) ?_
                refine qN ?_
                refine qV (vL lone3) ?_
                refine qN ?_
                refine q_call_keep cl44 (needs_con _ _) rfl (first := []) (cap := []) (fun _ _ => rfl) rfl rfl (dd rfl) (rX (by repeat constructor)) ?_
                refine qN ?_
                refine qV (v_not rfl) ?_
                refine qV vT ?_
                refine qV vM ?_
                first | refine q_guard_f rfl rfl (fun g195 => ?_) (fun g195 => ?_) | refine q_guard rfl rfl (fun g195 => ?_) (fun g195 => ?_)
                · refine qV (vF 6 Tryz.underlying26 ti23) ?_
                  refine qN ?_
                  refine qV (vL lone23) ?_
                  refine qN ?_
                  refine qV ((by first | exact v_len_form Tryz.underlying23 rfl | exact v_len_sl Tryz.underlying23 rfl (hX (by repeat constructor)))) ?_
                  refine qN ?_
                  refine qV (v_gt rfl rfl) ?_
                  refine qN ?_
                  refine qV vM ?_
                  first | refine q_guard_t rfl rfl (fun g200 => ?_) (fun g200 => ?_) | refine q_guard rfl rfl (fun g200 => ?_) (fun g200 => ?_)
                  · refine qV (vF 0 Tryz.underlying26 ti3) ?_
                    refine qN ?_
                    refine qV (vL lone3) ?_
                    refine qN ?_
                    refine q_call_keep cl44 (needs_con _ _) rfl (first := []) (cap := []) (fun _ _ => rfl) rfl rfl (dd rfl) (rX (by repeat constructor)) ?_
                    refine qN ?_
                    refine qV (v_not rfl) ?_
                    refine qN ?_
                    refine qV vT ?_
                    refine qV vQ ?_
                    refine qV vM ?_
                    first | refine q_guard_f rfl rfl (fun g207 => ?_) (fun g207 => ?_) | refine q_guard rfl rfl (fun g207 => ?_) (fun g207 => ?_)
                    · refine qV (vF 7 Tryz.underlying26 ti24) ?_
                      refine qN ?_
                      refine qV (vL lone24) ?_
                      refine qN ?_
                      refine qV ((by first | exact v_len_form Tryz.underlying24 rfl | exact v_len_sl Tryz.underlying24 rfl (hX (by repeat constructor)))) ?_
                      refine qN ?_
                      refine qV (v_gt rfl rfl) ?_
                      refine qN ?_
                      refine qV (vF 0 Tryz.underlying26 ti3) ?_
                      refine qN ?_
                      refine qV (vL lone3) ?_
                      refine qN ?_
                      refine q_call_keep cl44 (needs_con _ _) rfl (first := []) (cap := []) (fun _ _ => rfl) rfl rfl (dd rfl) (rX (by repeat constructor)) ?_
                      refine qN ?_
                      refine qV (v_bne Tryz.underlying4 rfl rfl) ?_
                      refine qV vQ ?_
                      refine q_nil ?_
                      exact cJ J rfl (by clear IH IH2 hc hfl hq hL hT hN h1 hfp hls h2 h3; (try simp only [nd_deps, nd_files, nd_l] at *); unfold bad4; first | rfl | (simp_all; done))
                    · refine qX ?_
                      iterate 7 refine qX ?_
                      refine qV vT ?_
                      refine q_nil ?_
                      exact cJ J rfl (by clear IH IH2 hc hfl hq hL hT hN h1 hfp hls h2 h3; (try simp only [nd_deps, nd_files, nd_l] at *); unfold bad4; first | rfl | (simp_all; done))
                  · refine qX ?_
                    iterate 3 refine qX ?_
                    refine qN ?_
                    refine qV vQ ?_
                    refine qV vQ ?_
                    refine qV vM ?_
                    refine qN ?_
                    refine qV (vF 7 Tryz.underlying26 ti24) ?_
                    refine qN ?_
                    refine qV (vL lone24) ?_
                    refine qN ?_
                    refine qV ((by first | exact v_len_form Tryz.underlying24 rfl | exact v_len_sl Tryz.underlying24 rfl (hX (by repeat constructor)))) ?_
                    refine qN ?_
                    refine qV (v_gt rfl rfl) ?_
                    refine qN ?_
                    refine qV (vF 0 Tryz.underlying26 ti3) ?_
                    refine qN ?_
                    refine qV (vL lone3) ?_
                    refine qN ?_
                    refine q_call_keep cl44 (needs_con _ _) rfl (first := []) (cap := []) (fun _ _ => rfl) rfl rfl (dd rfl) (rX (by repeat constructor)) ?_
                    refine qN ?_
                    refine qV (v_bne Tryz.underlying4 rfl rfl) ?_
                    refine qV vQ ?_
                    refine q_nil ?_
                    exact cJ J rfl (by clear IH IH2 hc hfl hq hL hT hN h1 hfp hls h2 h3; (try simp only [nd_deps, nd_files, nd_l] at *); unfold bad4; first | rfl | (simp_all; done))
                · refine qX ?_
                  iterate 4 refine qX ?_
                  refine q_offu rfl rfl (dd rfl) ?_
                  refine q_offu rfl rfl (dd rfl) ?_
                  refine q_offu rfl rfl (dd rfl) ?_
                  refine q_offu rfl rfl (dd rfl) ?_
                  refine qX ?_
                  refine qV vT ?_
                  refine qV vM ?_
                  iterate 8 refine qX ?_
                  refine qV vT ?_
                  refine q_nil ?_
                  exact cJ J rfl (by clear IH IH2 hc hfl hq hL hT hN h1 hfp hls h2 h3; (try simp only [nd_deps, nd_files, nd_l] at *); unfold bad4; first | rfl | (simp_all; done))
              · refine qX ?_
                iterate 3 refine qX ?_
                refine qV vQ ?_
                refine qV vM ?_
                refine qN ?_
                refine qV (vF 6 Tryz.underlying26 ti23) ?_
                refine qN ?_
                refine qV (vL lone23) ?_
                refine qN ?_
                refine qV ((by first | exact v_len_form Tryz.underlying23 rfl | exact v_len_sl Tryz.underlying23 rfl (hX (by repeat constructor)))) ?_
                refine qN ?_
                refine qV (v_gt rfl rfl) ?_
                refine qN ?_
                refine qV vM ?_
                first | refine q_guard_t rfl rfl (fun g200 => ?_) (fun g200 => ?_) | refine q_guard rfl rfl (fun g200 => ?_) (fun g200 => ?_)
                · refine qV (vF 0 Tryz.underlying26 ti3) ?_
                  refine qN ?_
                  refine qV (vL lone3) ?_
                  refine qN ?_
                  refine q_call_keep cl44 (needs_con _ _) rfl (first := []) (cap := []) (fun _ _ => rfl) rfl rfl (dd rfl) (rX (by repeat constructor)) ?_
                  refine qN ?_
                  refine qV (v_not rfl) ?_
                  refine qN ?_
                  refine qV vT ?_
                  refine qV vQ ?_
                  refine qV vM ?_
                  first | refine q_guard_f rfl rfl (fun g207 => ?_) (fun g207 => ?_) | refine q_guard rfl rfl (fun g207 => ?_) (fun g207 => ?_)
                  · refine qV (vF 7 Tryz.underlying26 ti24) ?_
                    refine qN ?_
                    refine qV (vL lone24) ?_
                    refine qN ?_
                    refine qV ((by first | exact v_len_form Tryz.underlying24 rfl | exact v_len_sl Tryz.underlying24 rfl (hX (by repeat constructor)))) ?_
                    refine qN ?_
                    refine qV (v_gt rfl rfl) ?_
                    refine qN ?_
                    refine qV (vF 0 Tryz.underlying26 ti3) ?_
                    refine qN ?_
                    refine qV (vL lone3) ?_
                    refine qN ?_
                    refine q_call_keep cl44 (needs_con _ _) rfl (first := []) (cap := []) (fun _ _ => rfl) rfl rfl (dd rfl) (rX (by repeat constructor)) ?_
                    refine qN ?_
                    refine qV (v_bne Tryz.underlying4 rfl rfl) ?_
                    refine qV vQ ?_
                    refine q_nil ?_
                    exact cJ J rfl (by clear IH IH2 hc hfl hq hL hT hN h1 hfp hls h2 h3; (try simp only [nd_deps, nd_files, nd_l] at *); unfold bad4; first | rfl | (simp_all; done))
                  · refine qX ?_
                    iterate 7 refine qX ?_
                    refine qV vT ?_
                    refine q_nil ?_
                    exact cJ J rfl (by clear IH IH2 hc hfl hq hL hT hN h1 hfp hls h2 h3; (try simp only [nd_deps, nd_files, nd_l] at *); unfold bad4; first | rfl | (simp_all; done))
                · refine qX ?_
                  iterate 3 refine qX ?_
                  refine qN ?_
                  refine qV vQ ?_
                  refine qV vQ ?_
                  refine qV vM ?_
                  refine qN ?_
                  refine qV (vF 7 Tryz.underlying26 ti24) ?_
                  refine qN ?_
                  refine qV (vL lone24) ?_
                  refine qN ?_
                  refine qV ((by first | exact v_len_form Tryz.underlying24 rfl | exact v_len_sl Tryz.underlying24 rfl (hX (by repeat constructor)))) ?_
                  refine qN ?_
                  refine qV (v_gt rfl rfl) ?_
                  refine qN ?_
                  refine qV (vF 0 Tryz.underlying26 ti3) ?_
                  refine qN ?_
                  refine qV (vL lone3) ?_
                  refine qN ?_
                  refine q_call_keep cl44 (needs_con _ _) rfl (first := []) (cap := []) (fun _ _ => rfl) rfl rfl (dd rfl) (rX (by repeat constructor)) ?_
                  refine qN ?_
                  refine qV (v_bne Tryz.underlying4 rfl rfl) ?_
                  refine qV vQ ?_
                  refine q_nil ?_
                  exact cJ J rfl (by clear IH IH2 hc hfl hq hL hT hN h1 hfp hls h2 h3; (try simp only [nd_deps, nd_files, nd_l] at *); unfold bad4; first | rfl | (simp_all; done))
            refine c_cond_p rfl (fun h4 => ?_) (fun h4 => ?_)
            · refine c_seq (c_region ?_)
              refine oV vA ?_
              refine o_nil ?_
              refine c_ret1 Tryz.func14 rfl rfl fun w O hS => ?_
              exact ⟨(), congrArg Value.bool (decide_eq_false (right_bad4 h4)).symm, trivial, trivial⟩
            · have hg := right_good h1 gd gf h2 h3 h4
              refine c_skip (c_seq (c_seq (c_region ?_)))
              refine oV (vF 0 Tryz.underlying26 ti3) ?_
              refine oV (vL lone3) ?_
              refine oV (v_eq rfl rfl) ?_
              refine o_nil ?_
              refine c_cond_p rfl (fun h12 => ?_) (fun h12 => ?_)
              · rw [if_pos h12] at hg
                refine c_seq ?_
                refine c_env (env' := [(1, _)]) (by repeat (first | exact trivial | refine ⟨rfl, ?_⟩)) ?_
                refine c_joinb (d := 2) (decide (0 ≤ q.2.2.1 ∧ q.2.2.1 ≤ 100)) ?_ ?_
                rotate_left
                · intro J
                  refine c_region ?_
                  refine oV (vF 2 Tryz.underlying26 ti3) ?_
                  refine oV (vL lone3) ?_
                  refine oV (v_ge rfl rfl) ?_
                  refine oV vM ?_
                  first | refine o_guard_t rfl rfl (fun g223 => ?_) (fun g223 => ?_) | refine o_guard rfl rfl (fun g223 => ?_) (fun g223 => ?_)
                  · refine oV (vF 2 Tryz.underlying26 ti3) ?_
                    refine oN ?_
                    refine oV (vL lone3) ?_
                    refine oN ?_
                    refine oV (v_le rfl rfl) ?_
                    refine oV vT ?_
                    refine oV vA ?_
                    refine o_nil ?_
                    exact cJ J rfl (by clear IH IH2 hc hfl hq hL hT hN h1 hfp hls h2 h3 h4 hg; first | rfl | (simp_all; done) | (simp_all; omega))
                  · refine oX ?_
                    iterate 2 refine oX ?_
                    refine oV vQ ?_
                    refine oV vA ?_
                    refine o_nil ?_
                    exact cJ J rfl (by clear IH IH2 hc hfl hq hL hT hN h1 hfp hls h2 h3 h4 hg; first | rfl | (simp_all; done) | (simp_all; omega))
                refine c_ret1 Tryz.func14 rfl rfl fun w O hS => ?_
                exact ⟨(), congrArg Value.bool (decide_eq_decide.2 hg.symm), trivial, trivial⟩
              · rw [if_neg h12] at hg
                refine c_skip (c_seq (c_seq ?_))
                refine c_env (env' := [(1, _), (2, _)]) (by repeat (first | exact trivial | refine ⟨rfl, ?_⟩)) ?_
                refine c_joinb (d := 240) (decide ((q.1 = 1 ∨ q.1 = 2 ∨ q.1 = 3 ∨ q.1 = 12) ∧ (q.2.2.1 < 1 ∨ 1000000000 < q.2.2.1))) ?_ ?_
                rotate_left
                · intro J
                  refine c_region ?_
                  refine oV (vF 0 Tryz.underlying26 ti3) ?_
                  refine oV (vL lone3) ?_
                  refine o_step (s_callf_keep cl44 (needs_con _ _) rfl (dd rfl) (rX (by repeat constructor)) (fun _ => sX) (fun _ _ => ?_))
                  refine oV vM ?_
                  first | refine o_guard_t rfl rfl (fun g231 => ?_) (fun g231 => ?_) | refine o_guard rfl rfl (fun g231 => ?_) (fun g231 => ?_)
                  · refine oV (vF 2 Tryz.underlying26 ti3) ?_
                    refine oN ?_
                    refine oV (vL lone3) ?_
                    refine oN ?_
                    refine oV (v_lt rfl rfl) ?_
                    refine oN ?_
                    refine oV vM ?_
                    first | refine o_guard_f rfl rfl (fun g235 => ?_) (fun g235 => ?_) | refine o_guard rfl rfl (fun g235 => ?_) (fun g235 => ?_)
                    · refine oV (vF 2 Tryz.underlying26 ti3) ?_
                      refine oN ?_
                      refine oV (vL lone3) ?_
                      refine oN ?_
                      refine oV (v_gt rfl rfl) ?_
                      refine oN ?_
                      refine oV vQ ?_
                      refine oV vT ?_
                      refine o_nil ?_
                      exact cJ J rfl (by clear IH IH2 hc hfl hq hL hT hN h1 hfp hls h2 h3 h4 hg hdp gd gf hj hlj hlt hk J hlen hdl h12; first | rfl | exact (decide_eq_false fun h => g231 h.1).symm | exact decide_eq_decide.2 ⟨fun h => ⟨g231, .inr h⟩, fun h => h.2.resolve_left g235⟩ | exact (decide_eq_true ⟨g231, .inl g235⟩).symm)
                    · refine oX ?_
                      iterate 2 refine oX ?_
                      refine oN ?_
                      iterate 2 refine oV vT ?_
                      refine o_nil ?_
                      exact cJ J rfl (by clear IH IH2 hc hfl hq hL hT hN h1 hfp hls h2 h3 h4 hg hdp gd gf hj hlj hlt hk J hlen hdl h12; first | rfl | exact (decide_eq_false fun h => g231 h.1).symm | exact decide_eq_decide.2 ⟨fun h => ⟨g231, .inr h⟩, fun h => h.2.resolve_left g235⟩ | exact (decide_eq_true ⟨g231, .inl g235⟩).symm)
                  · refine oX ?_
                    iterate 3 refine oX ?_
                    iterate 3 refine oU ?_
                    refine oX ?_
                    refine oV vQ ?_
                    refine o_nil ?_
                    exact cJ J rfl (by clear IH IH2 hc hfl hq hL hT hN h1 hfp hls h2 h3 h4 hg hdp gd gf hj hlj hlt hk J hlen hdl h12; first | rfl | exact (decide_eq_false fun h => g231 h.1).symm | exact decide_eq_decide.2 ⟨fun h => ⟨g231, .inr h⟩, fun h => h.2.resolve_left g235⟩ | exact (decide_eq_true ⟨g231, .inl g235⟩).symm)
                refine c_cond_p rfl (fun h5 => ?_) (fun h5 => ?_)
                · refine c_seq (c_region ?_)
                  refine oV vA ?_
                  refine o_nil ?_
                  refine c_ret1 Tryz.func14 rfl rfl fun w O hS => ?_
                  exact ⟨(), congrArg Value.bool (decide_eq_false fun h => (hg.1 h).1 ⟨decide_eq_true h5.1, h5.2⟩).symm, trivial, trivial⟩
                · refine c_skip (c_seq ?_)
                  refine c_env (env' := [(1, _)]) (by repeat (first | exact trivial | refine ⟨rfl, ?_⟩)) ?_
                  refine c_joinb (d := 2) (decide (q.2.2.2.1 ≠ ⟨#[]⟩ ∨ ¬ needN q.1 = true ∨ q.1 = 10)) ?_ ?_
                  rotate_left
                  · intro J
                    refine c_region ?_
                    refine oV (vF 3 Tryz.underlying26 ti9) ?_
                    refine oV (vL lone9) ?_
                    refine oV (v_sne rfl rfl) ?_
                    refine oV vM ?_
                    first | refine o_guard_f rfl rfl (fun g244 => ?_) (fun g244 => ?_) | refine o_guard rfl rfl (fun g244 => ?_) (fun g244 => ?_)
                    · refine oV (vF 0 Tryz.underlying26 ti3) ?_
                      refine oN ?_
                      refine oV (vL lone3) ?_
                      refine oN ?_
                      refine o_step (s_callf_keep cl44 (needs_con _ _) rfl (dd rfl) (rX (by repeat constructor)) (fun _ => sX) (fun _ _ => ?_))
                      refine oN ?_
                      refine oV (v_not rfl) ?_
                      refine oV vQ ?_
                      refine oV vM ?_
                      first | refine o_guard_f rfl rfl (fun g250 => ?_) (fun g250 => ?_) | refine o_guard rfl rfl (fun g250 => ?_) (fun g250 => ?_)
                      · refine oV (vF 0 Tryz.underlying26 ti3) ?_
                        refine oN ?_
                        refine oV (vL lone3) ?_
                        refine oN ?_
                        refine oV (v_eq rfl rfl) ?_
                        refine oV vQ ?_
                        refine oV vA ?_
                        refine o_nil ?_
                        exact cJ J rfl (by clear IH IH2 hc hfl hq hL hT hN h1 hfp hls h2 h3 h4 hg hdp gd gf hj hlj hlt hk J hlen hdl h12 h5; (try simp only [nd_name] at *); generalize needN q.1 = ni at *; first | rfl | (simp_all; done) | (simp_all; omega))
                      · refine oX ?_
                        iterate 2 refine oX ?_
                        refine oV vT ?_
                        refine oV vA ?_
                        refine o_nil ?_
                        exact cJ J rfl (by clear IH IH2 hc hfl hq hL hT hN h1 hfp hls h2 h3 h4 hg hdp gd gf hj hlj hlt hk J hlen hdl h12 h5; (try simp only [nd_name] at *); generalize needN q.1 = ni at *; first | rfl | (simp_all; done) | (simp_all; omega))
                    · refine oX ?_
                      iterate 3 refine oX ?_
                      refine oV vT ?_
                      refine oV vM ?_
                      iterate 3 refine oX ?_
                      refine oV vT ?_
                      refine oV vA ?_
                      refine o_nil ?_
                      exact cJ J rfl (by clear IH IH2 hc hfl hq hL hT hN h1 hfp hls h2 h3 h4 hg hdp gd gf hj hlj hlt hk J hlen hdl h12 h5; (try simp only [nd_name] at *); generalize needN q.1 = ni at *; first | rfl | (simp_all; done) | (simp_all; omega))
                  refine c_ret1 Tryz.func14 rfl rfl fun w O hS => ?_
                  exact ⟨(), congrArg Value.bool (decide_eq_decide.2 ⟨fun h => hg.2 ⟨fun x => h5 ⟨of_decide_eq_true x.1, x.2⟩, h⟩, fun h => (hg.1 h).2⟩), trivial, trivial⟩
end Go.Proofs.YtlfehnnmpkohkaaGreatDoor
/- Chapter 16: the bytes of requests and responses: the program's way. -/
namespace Go.Proofs.YtlfehnnmpkohkaaGreatDoor
open Go Go.SL Go.Lib
abbrev rqC (q : Rq9) (d f l : Value) : List Value := [.int .i64 q.1, .int .i64 q.2.1, .int .i64 q.2.2.1, .string q.2.2.2.1, .string q.2.2.2.2.1, d, f, l]
abbrev rsC (s : Rs9) (l i t n : Value) : List Value := [.int .i64 s.1, .int .i64 s.2.1, l, i, t, n]
def I64 (n : Int) : Prop := -9223372036854775808 ≤ n ∧ n ≤ 9223372036854775807
/-- Requests, and responses, that can be counted. -/
structure CountQ (q : Rq9) : Prop where
  kind : I64 q.1
  base : I64 q.2.1
  id : I64 q.2.2.1
  deps : q.2.2.2.2.2.1.length ≤ 1000000 ∧ ∀ n ∈ q.2.2.2.2.2.1, I64 n
  files : q.2.2.2.2.2.2.1.length ≤ 1000000
  prims : q.2.2.2.2.2.2.2.length ≤ 1000000 ∧ ∀ p ∈ q.2.2.2.2.2.2.2, CountP p
structure CountS (s : Rs9) : Prop where
  code : I64 s.1
  version : I64 s.2.1
  prims : s.2.2.1.length ≤ 1000000 ∧ ∀ p ∈ s.2.2.1, CountP p
  ids : s.2.2.2.1.length ≤ 1000000 ∧ ∀ n ∈ s.2.2.2.1, I64 n
  lines : s.2.2.2.2.1.length ≤ 1000000
  notes : s.2.2.2.2.2.length ≤ 1000000 ∧ ∀ n ∈ s.2.2.2.2.2, I64 n.1 ∧ n.2.1.length ≤ 1000000
attribute [local irreducible] Cfg Kont StepK Val Con Qops Any Sl Own Blk BlkR Rd Pu ExA AllA Has Pick Ent Elem Beside Callable TI Lone OwnO AndA
set_option maxRecDepth 100000 in
theorem numbers_con (b : Nat) (v u : Value) (l : List UInt8) (xs : List Int) (hx : xs.length ≤ 1000000) (hc : ∀ n ∈ xs, I64 n) (hl : l.length + (rowB xs).length ≤ 100000000000000) : Con Tryz.prog 52 [ptr b, u] [Blk b 89 [v], Own eByte 5 v l, G3, Sl (eInt .i64) u xs] (γ := Value) (fun _ => .tuple #[]) (fun _ => True) (fun g => [Blk b 89 [g], Own eByte 5 g (l ++ rowB xs)]) := by
  unfold rowB at *
  have hnum : (manyB numB xs).length = (numB xs.length).length + ((xs.map numB).flatten).length := by unfold manyB; simp
  refine con_of Tryz.func52 rfl (dd rfl) fun w0 O0 => ?_
  refine c_seq (c_region ?_)
  iterate 2 refine oV vM ?_
  refine oV ((by first | exact v_len_form Tryz.underlying22 rfl | exact v_len_sl Tryz.underlying22 rfl (hX (by repeat constructor)))) ?_
  refine oC cl50 (num_con b v l xs.length (by omega) (by omega)) fun v1 _ => ?_
  refine o_nil (c_seq (c_region ?_))
  refine oV vM ?_
  refine oV ((by first | exact v_len_form Tryz.underlying22 rfl | exact v_len_sl Tryz.underlying22 rfl (hX (by repeat constructor)))) ?_
  refine oV vM ?_
  refine o_nil (c_block ?_)
  rw [show l ++ numB xs.length = l ++ (numB xs.length ++ ((xs.take 0).map numB).flatten) by simp]
  refine c_loopR (γ := Nat × Value) [(0, _), (10, _), (11, _)] (fun g => xs.length - g.1) (fun g => g.1 ≤ xs.length) (fun g => [(12, .int .i64 g.1)]) (fun g => [Blk b 89 [g.2], Own eByte 5 g.2 (l ++ (numB xs.length ++ ((xs.take g.1).map numB).flatten)), G3, Sl (eInt .i64) u xs]) ((0, v1)) (Nat.zero_le _) (by repeat (first | exact trivial | refine ⟨rfl, ?_⟩)) (eX (by repeat constructor)) ?_
  rintro ⟨k, r⟩ hk IH
  dsimp only at hk ⊢
  try dsimp only [List.cons_append, List.nil_append]
  refine c_seq (c_region ?_)
  refine oV (v_lt rfl rfl) ?_
  refine o_nil (c_seq ?_)
  refine c_cond_p rfl (fun hlt => ?_) (fun hlt => ?_)
  · have hk' : k < xs.length := by omega
    have hfp := flat_part numB hk'
    refine c_skip (c_seq (c_block (c_seq (c_region ?_))))
    refine oV ((by first | exact v_indexAddrN Tryz.underlying22 ti3 rfl rfl (hX (by repeat constructor)) (by omega) | exact v_indexAddr Tryz.underlying22 ti3 rfl rfl (hX (by repeat constructor)) (by omega))) ?_
    refine oV (v_load_int lone3 rfl (by repeat (first | exact Elem.sl (List.getElem?_eq_getElem (by omega)) | exact Elem.own (List.getElem?_eq_getElem (by omega)) | exact Elem.ownO (List.getElem?_eq_getElem (by omega)) | apply Elem.there))) ?_
    refine oV vA ?_
    refine o_nil (c_region ?_)
    iterate 2 refine oV vM ?_
    refine oC cl50 (num_con b r (l ++ (numB xs.length ++ ((xs.take k).map numB).flatten)) xs[k] (hc _ (List.getElem_mem hk')) (by simp only [List.length_append]; omega)) fun v2 _ => ?_
    refine o_nil (c_inBlock (c_region ?_))
    refine oV ((by first | exact v_add64 rfl rfl (by omega) | exact v_add rfl rfl)) ?_
    refine oV vM ?_
    refine o_nil ?_
    rw [List.append_assoc, List.append_assoc, ← flat_next numB hk']
    refine cU (IH ((k + 1, v2)) (by first | omega | (dsimp only; omega)) (by dsimp only; omega))
  · have hke : k = xs.length := by omega
    refine c_exit rfl ?_
    refine c_end0 Tryz.func52 rfl fun w O hS => ?_
    exact ⟨r, rfl, trivial, by unfold manyB; rw [hke, List.take_length] at hS; exact Ent.get hS (eX (by repeat constructor))⟩
set_option maxRecDepth 100000 in
theorem pack_con (q : Rq9) (d f l : Value) (hq : CountQ q) (hl : (reqB q).length ≤ 100000000000000) : Con Tryz.prog 18 [.agg (rqC q d f l).toArray] [Sl (eInt .i64) d q.2.2.2.2.2.1, Sl eStr f q.2.2.2.2.2.2.1, Sl ePr l q.2.2.2.2.2.2.2, G3] (γ := Value) (fun g => g) (fun _ => True) (fun g => [Own eByte 5 g (reqB q)]) := by
  obtain ⟨k, bs, i, n, t, dl, fl, pl⟩ := q
  obtain ⟨h1, h2, h3, ⟨h4, h4'⟩, h5, h6, h6'⟩ := hq
  dsimp only [rqC] at h1 h2 h3 h4 h4' h5 h6 h6' ⊢
  unfold I64 at h1 h2 h3
  have hle : (reqB (k, bs, i, n, t, dl, fl, pl)).length = (numB k).length + (numB bs).length + (numB i).length + (textB n).length + (textB t).length + (rowB dl).length + (textsB fl).length + (primsB pl).length := by unfold reqB; simp only [List.length_append]
  have c1 := fun b => num_con b (.slice none 0 0) [] k h1 (by simp only [List.length_nil]; omega)
  rw [List.nil_append] at c1
  refine con_of Tryz.func18 rfl (dd rfl) fun w0 O0 => ?_
  refine c_seq (c_region ?_)
  refine o_step (s_box rfl (dd rfl) (fun b1 => ?_))
  refine oV vA ?_
  refine o_nil (c_seq (c_region ?_))
  refine o_step (s_alloc ti89 (dd rfl) (fun b3 => ?_))
  refine o_nil (c_seq (c_region ?_))
  refine oV (vF 0 Tryz.underlying32 ti3) ?_
  refine oV (vL lone3) ?_
  refine oC cl50 (c1 b3) fun v1 _ => ?_
  refine o_nil (c_seq (c_region ?_))
  refine oV (vF 1 Tryz.underlying32 ti3) ?_
  refine oV (vL lone3) ?_
  refine oC cl50 (num_con b3 v1 (numB k) bs h2 (by omega)) fun v2 _ => ?_
  refine o_nil (c_seq (c_region ?_))
  refine oV (vF 2 Tryz.underlying32 ti3) ?_
  refine oV (vL lone3) ?_
  refine oC cl50 (num_con b3 v2 (numB k ++ numB bs) i h3 (by simp only [List.length_append]; omega)) fun v3 _ => ?_
  refine o_nil (c_seq (c_region ?_))
  refine oV (vF 3 Tryz.underlying32 ti9) ?_
  refine oV (vL lone9) ?_
  refine oC cl51 (text_con b3 v3 (numB k ++ numB bs ++ numB i) n (by simp only [List.length_append]; omega)) fun v4 _ => ?_
  refine o_nil (c_seq (c_region ?_))
  refine oV (vF 4 Tryz.underlying32 ti9) ?_
  refine oV (vL lone9) ?_
  refine oC cl51 (text_con b3 v4 (numB k ++ numB bs ++ numB i ++ textB n) t (by simp only [List.length_append]; omega)) fun v5 _ => ?_
  refine o_nil (c_seq (c_region ?_))
  refine oV (vF 5 Tryz.underlying32 ti22) ?_
  refine oV (vL lone22) ?_
  refine oC cl52 (numbers_con b3 v5 d (numB k ++ numB bs ++ numB i ++ textB n ++ textB t) dl h4 h4' (by simp only [List.length_append]; omega)) fun v6 _ => ?_
  refine o_nil (c_seq (c_region ?_))
  refine oV (vF 6 Tryz.underlying32 ti23) ?_
  refine oV (vL lone23) ?_
  refine oC cl53 (texts_con b3 v6 f (numB k ++ numB bs ++ numB i ++ textB n ++ textB t ++ rowB dl) fl (by omega) (by simp only [List.length_append]; omega)) fun v7 _ => ?_
  refine o_nil (c_seq (c_region ?_))
  refine oV (vF 7 Tryz.underlying32 ti30) ?_
  refine oV (vL lone30) ?_
  refine oC cl54 (prims_con b3 v7 l (numB k ++ numB bs ++ numB i ++ textB n ++ textB t ++ rowB dl ++ textsB fl) pl (by omega) h6' (by simp only [List.length_append]; omega)) fun v8 _ => ?_
  refine o_nil (c_seq (c_region ?_))
  refine oC cl55 (bytes_con b3 v8 (reqB (k, bs, i, n, t, dl, fl, pl)) (by omega)) fun v9 _ => ?_
  refine oV vA ?_
  refine o_nil ?_
  refine c_ret1 Tryz.func18 rfl rfl fun w O hS => ?_
  exact ⟨v9, rfl, trivial, Ent.get hS (eX (by repeat constructor))⟩
theorem resB_len (s : Rs9) : (resB s).length = (numB s.1).length + (numB s.2.1).length + (primsB s.2.2.1).length + (rowB s.2.2.2.1).length + (textsB s.2.2.2.2.1).length + ((numB s.2.2.2.2.2.length).length + ((s.2.2.2.2.2.map noteB).flatten).length) := by unfold resB manyB; simp only [List.length_append]
set_option maxRecDepth 100000 in
theorem packRes_con (s : Rs9) (l i t n : Value) (hs : CountS s) (hl : (resB s).length ≤ 100000000000000) : Con Tryz.prog 26 [.agg (rsC s l i t n).toArray] [Sl ePr l s.2.2.1, Sl (eInt .i64) i s.2.2.2.1, Sl eStr t s.2.2.2.2.1, Sl eNt n s.2.2.2.2.2, G3] (γ := Value) (fun g => g) (fun _ => True) (fun g => [Own eByte 5 g (resB s)]) := by
  obtain ⟨c, ver, pl, il, tl, nl⟩ := s
  obtain ⟨h1, h2, ⟨h3, h3'⟩, ⟨h4, h4'⟩, h5, h6, h6'⟩ := hs
  have hle := resB_len (c, ver, pl, il, tl, nl)
  dsimp only [rsC] at h1 h2 h3 h3' h4 h4' h5 h6 h6' hle ⊢
  unfold I64 at h1 h2
  obtain ⟨base, hbase⟩ : ∃ base, base = numB c ++ numB ver ++ primsB pl ++ rowB il ++ textsB tl := ⟨_, rfl⟩
  have hbl : base.length = (numB c).length + (numB ver).length + (primsB pl).length + (rowB il).length + (textsB tl).length := by rw [hbase]; simp only [List.length_append]
  have hfull : resB (c, ver, pl, il, tl, nl) = base ++ (numB nl.length ++ (nl.map noteB).flatten) := by rw [hbase]; rfl
  have c1 := fun b => num_con b (.slice none 0 0) [] c h1 (by simp only [List.length_nil]; omega)
  rw [List.nil_append] at c1
  refine con_of Tryz.func26 rfl (dd rfl) fun w0 O0 => ?_
  refine c_seq (c_region ?_)
  refine o_step (s_box rfl (dd rfl) (fun b1 => ?_))
  refine oV vA ?_
  refine o_nil (c_seq (c_region ?_))
  refine o_step (s_alloc ti89 (dd rfl) (fun b3 => ?_))
  refine o_nil (c_seq (c_region ?_))
  refine oV (vF 0 Tryz.underlying55 ti3) ?_
  refine oV (vL lone3) ?_
  refine oC cl50 (c1 b3) fun v1 _ => ?_
  refine o_nil (c_seq (c_region ?_))
  refine oV (vF 1 Tryz.underlying55 ti3) ?_
  refine oV (vL lone3) ?_
  refine oC cl50 (num_con b3 v1 (numB c) ver h2 (by omega)) fun v2 _ => ?_
  refine o_nil (c_seq (c_region ?_))
  refine oV (vF 2 Tryz.underlying55 ti30) ?_
  refine oV (vL lone30) ?_
  refine oC cl54 (prims_con b3 v2 l (numB c ++ numB ver) pl (by omega) h3' (by simp only [List.length_append]; omega)) fun v3 _ => ?_
  refine o_nil (c_seq (c_region ?_))
  refine oV (vF 3 Tryz.underlying55 ti22) ?_
  refine oV (vL lone22) ?_
  refine oC cl52 (numbers_con b3 v3 i (numB c ++ numB ver ++ primsB pl) il h4 h4' (by simp only [List.length_append]; omega)) fun v4 _ => ?_
  refine o_nil (c_seq (c_region ?_))
  refine oV (vF 4 Tryz.underlying55 ti23) ?_
  refine oV (vL lone23) ?_
  refine oC cl53 (texts_con b3 v4 t (numB c ++ numB ver ++ primsB pl ++ rowB il) tl (by omega) (by simp only [List.length_append]; omega)) fun v5 _ => ?_
  refine o_nil (c_seq (c_region ?_))
  refine oV (vF 5 Tryz.underlying55 ti53) ?_
  refine oV (vL lone53) ?_
  refine oV ((by first | exact v_len_form Tryz.underlying53 rfl | exact v_len_sl Tryz.underlying53 rfl (hX (by repeat constructor)))) ?_
  rw [← hbase]
  refine oC cl50 (num_con b3 v5 base nl.length (by omega) (by omega)) fun v6 _ => ?_
  refine o_nil (c_seq (c_seq (c_region ?_)))
  refine oV (vF 5 Tryz.underlying55 ti53) ?_
  refine oV (vL lone53) ?_
  refine oV ((by first | exact v_len_form Tryz.underlying53 rfl | exact v_len_sl Tryz.underlying53 rfl (hX (by repeat constructor)))) ?_
  refine oV vM ?_
  refine o_nil (c_block ?_)
  rw [show base ++ numB nl.length = base ++ (numB nl.length ++ ((nl.take 0).map noteB).flatten) by simp]
  refine c_loopR (γ := Nat × Value) [(2, _), (3, _), (26, _), (27, _)] (fun g => nl.length - g.1) (fun g => g.1 ≤ nl.length) (fun g => [(28, .int .i64 g.1)]) (fun g => [Blk b3 89 [g.2], Own eByte 5 g.2 (base ++ (numB nl.length ++ ((nl.take g.1).map noteB).flatten)), G3, Sl eNt n nl]) ((0, v6)) (Nat.zero_le _) (by repeat (first | exact trivial | refine ⟨rfl, ?_⟩)) (eX (by repeat constructor)) ?_
  rintro ⟨k, r⟩ hk IH
  dsimp only at hk ⊢
  try dsimp only [List.cons_append, List.nil_append]
  refine c_seq (c_region ?_)
  refine oV (v_lt rfl rfl) ?_
  refine o_nil (c_seq ?_)
  refine c_cond_p rfl (fun hlt => ?_) (fun hlt => ?_)
  · have hk' : k < nl.length := by omega
    have hfp := flat_part noteB hk'
    obtain ⟨hn1, hn2⟩ := h6' _ (List.getElem_mem hk')
    have hnb : (noteB nl[k]).length = (numB nl[k].1).length + (flagB nl[k].2.2).length + (textsB nl[k].2.1).length := by unfold noteB; simp only [List.length_append]
    obtain ⟨pre, hpre⟩ : ∃ pre, pre = base ++ (numB nl.length ++ ((nl.take k).map noteB).flatten) := ⟨_, rfl⟩
    have hpl : pre.length = base.length + ((numB nl.length).length + ((nl.take k).map noteB).flatten.length) := by rw [hpre]; simp only [List.length_append]
    have hnx : pre ++ numB nl[k].1 ++ flagB nl[k].2.2 ++ textsB nl[k].2.1 = base ++ (numB nl.length ++ ((nl.take (k + 1)).map noteB).flatten) := by
      rw [flat_next noteB hk', hpre]; unfold noteB; simp only [List.append_assoc]
    rw [← hpre]
    refine c_skip (c_seq (c_block (c_seq (c_region ?_))))
    refine oV ((by first | exact v_indexAddrN Tryz.underlying53 ti72 rfl rfl (hX (by repeat constructor)) (by omega) | exact v_indexAddr Tryz.underlying53 ti72 rfl rfl (hX (by repeat constructor)) (by omega))) ?_
    refine o_step (s_load_shape ⟨_, Tryz.underlying72⟩ ti72 rfl (dd rfl) (by repeat (first|exact el1 (by omega)|exact el2 (by omega)|exact el3 (by omega)|apply Elem.there)) (nt_open) (fun g => ?_))
    refine o_step (s_alloc ti72 (dd rfl) (fun b5 => ?_))
    refine o_step (s_store_all ti72 rfl rfl (by first | exact CellsV.lit rfl | exact CellsV.one (by first | exact OneC.lit rfl | exact OneC.sl (hX (by repeat constructor)) )) (by repeat (first | exact OneAll.nil | (refine OneAll.cons ?_ ?_; · first | exact OneC.lit rfl | exact OneC.sl (hX (by repeat constructor)) ) | exact OneAll.rd (hX (by repeat constructor)))) rfl (pB (by repeat constructor)) rfl (?_))
    refine o_nil (c_seq (c_region ?_))
    refine oV (vF 0 Tryz.underlying72 ti3) ?_
    refine oV (vL lone3) ?_
    refine oC cl50 (num_con b3 r pre nl[k].1 hn1 (by omega)) fun r1 _ => ?_
    refine o_nil (c_seq (c_region ?_))
    refine oV (vF 2 Tryz.underlying72 ti4) ?_
    refine oV (vL lone4) ?_
    refine oC cl74 (flag_con b3 r1 (pre ++ numB nl[k].1) nl[k].2.2 (by simp only [List.length_append]; omega)) fun r2 _ => ?_
    refine o_nil (c_region ?_)
    refine oV (vF 1 Tryz.underlying72 ti23) ?_
    refine oV (vL lone23) ?_
    refine oC cl53 (texts_con b3 r2 g (pre ++ numB nl[k].1 ++ flagB nl[k].2.2) nl[k].2.1 (by omega) (by simp only [List.length_append]; omega)) fun r3 _ => ?_
    refine o_nil (c_inBlock (c_region ?_))
    refine oV ((by first | exact v_add64 rfl rfl (by omega) | exact v_add rfl rfl)) ?_
    refine oV vM ?_
    refine o_nil ?_
    rw [hnx]
    refine cU (IH ((k + 1, r3)) (by first | omega | (dsimp only; omega)) (by dsimp only; omega))
  · have hke : k = nl.length := by omega
    have hall : base ++ (numB nl.length ++ ((nl.take k).map noteB).flatten) = resB (c, ver, pl, il, tl, nl) := by rw [hke, List.take_length, hfull]
    rw [hall]
    refine c_exit rfl ?_
    refine c_seq (c_region ?_)
    refine oC cl55 (bytes_con b3 r (resB (c, ver, pl, il, tl, nl)) (by omega)) fun v9 _ => ?_
    refine oV vA ?_
    refine o_nil ?_
    refine c_ret1 Tryz.func26 rfl rfl fun w O hS => ?_
    exact ⟨v9, rfl, trivial, Ent.get hS (eX (by repeat constructor))⟩
end Go.Proofs.YtlfehnnmpkohkaaGreatDoor
/- Chapter 16: sizes of what is read. -/
namespace Go.Proofs.YtlfehnnmpkohkaaGreatDoor
open Go Go.Lib
theorem takeRep_step {n k : Nat} {s : St9} {out : List Int} (hk : k < n) : takeRep (n - k) s out = takeRep (n - (k + 1)) (takeNum s).1 (out ++ [(takeNum s).2]) := by
  rw [show n - k = (n - (k + 1)) + 1 by omega, takeRep]
theorem takeRep_end {n k : Nat} {s : St9} {out : List Int} (hk : n ≤ k) : takeRep (n - k) s out = (s, out) := by
  rw [show n - k = 0 by omega]; rfl
section
variable {α : Type} {take : St9 → St9 × α}
theorem repG_step {n k : Nat} {s : St9} {out : List α} (hk : k < n) : repG take (n - k) s out = repG take (n - (k + 1)) (take s).1 (out ++ [(take s).2]) := by
  rw [show n - k = (n - (k + 1)) + 1 by omega, repG]
theorem repG_end {n k : Nat} {s : St9} {out : List α} (hk : n ≤ k) : repG take (n - k) s out = (s, out) := by
  rw [show n - k = 0 by omega]; rfl
theorem repG_len : ∀ (k : Nat) (s : St9) (out : List α), (repG take k s out).2.length = out.length + k
  | 0, _, _ => rfl
  | k + 1, s, out => by rw [repG, repG_len k, List.length_append]; simp; omega
theorem repG_goes (hg : GoesP take) : ∀ (k : Nat) (s : St9) (out : List α), ∃ j, j ≤ s.1.length ∧ (repG take k s out).1.1 = s.1.drop j
  | 0, s, _ => ⟨0, Nat.zero_le _, rfl⟩
  | k + 1, s, out => by
    rw [repG]
    exact goes_trans (a := take s) (b := repG take k (take s).1 (out ++ [(take s).2])) (hg s) (repG_goes hg k _ _)
theorem repG_ok {ok : α → Prop} (hg : GoesP take) (ho : ∀ s, s.1.length ≤ big9 → ok (take s).2) : ∀ (k : Nat) (s : St9) (out : List α), s.1.length ≤ big9 → (∀ x ∈ out, ok x) → ∀ x ∈ (repG take k s out).2, ok x
  | 0, _, _, _, h => h
  | k + 1, s, out, hs, h => by
    rw [repG]
    refine repG_ok hg ho k _ _ (Nat.le_trans (goes_len hg s) hs) fun x hx => ?_
    rcases List.mem_append.1 hx with h1 | h1
    · exact h x h1
    · rw [List.mem_singleton.1 h1]; exact ho s hs
theorem manyP9_goes (hg : GoesP take) (m : Int) : GoesP (manyP9 take m) := fun s => goes_trans (a := takeNum s) (b := manyP9 take m s) (goes_num s) (repG_goes hg _ _ _)
theorem manyP9_len {m : Int} {n : Nat} {s : St9} (hm : m ≤ n) : (manyP9 take m s).2.length ≤ n := by
  unfold manyP9
  rw [repG_len]
  simp only [List.length_nil]
  omega
theorem manyP9_ok {ok : α → Prop} (hg : GoesP take) (ho : ∀ s, s.1.length ≤ big9 → ok (take s).2) {m : Int} {s : St9} (hs : s.1.length ≤ big9) : ∀ x ∈ (manyP9 take m s).2, ok x :=
  repG_ok hg ho _ _ _ (Nat.le_trans (goes_len goes_num s) hs) fun x hx => by cases hx
end
theorem goes_row (m : Int) : GoesP (takeRowP m) := fun s => by rw [rowP_G]; exact manyP9_goes goes_num m s
theorem row_len {m : Int} {n : Nat} {s : St9} (hm : m ≤ n) : (takeRowP m s).2.length ≤ n := by rw [rowP_G]; exact manyP9_len hm
theorem row_far {m : Int} {s : St9} (hs : s.1.length ≤ big9) : ∀ n ∈ (takeRowP m s).2, -far9 ≤ n ∧ n ≤ far9 := by
  rw [rowP_G]; exact manyP9_ok (ok := fun n : Int => -far9 ≤ n ∧ n ≤ far9) goes_num (fun s _ => num_far) hs
theorem goes_note : GoesP takeNote := fun s => by
  unfold takeNote
  exact goes_trans (b := takeTexts 1000 60 (takeFlag (takeNum s).1).1) (goes_trans (a := takeNum s) (b := takeFlag (takeNum s).1) (goes_num s) (goes_flag _)) (goes_some (goes_text 60) 1000 _)
theorem many_sum {α : Type} {put : α → List UInt8} {c : Nat} : ∀ {l : List α}, (∀ x ∈ l, (put x).length ≤ c) → ((l.map put).flatten).length ≤ l.length * c
  | [], _ => by simp
  | x :: l, h => by
    have h1 := h x (by simp)
    have h2 := many_sum (l := l) fun y hy => h y (by simp [hy])
    simp only [List.map_cons, List.flatten_cons, List.length_append, List.length_cons, Nat.add_mul]; omega
theorem manyB_le {α : Type} {put : α → List UInt8} {c n : Nat} {l : List α} (hn : l.length ≤ n) (h : ∀ x ∈ l, (put x).length ≤ c) : (manyB put l).length ≤ 40 + n * c := by
  have h1 := many_sum h
  have h2 := numB_len (l.length : Int)
  have h3 : l.length * c ≤ n * c := Nat.mul_le_mul_right c hn
  unfold manyB
  rw [List.length_append]
  omega
theorem rq_raw {s : St9} (h : s.1.length ≤ big9) : FineQ (rawReq (takeRowP 8) s).2 ∧ CountQ (rawReq (takeRowP 8) s).2 ∧ (reqB (rawReq (takeRowP 8) s).2).length ≤ 100000000 := by
  have h1 := Nat.le_trans (goes_len goes_num s) h
  have h2 := Nat.le_trans (goes_len goes_num (takeNum s).1) h1
  have h3 := Nat.le_trans (goes_len goes_num (takeNum (takeNum s).1).1) h2
  unfold rawReq
  dsimp only
  obtain ⟨s3, hs3⟩ : ∃ s3, s3 = (takeNum (takeNum (takeNum s).1).1).1 := ⟨_, rfl⟩
  rw [← hs3] at h3 ⊢
  have h4 := Nat.le_trans (goes_len (goes_text 24) s3) h3
  have h5 := Nat.le_trans (goes_len (goes_text 60) (takeText 24 s3).1) h4
  obtain ⟨s5, hs5⟩ : ∃ s5, s5 = (takeText 60 (takeText 24 s3).1).1 := ⟨_, rfl⟩
  rw [← hs5] at h5 ⊢
  have h6 := Nat.le_trans (goes_len (goes_row 8) s5) h5
  obtain ⟨s6, hs6⟩ : ∃ s6, s6 = (takeRowP 8 s5).1 := ⟨_, rfl⟩
  rw [← hs6] at h6 ⊢
  have h7 := Nat.le_trans (goes_len (goes_some (goes_text 24) 8) s6) h6
  have hfl : (takeTexts 8 24 s6).2.length ≤ 8 := some_len (by decide)
  have hft : ∀ x ∈ (takeTexts 8 24 s6).2, x.size ≤ big9 := some_ok (goes_text 24) (fun s hs => text_ok hs) h6
  have hpl : (takePrims 24 (takeTexts 8 24 s6).1).2.length ≤ 24 := some_len (by decide)
  have hps : ∀ p ∈ (takePrims 24 (takeTexts 8 24 s6).1).2, SizeP p := some_ok goes_prim (fun s hs => prim_ok hs) h7
  have hrl : (takeRowP 8 s5).2.length ≤ 8 := row_len (by decide)
  have hrf := row_far (m := 8) h5
  have n1 := numB_len (takeNum s).2
  have n2 := numB_len (takeNum (takeNum s).1).2
  have n3 := numB_len (takeNum (takeNum (takeNum s).1).1).2
  have t1 := text_len9 (m := 24) (s := s3)
  have t2 := text_len9 (m := 60) (s := (takeText 24 s3).1)
  have t3 := manyB_le (put := numB) (c := 40) hrl fun n _ => by have := numB_len n; omega
  have t4 := some_len9 (put := textB) (back_text 24) (m := 8) (s := s6)
  have t5 := some_len9 (put := primB) back_prim (m := 24) (s := (takeTexts 8 24 s6).1)
  refine ⟨⟨text_ok h3, text_ok h4, by dsimp only; omega, ⟨by dsimp only; omega, hft⟩, by dsimp only; omega, hps⟩, ⟨far_int num_far, far_int num_far, far_int num_far, ⟨by dsimp only; omega, fun n hn => far_int (hrf n hn)⟩, by dsimp only; omega, by dsimp only; omega, prims_count h7⟩, ?_⟩
  unfold reqB
  dsimp only
  simp only [List.length_append]
  unfold rowB textsB primsB
  unfold takeTexts takePrims at *
  have hb : big9 = 1000000 := rfl
  omega
theorem note_raw {s : St9} (h : s.1.length ≤ big9) : (-far9 ≤ (takeNote s).2.1 ∧ (takeNote s).2.1 ≤ far9) ∧ (takeNote s).2.2.1.length ≤ 1000 ∧ (noteB (takeNote s).2).length ≤ 1000200 := by
  have h1 := Nat.le_trans (goes_len goes_num s) h
  have h2 := Nat.le_trans (goes_len goes_flag (takeNum s).1) h1
  have n1 := numB_len (takeNum s).2
  have n2 : (flagB (takeFlag (takeNum s).1).2).length ≤ 40 := by cases (takeFlag (takeNum s).1).2 <;> decide +kernel
  have t1 := some_len9 (put := textB) (back_text 60) (m := 1000) (s := (takeFlag (takeNum s).1).1)
  unfold takeNote
  refine ⟨num_far, some_len (by decide), ?_⟩
  unfold noteB textsB takeTexts
  simp only [List.length_append]
  have hb : big9 = 1000000 := rfl
  omega
theorem rs_raw {s : St9} (h : s.1.length ≤ big9) : SizeS (rawRes (takeRowP 1000) (manyP9 takeNote 1000) s).2 ∧ CountS (rawRes (takeRowP 1000) (manyP9 takeNote 1000) s).2 ∧ (resB (rawRes (takeRowP 1000) (manyP9 takeNote 1000) s).2).length ≤ 10000000000 := by
  have h1 := Nat.le_trans (goes_len goes_num s) h
  have h2 := Nat.le_trans (goes_len goes_num (takeNum s).1) h1
  unfold rawRes
  dsimp only
  obtain ⟨s2, hs2⟩ : ∃ s2, s2 = (takeNum (takeNum s).1).1 := ⟨_, rfl⟩
  rw [← hs2] at h2 ⊢
  have h3 := Nat.le_trans (goes_len (goes_some goes_prim 1000) s2) h2
  obtain ⟨s3, hs3⟩ : ∃ s3, s3 = (takePrims 1000 s2).1 := ⟨_, rfl⟩
  have h3' : s3.1.length ≤ big9 := by rw [hs3]; exact h3
  rw [← hs3]
  have h4 := Nat.le_trans (goes_len (goes_row 1000) s3) h3'
  obtain ⟨s4, hs4⟩ : ∃ s4, s4 = (takeRowP 1000 s3).1 := ⟨_, rfl⟩
  rw [← hs4] at h4 ⊢
  have h5 := Nat.le_trans (goes_len (goes_some (goes_text 60) 1000) s4) h4
  obtain ⟨s5, hs5⟩ : ∃ s5, s5 = (takeTexts 1000 60 s4).1 := ⟨_, rfl⟩
  have h5' : s5.1.length ≤ big9 := by rw [hs5]; exact h5
  rw [← hs5]
  have hpl : (takePrims 1000 s2).2.length ≤ 1000 := some_len (by decide)
  have hps : ∀ p ∈ (takePrims 1000 s2).2, SizeP p := some_ok goes_prim (fun s hs => prim_ok hs) h2
  have hrl : (takeRowP 1000 s3).2.length ≤ 1000 := row_len (by decide)
  have hrf := row_far (m := 1000) h3'
  have htl : (takeTexts 1000 60 s4).2.length ≤ 1000 := some_len (by decide)
  have hnl : (manyP9 takeNote 1000 s5).2.length ≤ 1000 := manyP9_len (by decide)
  have hnn : ∀ n ∈ (manyP9 takeNote 1000 s5).2, (-far9 ≤ n.1 ∧ n.1 ≤ far9) ∧ n.2.1.length ≤ 1000 ∧ (noteB n).length ≤ 1000200 := manyP9_ok (ok := fun n : Nt9 => (-far9 ≤ n.1 ∧ n.1 ≤ far9) ∧ n.2.1.length ≤ 1000 ∧ (noteB n).length ≤ 1000200) goes_note (fun s hs => note_raw hs) h5'
  have n1 := numB_len (takeNum s).2
  have n2 := numB_len (takeNum (takeNum s).1).2
  have t1 := some_len9 (put := primB) back_prim (m := 1000) (s := s2)
  have t2 := manyB_le (put := numB) (c := 40) hrl fun n _ => by have := numB_len n; omega
  have t3 := some_len9 (put := textB) (back_text 60) (m := 1000) (s := s4)
  have t4 := manyB_le (put := noteB) (c := 1000200) hnl fun n hn => (hnn n hn).2.2
  refine ⟨⟨⟨by dsimp only; omega, fun p hp => ⟨(hps p hp).2.2.1.1, (hps p hp).2.2.2.1⟩⟩, by dsimp only; omega, by dsimp only; omega, by dsimp only; omega, fun n hn => by have := (hnn n hn).2.1; omega⟩, ⟨far_int num_far, far_int num_far, ⟨by dsimp only; omega, prims_count h2⟩, ⟨by dsimp only; omega, fun n hn => far_int (hrf n hn)⟩, by dsimp only; omega, by dsimp only; omega, fun n hn => ⟨far_int (hnn n hn).1, by have := (hnn n hn).2.1; omega⟩⟩, ?_⟩
  rw [resB_len]
  dsimp only
  have t5 : (numB (manyP9 takeNote 1000 s5).2.length).length + (((manyP9 takeNote 1000 s5).2.map noteB).flatten).length ≤ 40 + 1000 * 1000200 := by
    unfold manyB at t4
    rw [List.length_append] at t4
    exact t4
  unfold rowB textsB primsB
  unfold takeTexts takePrims at *
  have hb : big9 = 1000000 := rfl
  omega
end Go.Proofs.YtlfehnnmpkohkaaGreatDoor
/- Chapter 16: a row of numbers, a request, read of bytes: the program's way. -/
namespace Go.Proofs.YtlfehnnmpkohkaaGreatDoor
open Go Go.SL Go.Lib
attribute [local irreducible] Cfg Kont StepK Val Con Qops Any Sl Own Blk BlkR Rd Pu ExA AllA Has Pick Ent Elem Beside Callable TI Lone OwnO AndA
set_option maxRecDepth 100000 in
theorem take_con (i : Nat) (bv : Value) (s : St9) (many : Int) (hm : 0 ≤ many ∧ many ≤ 1000000) (te : TypeId) (pe : Value) : Con Tryz.prog 65 [ptr i, .int .i64 many] [Blk i 141 [bv, .bool s.2], Sl eByte bv s.1, G1 te pe, G3] (γ := Value × Value) (fun g => g.2) (fun _ => True) (fun g => [Blk i 141 [g.1, .bool (takeRowP many s).1.2], Sl eByte g.1 (takeRowP many s).1.1, Own (eInt .i64) 3 g.2 (takeRowP many s).2]) := by
  have hfar := num_far (s := s)
  have hN := inNum_con i bv s te pe
  unfold takeRowP
  obtain ⟨s1, n, hn⟩ : ∃ s1 n, takeNum s = (s1, n) := ⟨_, _, rfl⟩
  rw [hn] at hN hfar ⊢
  dsimp only at hN hfar ⊢
  unfold far9 at hfar
  obtain ⟨c, hc⟩ : ∃ c, c = (min (max n 0) many).toNat := ⟨_, rfl⟩
  have hcn : (c : Int) = min (max n 0) many := by omega
  rw [← hc]
  refine con_of Tryz.func65 rfl (dd rfl) fun w0 O0 => ?_
  refine c_seq (c_region ?_)
  refine oV vA ?_
  refine o_nil (c_seq (c_region ?_))
  refine oV vA ?_
  refine o_nil (c_seq (c_seq (c_region ?_)))
  refine oV vM ?_
  refine oC cl63 (hN) fun v1 _ => ?_
  refine oV (v_max rfl rfl) ?_
  refine oV vM ?_
  refine oV (v_min rfl rfl) ?_
  refine oV vM ?_
  refine o_nil (c_block ?_)
  rw [← hcn]
  refine c_loopR (γ := Nat × St9 × List Int × Value × Value) [(0, _), (4, _), (10, _)] (fun g => c - g.1) (fun g => g.1 ≤ c ∧ g.2.2.1.length = g.1 ∧ takeRep (c - g.1) g.2.1 g.2.2.1 = takeRep c s1 []) (fun g => [(11, .int .i64 g.1), (5, g.2.2.2.2)]) (fun g => [Blk i 141 [g.2.2.2.1, .bool g.2.1.2], Sl eByte g.2.2.2.1 g.2.1.1, Own (eInt .i64) 3 g.2.2.2.2 g.2.2.1, G1 te pe, G3]) ((0, s1, [], v1, .slice none 0 0)) (⟨Nat.zero_le _, rfl, rfl⟩) (by repeat (first | exact trivial | refine ⟨rfl, ?_⟩)) (eX (by repeat constructor)) ?_
  rintro ⟨k, sk, out, r, v⟩ ⟨hk, hlk, hTk⟩ IH
  dsimp only at hk hlk hTk ⊢
  try dsimp only [List.cons_append, List.nil_append]
  refine c_seq (c_region ?_)
  refine oV (v_lt rfl rfl) ?_
  refine o_nil (c_seq ?_)
  refine c_cond_p rfl (fun hlt => ?_) (fun hlt => ?_)
  · have hst := takeRep_step (n := c) (k := k) (s := sk) (out := out) (by omega)
    refine c_skip (c_seq (c_block (c_region ?_)))
    iterate 2 refine oV vM ?_
    refine oC cl63 (inNum_con i r sk te pe) fun w2 _ => ?_
    refine o_step (s_buildSlice Tryz.underlying22 ti3 rfl rfl rfl (by decide) (by decide) (beside_int .i64 [(takeNum sk).2]) rfl rfl (dd rfl) fun v2 => ?_)
    refine o_step (s_append Tryz.underlying22 ti3 rfl (by decide) rfl rfl (dd rfl) (pB (by repeat constructor)) (pX (by repeat constructor)) rfl (by (first | omega | (simp only [maxLen, List.length_append, List.length_drop, List.length_take, List.length_nil, List.length_cons]; omega))) (by (first | omega | (simp only [maxLen, List.length_append, List.length_drop, List.length_take, List.length_nil, List.length_cons]; omega))) fun v3 => ?_)
    refine oV vA ?_
    refine o_nil (c_inBlock (c_region ?_))
    refine oV ((by first | exact v_add64 rfl rfl (by omega) | exact v_add rfl rfl)) ?_
    refine oV vM ?_
    refine o_nil ?_
    refine cU (IH ((k + 1, (takeNum sk).1, out ++ [(takeNum sk).2], w2, v3)) (by first | omega | (dsimp only; omega)) (⟨by dsimp only; omega, by simp [hlk], hst.symm.trans hTk⟩))
  · have hend := takeRep_end (n := c) (k := k) (s := sk) (out := out) (by omega)
    rw [hend] at hTk
    refine c_exit rfl ?_
    refine c_seq (c_region ?_)
    refine oV vM ?_
    refine oV vA ?_
    refine o_nil ?_
    refine c_ret1 Tryz.func65 rfl rfl fun w O hS => ?_
    exact ⟨(r, v), rfl, trivial, by rw [← hTk]; exact Ent.get hS (eX (by repeat constructor))⟩
/-- What Parse, and UnpackRes, tell beside. -/
def errV (e : Int) (is : Bool) : Value := .int .i64 (if is then 0 else e)
def parseQ (l : List UInt8) : Rq9 := (parseP l).getD (zeroQ 0)
set_option maxRecDepth 100000 in
theorem parse_con (v : Value) (l : List UInt8) (hl : l.length ≤ big9) (te : TypeId) (pe : Value) : Con Tryz.prog 23 [v] [Sl eByte v l, G1 te pe, G3] (γ := Value × Value × Value)
    (fun g => .tuple #[.agg (rqC (parseQ l) g.1 g.2.1 g.2.2).toArray, errV 160 (parseP l).isSome]) (fun _ => True) (fun g => [Sl (eInt .i64) g.1 (parseQ l).2.2.2.2.2.1, Sl eStr g.2.1 (parseQ l).2.2.2.2.2.2.1, Sl ePr g.2.2 (parseQ l).2.2.2.2.2.2.2]) := by
  have hof := of_con v l (by unfold big9 at hl; omega)
  obtain ⟨hfine, hcount, hlen⟩ := rq_raw (s := (l, false)) hl
  have hP : parseP l = if (rawReq (takeRowP 8) (l, false)).1 = ([], false) ∧ RightQ (rawReq (takeRowP 8) (l, false)).2 ∧ reqB (rawReq (takeRowP 8) (l, false)).2 = l then some (rawReq (takeRowP 8) (l, false)).2 else none := rfl
  have c1 := fun i w => inNum_con i w (l, false) te pe
  obtain ⟨s1, k, h1⟩ : ∃ s1 k, takeNum (l, false) = (s1, k) := ⟨_, _, rfl⟩
  rw [h1] at c1
  have c2 := fun i w => inNum_con i w s1 te pe
  obtain ⟨s2, bs, h2⟩ : ∃ s2 k, takeNum s1 = (s2, k) := ⟨_, _, rfl⟩
  rw [h2] at c2
  have c3 := fun i w => inNum_con i w s2 te pe
  obtain ⟨s3, id, h3⟩ : ∃ s3 k, takeNum s2 = (s3, k) := ⟨_, _, rfl⟩
  rw [h3] at c3
  have c4 := fun i w => inText_con i w s3 24 te pe
  obtain ⟨s4, n, h4⟩ : ∃ s4 k, takeText 24 s3 = (s4, k) := ⟨_, _, rfl⟩
  rw [h4] at c4
  have c5 := fun i w => inText_con i w s4 60 te pe
  obtain ⟨s5, t, h5⟩ : ∃ s5 k, takeText 60 s4 = (s5, k) := ⟨_, _, rfl⟩
  rw [h5] at c5
  have c6 := fun i w => take_con i w s5 8 (by decide) te pe
  obtain ⟨s6, dl, h6⟩ : ∃ s6 k, takeRowP 8 s5 = (s6, k) := ⟨_, _, rfl⟩
  rw [h6] at c6
  have c7 := fun i w => inTexts_con i w s6 8 24 te pe
  obtain ⟨s7, fl, h7⟩ : ∃ s7 k, takeTexts 8 24 s6 = (s7, k) := ⟨_, _, rfl⟩
  rw [h7] at c7
  have l1 := Nat.le_trans (goes_len goes_num (l, false)) hl
  rw [h1] at l1
  have l2 := Nat.le_trans (goes_len goes_num s1) l1
  rw [h2] at l2
  have l3 := Nat.le_trans (goes_len goes_num s2) l2
  rw [h3] at l3
  have l4 := Nat.le_trans (goes_len (goes_text 24) s3) l3
  rw [h4] at l4
  have l5 := Nat.le_trans (goes_len (goes_text 60) s4) l4
  rw [h5] at l5
  have l6 := Nat.le_trans (goes_len (goes_row 8) s5) l5
  rw [h6] at l6
  have l7 := Nat.le_trans (goes_len (goes_some (goes_text 24) 8) s6) l6
  rw [show takeSome (takeText 24) 8 s6 = (s7, fl) from h7] at l7
  have c8 := fun i w => inPrims_con i w s7 24 l7 te pe
  obtain ⟨s8, pl, h8⟩ : ∃ s8 k, takePrims 24 s7 = (s8, k) := ⟨_, _, rfl⟩
  rw [h8] at c8
  have hraw : rawReq (takeRowP 8) (l, false) = (s8, (k, bs, id, n, t, dl, fl, pl)) := by unfold rawReq; simp only [h1, h2, h3, h4, h5, h6, h7, h8]
  rw [hraw] at hfine hcount hlen hP
  have hR := fun dv fv lv => reqRight_con (k, bs, id, n, t, dl, fl, pl) dv fv lv hfine
  have hK := fun dv fv lv => pack_con (k, bs, id, n, t, dl, fl, pl) dv fv lv hcount (Nat.le_trans hlen (by decide))
  have hdn := fun i w => done_con i w s8
  dsimp only [rqC] at c1 c2 c3 c4 c5 c6 c7 c8 hR hK hP
  refine con_of Tryz.func23 rfl (dd rfl) fun w0 O0 => ?_
  refine c_seq (c_region ?_)
  refine o_step (s_alloc ti32 (dd rfl) (fun b2 => ?_))
  refine oV vA ?_
  refine o_nil (c_seq (c_region ?_))
  refine oV vM ?_
  refine oC cl62 (hof) fun g _ => ?_
  refine oV vA ?_
  refine o_nil (c_seq (c_region ?_))
  refine oV vM ?_
  refine oC cl63 (c1 g.1 g.2) fun w1 _ => ?_
  refine oV vM ?_
  refine oC cl63 (c2 g.1 w1) fun w2 _ => ?_
  refine oV vM ?_
  refine oC cl63 (c3 g.1 w2) fun w3 _ => ?_
  refine oV vM ?_
  refine oC cl64 (c4 g.1 w3) fun w4 _ => ?_
  refine oV vM ?_
  refine oC cl64 (c5 g.1 w4) fun w5 _ => ?_
  refine oV (v_buildS (places := [(0, 1), (1, 1), (2, 1), (3, 1), (4, 1), (5, 1), (6, 1), (7, 1)]) (cells := [_, _, _, _, _, .slice none 0 0, .slice none 0 0, .slice none 0 0]) Tryz.underlying32 ti32 (by kernel_rfl) rfl (by repeat (first | exact PartsC.nil | (apply PartsC.one (by first | exact OneC.lit rfl | exact OneC.sl (hX (by repeat constructor)) )) | (apply PartsC.lit rfl))) rfl) ?_
  refine o_step (s_alloc ti32 (dd rfl) (fun b5 => ?_))
  refine o_step (s_store_all ti32 rfl rfl (by first | exact CellsV.lit rfl | exact CellsV.one (by first | exact OneC.lit rfl | exact OneC.sl (hX (by repeat constructor)) )) (by repeat (first | exact OneAll.nil | (refine OneAll.cons ?_ ?_; · first | exact OneC.lit rfl | exact OneC.sl (hX (by repeat constructor)) ) | exact OneAll.rd (hX (by repeat constructor)))) rfl (pB (by repeat constructor)) rfl (?_))
  refine o_nil (c_seq (c_region ?_))
  refine oV vM ?_
  refine oC cl65 (c6 g.1 w5) fun g6 _ => ?_
  refine oV (vF 5 Tryz.underlying32 ti22) ?_
  refine o_step (s_store1 ti22 rfl rfl (by first | exact OneC.lit rfl | exact OneC.sl (hX (by repeat constructor)) ) (pB (by repeat constructor)) (by first | decide | exact Nat.le_of_ble_eq_true rfl | simp) (by first | (dsimp only [List.set_cons_succ, List.set_cons_zero]; first | done | exact rfl) | rfl) (?_))
  refine o_nil (c_seq (c_region ?_))
  refine oV vM ?_
  refine oC cl66 (c7 g.1 g6.1) fun g7 _ => ?_
  refine oV (vF 6 Tryz.underlying32 ti23) ?_
  refine o_step (s_store1 ti23 rfl rfl (by first | exact OneC.lit rfl | exact OneC.sl (hX (by repeat constructor)) ) (pB (by repeat constructor)) (by first | decide | exact Nat.le_of_ble_eq_true rfl | simp) (by first | (dsimp only [List.set_cons_succ, List.set_cons_zero]; first | done | exact rfl) | rfl) (?_))
  refine o_nil (c_seq (c_region ?_))
  refine oV vM ?_
  refine oC cl67 (c8 g.1 g7.1) fun g8 _ => ?_
  refine oV (vF 7 Tryz.underlying32 ti30) ?_
  refine o_step (s_store1 ti30 rfl rfl (by first | exact OneC.lit rfl | exact OneC.sl (hX (by repeat constructor)) ) (pB (by repeat constructor)) (by first | decide | exact Nat.le_of_ble_eq_true rfl | simp) (by first | (dsimp only [List.set_cons_succ, List.set_cons_zero]; first | done | exact rfl) | rfl) (?_))
  refine o_nil (c_seq (c_seq ?_))
  by_cases hd : s8 = ([], false)
  · rw [decide_eq_true hd] at hdn
    by_cases hr : RightQ (k, bs, id, n, t, dl, fl, pl)
    · rw [decide_eq_true hr] at hR
      refine c_held [BlkR g.1 141 [g8.1, .bool s8.2], Sl eByte g8.1 s8.1, BlkR b5 32 [.int .i64 k, .int .i64 bs, .int .i64 id, .string n, .string t, g6.2, g7.2, g8.2], Sl (eInt .i64) g6.2 dl, Sl eStr g7.2 fl, Sl ePr g8.2 pl, Sl eByte v l, G3] rfl ?_
      refine aT 0 rfl vM ?_
      refine aO 1 rfl (s_callf_keep cl68 (hdn g.1 g8.1) rfl (dd rfl) (rX (by repeat constructor)) (fun _ => sX) (fun _ _ => aK ?_))
      refine aT 2 rfl (v_not rfl) ?_
      refine aT 3 rfl vM ?_
      refine a_know (s := 31) rfl (show _ = Value.bool false from rfl) ?_
      refine aN 4 rfl (vW Tryz.underlying32 ti32) ?_
      refine aP 5 rfl (s_callf_keep cl12 (hR g6.2 g7.2 g8.2) rfl (dd rfl) (rX (by repeat constructor)) (fun _ => sX) (fun _ _ => aK ?_))
      refine aN 6 rfl (v_not rfl) ?_
      refine aT 7 rfl vQ ?_
      refine aT 8 rfl vM ?_
      refine a_know (s := 36) rfl (show _ = Value.bool false from rfl) ?_
      refine aN 9 rfl (vW Tryz.underlying32 ti32) ?_
      refine aN 12 rfl vM ?_
      refine aN 13 rfl (v_conv_bytes Tryz.underlying38 Tryz.underlying5 Tryz.underlying9 rfl (hX (by repeat constructor))) ?_
      refine aP 10 rfl (s_callf_keep cl18 (hK g6.2 g7.2 g8.2) rfl (dd rfl) (rX (by repeat constructor)) (fun _ => sX) (fun r6 _ => aK ?_))
      refine aP 11 rfl (s_val (v_conv_bytes Tryz.underlying38 Tryz.underlying5 Tryz.underlying9 rfl (hX (by repeat constructor))) (dd rfl) (aK ?_))
      refine aN 14 rfl (v_sne rfl rfl) ?_
      refine aT 15 rfl vQ ?_
      refine a_done (by kernel_rfl) ?_ _
      refine c_cond_p rfl (fun hne => ?_) (fun hne => ?_)
      · have hn : parseP l = none := by rw [hP, if_neg (fun h => hne (congrArg sB h.2.2))]
        have hq0 : parseQ l = zeroQ 0 := by unfold parseQ; rw [hn]; rfl
        refine c_seq (c_region ?_)
        refine oV (v_buildS (places := [(0, 1), (1, 1), (2, 1), (3, 1), (4, 1), (5, 1), (6, 1), (7, 1)]) (cells := [.int .i64 0, .int .i64 0, .int .i64 0, .string ⟨#[]⟩, .string ⟨#[]⟩, .slice none 0 0, .slice none 0 0, .slice none 0 0]) Tryz.underlying32 ti32 (by kernel_rfl) rfl (by repeat (first | exact PartsC.nil | (apply PartsC.one (by first | exact OneC.lit rfl | exact OneC.sl (hX (by repeat constructor)) )) | (apply PartsC.lit rfl))) rfl) ?_
        refine o_step (s_store_all ti32 rfl rfl (by first | exact CellsV.lit rfl | exact CellsV.one (by first | exact OneC.lit rfl | exact OneC.sl (hX (by repeat constructor)) )) (by repeat (first | exact OneAll.nil | (refine OneAll.cons ?_ ?_; · first | exact OneC.lit rfl | exact OneC.sl (hX (by repeat constructor)) ) | exact OneAll.rd (hX (by repeat constructor)))) rfl (pB (by repeat constructor)) rfl (?_))
        refine oV vA ?_
        refine o_nil ?_
        refine c_ret_ct Tryz.func23 rfl ⟨_, Tryz.underlying32⟩ ti32 rfl rfl (hX (by repeat constructor)) fun w O hS => ?_
        exact ⟨(.slice none 0 0, .slice none 0 0, .slice none 0 0), by rw [hq0, hn]; rfl, trivial, by rw [hq0]; exact Ent.get hS (eX (by repeat constructor))⟩
      · have hy : parseP l = some (k, bs, id, n, t, dl, fl, pl) := by rw [hP, if_pos ⟨hd, hr, sB_inj (Classical.not_not.1 hne)⟩]
        have hq1 : parseQ l = (k, bs, id, n, t, dl, fl, pl) := by unfold parseQ; rw [hy]; rfl
        refine c_skip (c_seq (c_region ?_))
        refine oV (vW Tryz.underlying32 ti32) ?_
        refine o_step (s_store_all ti32 rfl rfl (by first | exact CellsV.lit rfl | exact CellsV.one (by first | exact OneC.lit rfl | exact OneC.sl (hX (by repeat constructor)) )) (by repeat (first | exact OneAll.nil | (refine OneAll.cons ?_ ?_; · first | exact OneC.lit rfl | exact OneC.sl (hX (by repeat constructor)) ) | exact OneAll.rd (hX (by repeat constructor)))) rfl (pB (by repeat constructor)) rfl (?_))
        refine oV vA ?_
        refine o_nil ?_
        refine c_ret_ct Tryz.func23 rfl ⟨_, Tryz.underlying32⟩ ti32 rfl rfl (hX (by repeat constructor)) fun w O hS => ?_
        exact ⟨(g6.2, g7.2, g8.2), by rw [hq1, hy]; rfl, trivial, by rw [hq1]; exact Ent.get hS (eX (by repeat constructor))⟩
    · rw [decide_eq_false hr] at hR
      have hn : parseP l = none := by rw [hP, if_neg (fun h => hr h.2.1)]
      have hq0 : parseQ l = zeroQ 0 := by unfold parseQ; rw [hn]; rfl
      refine c_held [BlkR g.1 141 [g8.1, .bool s8.2], Sl eByte g8.1 s8.1, BlkR b5 32 [.int .i64 k, .int .i64 bs, .int .i64 id, .string n, .string t, g6.2, g7.2, g8.2], Sl (eInt .i64) g6.2 dl, Sl eStr g7.2 fl, Sl ePr g8.2 pl, Sl eByte v l, G3] rfl ?_
      refine aT 0 rfl vM ?_
      refine aO 1 rfl (s_callf_keep cl68 (hdn g.1 g8.1) rfl (dd rfl) (rX (by repeat constructor)) (fun _ => sX) (fun _ _ => aK ?_))
      refine aT 2 rfl (v_not rfl) ?_
      refine aT 3 rfl vM ?_
      refine a_know (s := 31) rfl (show _ = Value.bool false from rfl) ?_
      refine aN 4 rfl (vW Tryz.underlying32 ti32) ?_
      refine aP 5 rfl (s_callf_keep cl12 (hR g6.2 g7.2 g8.2) rfl (dd rfl) (rX (by repeat constructor)) (fun _ => sX) (fun _ _ => aK ?_))
      refine aN 6 rfl (v_not rfl) ?_
      refine aT 7 rfl vQ ?_
      refine aT 8 rfl vM ?_
      refine a_know (s := 36) rfl (show _ = Value.bool true from rfl) ?_
      refine aX 9 rfl ?_
      refine aX 10 rfl ?_
      refine aX 11 rfl ?_
      refine aX 12 rfl ?_
      refine aX 13 rfl ?_
      refine aX 14 rfl ?_
      refine aT 15 rfl vT ?_
      refine a_done (by kernel_rfl) ?_ _
      refine c_cond_t rfl ?_
      refine c_seq (c_region ?_)
      refine oV (v_buildS (places := [(0, 1), (1, 1), (2, 1), (3, 1), (4, 1), (5, 1), (6, 1), (7, 1)]) (cells := [.int .i64 0, .int .i64 0, .int .i64 0, .string ⟨#[]⟩, .string ⟨#[]⟩, .slice none 0 0, .slice none 0 0, .slice none 0 0]) Tryz.underlying32 ti32 (by kernel_rfl) rfl (by repeat (first | exact PartsC.nil | (apply PartsC.one (by first | exact OneC.lit rfl | exact OneC.sl (hX (by repeat constructor)) )) | (apply PartsC.lit rfl))) rfl) ?_
      refine o_step (s_store_all ti32 rfl rfl (by first | exact CellsV.lit rfl | exact CellsV.one (by first | exact OneC.lit rfl | exact OneC.sl (hX (by repeat constructor)) )) (by repeat (first | exact OneAll.nil | (refine OneAll.cons ?_ ?_; · first | exact OneC.lit rfl | exact OneC.sl (hX (by repeat constructor)) ) | exact OneAll.rd (hX (by repeat constructor)))) rfl (pB (by repeat constructor)) rfl (?_))
      refine oV vA ?_
      refine o_nil ?_
      refine c_ret_ct Tryz.func23 rfl ⟨_, Tryz.underlying32⟩ ti32 rfl rfl (hX (by repeat constructor)) fun w O hS => ?_
      exact ⟨(.slice none 0 0, .slice none 0 0, .slice none 0 0), by rw [hq0, hn]; rfl, trivial, by rw [hq0]; exact Ent.get hS (eX (by repeat constructor))⟩
  · rw [decide_eq_false hd] at hdn
    have hn : parseP l = none := by rw [hP, if_neg (fun h => hd h.1)]
    have hq0 : parseQ l = zeroQ 0 := by unfold parseQ; rw [hn]; rfl
    refine c_held [BlkR g.1 141 [g8.1, .bool s8.2], Sl eByte g8.1 s8.1, BlkR b5 32 [.int .i64 k, .int .i64 bs, .int .i64 id, .string n, .string t, g6.2, g7.2, g8.2], Sl (eInt .i64) g6.2 dl, Sl eStr g7.2 fl, Sl ePr g8.2 pl, Sl eByte v l, G3] rfl ?_
    refine aT 0 rfl vM ?_
    refine aO 1 rfl (s_callf_keep cl68 (hdn g.1 g8.1) rfl (dd rfl) (rX (by repeat constructor)) (fun _ => sX) (fun _ _ => aK ?_))
    refine aT 2 rfl (v_not rfl) ?_
    refine aT 3 rfl vM ?_
    refine a_know (s := 31) rfl (show _ = Value.bool true from rfl) ?_
    refine aX 4 rfl ?_
    refine aX 5 rfl ?_
    refine aX 6 rfl ?_
    refine aT 7 rfl vT ?_
    refine aT 8 rfl vM ?_
    refine aX 9 rfl ?_
    refine aX 10 rfl ?_
    refine aX 11 rfl ?_
    refine aX 12 rfl ?_
    refine aX 13 rfl ?_
    refine aX 14 rfl ?_
    refine aT 15 rfl vT ?_
    refine a_done (by kernel_rfl) ?_ _
    refine c_cond_t rfl ?_
    refine c_seq (c_region ?_)
    refine oV (v_buildS (places := [(0, 1), (1, 1), (2, 1), (3, 1), (4, 1), (5, 1), (6, 1), (7, 1)]) (cells := [.int .i64 0, .int .i64 0, .int .i64 0, .string ⟨#[]⟩, .string ⟨#[]⟩, .slice none 0 0, .slice none 0 0, .slice none 0 0]) Tryz.underlying32 ti32 (by kernel_rfl) rfl (by repeat (first | exact PartsC.nil | (apply PartsC.one (by first | exact OneC.lit rfl | exact OneC.sl (hX (by repeat constructor)) )) | (apply PartsC.lit rfl))) rfl) ?_
    refine o_step (s_store_all ti32 rfl rfl (by first | exact CellsV.lit rfl | exact CellsV.one (by first | exact OneC.lit rfl | exact OneC.sl (hX (by repeat constructor)) )) (by repeat (first | exact OneAll.nil | (refine OneAll.cons ?_ ?_; · first | exact OneC.lit rfl | exact OneC.sl (hX (by repeat constructor)) ) | exact OneAll.rd (hX (by repeat constructor)))) rfl (pB (by repeat constructor)) rfl (?_))
    refine oV vA ?_
    refine o_nil ?_
    refine c_ret_ct Tryz.func23 rfl ⟨_, Tryz.underlying32⟩ ti32 rfl rfl (hX (by repeat constructor)) fun w O hS => ?_
    exact ⟨(.slice none 0 0, .slice none 0 0, .slice none 0 0), by rw [hq0, hn]; rfl, trivial, by rw [hq0]; exact Ent.get hS (eX (by repeat constructor))⟩
end Go.Proofs.YtlfehnnmpkohkaaGreatDoor

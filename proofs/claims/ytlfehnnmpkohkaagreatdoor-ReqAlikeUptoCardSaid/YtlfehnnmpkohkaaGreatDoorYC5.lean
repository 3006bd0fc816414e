/- The texts H5, E6, H6, H7, H8, E7, H9, HA, HB, HC, HD, S4, HE, one behind the other. -/
import Derived.Test.YtlfehnnmpkohkaaGreatDoorYC4
set_option linter.unusedVariables false
set_option linter.unusedSimpArgs false
/- Chapter 16: req.Right. -/
namespace Go.Proofs.YtlfehnnmpkohkaaGreatDoor
open Go Go.SL Go.Lib
/-- Sizes at which a request is looked at. -/
structure FineQ (q : Rq9) : Prop where
  name : q.2.2.2.1.size ≤ 1000000
  note : q.2.2.2.2.1.size ≤ 1000000
  deps : q.2.2.2.2.2.1.length ≤ 1000000
  files : q.2.2.2.2.2.2.1.length ≤ 1000000 ∧ ∀ s ∈ q.2.2.2.2.2.2.1, s.size ≤ 1000000
  prims : q.2.2.2.2.2.2.2.length ≤ 1000000 ∧ ∀ p ∈ q.2.2.2.2.2.2.2, SizeP p
theorem FineQ.size {q : Rq9} (h : FineQ q) : SizeQ q := ⟨h.deps, h.files.1, h.prims.1, fun p hp => ⟨(h.prims.2 p hp).2.2.1.1, (h.prims.2 p hp).2.2.2.1⟩⟩
theorem zeroQ_size (k : Int) : SizeQ (zeroQ k) := ⟨Nat.zero_le _, Nat.zero_le _, Nat.zero_le _, fun _ h => by cases h⟩
attribute [local irreducible] Cfg Kont StepK Val Con Qops Any Sl Own Blk BlkR Rd Pu ExA AllA Has Pick Ent Elem Beside Callable TI Lone OwnO AndA
set_option maxRecDepth 100000 in
theorem right0_con (q : Rq9) (d f l : Value) (hk : q.1 = 0) (hq : FineQ q) : Con Tryz.prog 12 [.agg #[.int .i64 q.1, .int .i64 q.2.1, .int .i64 q.2.2.1, .string q.2.2.2.1, .string q.2.2.2.2.1, d, f, l]] [Sl (eInt .i64) d q.2.2.2.2.2.1, Sl eStr f q.2.2.2.2.2.2.1, Sl ePr l q.2.2.2.2.2.2.2] (γ := Unit) (fun _ => .bool (decide (RightQ q))) (fun _ => True) (fun _ => []) := by
  have hlk : ∀ b1 b2, Go.SL.look (kindsM b1 b2) q.1 = some (.agg #[fnV 87, fnV 89]) := fun b1 b2 => by rw [hk]; exact look0 b1 b2
  have hT := tChange_con q d f l hq.prims
  have hR := rChange_con q d f l
  have hi := right_iff0 hk
  have hS := sameReq_con (q.1, 0, q.2.2.1, q.2.2.2.1, q.2.2.2.2.1, q.2.2.2.2.2.1, q.2.2.2.2.2.2.1, []) (zeroQ q.1) (d) (f) (.slice none 0 0) (.slice none 0 0) (.slice none 0 0) (.slice none 0 0) ⟨hq.size.1, hq.size.2.1, ⟨Nat.zero_le _, fun _ h => by cases h⟩⟩ (zeroQ_size _)
  dsimp only at hS
  refine con_of Tryz.func12 rfl (dd rfl) fun w0 O0 => ?_
  refine c_seq (c_region ?_)
  refine o_step (s_box rfl (dd rfl) (fun b1 => ?_))
  refine oV vA ?_
  refine o_nil (c_seq ?_)
  refine c_joinR (γ := Nat × Nat × Nat × Nat) [(1, _), (2, _)] (fun _ => True) (fun g => [(3, ptr g.1), (4, .bool true)]) (fun g => [Blk g.1 77 [fnV 87, fnV 89], Blk b1 32 [.int .i64 q.1, .int .i64 q.2.1, .int .i64 q.2.2.1, .string q.2.2.2.1, .string q.2.2.2.2.1, d, f, l], Sl (eInt .i64) d q.2.2.2.2.2.1, Sl eStr f q.2.2.2.2.2.2.1, Sl ePr l q.2.2.2.2.2.2.2, Blk g.2.2.1 75 [fnV 81], Blk g.2.2.2 75 [fnV 82]]) (by repeat (first | exact trivial | refine ⟨rfl, ?_⟩)) ?_ ?_
  rotate_left
  · intro MEET
    skip
    refine c_held [BlkR b1 32 [.int .i64 q.1, .int .i64 q.2.1, .int .i64 q.2.2.1, .string q.2.2.2.1, .string q.2.2.2.2.1, d, f, l], Sl (eInt .i64) d q.2.2.2.2.2.1, Sl eStr f q.2.2.2.2.2.2.1, Sl ePr l q.2.2.2.2.2.2.2] rfl ?_
    refine aT 1 rfl (vF 0 Tryz.underlying32 ti3) ?_
    refine aT 2 rfl (vL lone3) ?_
    refine a_two 0 7 rfl rfl (by kernel_rfl) ?_ ?_
    · skip
      refine s_callf cl39 (kinds_con) rfl (dd rfl) (pXs (by repeat constructor)) (fun g _ => aK ?_)
      refine a_two 3 7 rfl rfl (by kernel_rfl) ?_ ?_
      · skip
        refine s_val (v_lookupS kInt Tryz.underlying79 Tryz.underlying3 ti77 rfl rfl (hX (by repeat constructor)) (hlk g.2.1 g.2.2)) (dd rfl) (aK ?_)
        refine aT 4 rfl vM ?_
        refine aT 5 rfl vE ?_
        refine aT 6 rfl vE ?_
        refine aO 7 rfl (s_alloc ti77 (dd rfl) (fun b3 => aK ?_))
        refine aS 8 rfl ti77 ?_
        refine aT 9 rfl vA ?_
        refine a_done (by kernel_rfl) ?_ _
        refine cU (MEET ((b3, g)) (trivial))
      · skip
        refine s_alloc ti77 (dd rfl) (fun b3 => aK ?_)
        refine aO 3 rfl (s_val (v_lookupS kInt Tryz.underlying79 Tryz.underlying3 ti77 rfl rfl (hX (by repeat constructor)) (hlk g.2.1 g.2.2)) (dd rfl) (aK ?_))
        refine aT 4 rfl vM ?_
        refine aT 5 rfl vE ?_
        refine aT 6 rfl vE ?_
        refine aS 8 rfl ti77 ?_
        refine aT 9 rfl vA ?_
        refine a_done (by kernel_rfl) ?_ _
        refine cU (MEET ((b3, g)) (trivial))
    · skip
      refine s_alloc ti77 (dd rfl) (fun b3 => aK ?_)
      refine aO 0 rfl (s_callf cl39 (kinds_con) rfl (dd rfl) (pXs (by repeat constructor)) (fun g _ => aK ?_))
      refine aO 3 rfl (s_val (v_lookupS kInt Tryz.underlying79 Tryz.underlying3 ti77 rfl rfl (hX (by repeat constructor)) (hlk g.2.1 g.2.2)) (dd rfl) (aK ?_))
      refine aT 4 rfl vM ?_
      refine aT 5 rfl vE ?_
      refine aT 6 rfl vE ?_
      refine aS 8 rfl ti77 ?_
      refine aT 9 rfl vA ?_
      refine a_done (by kernel_rfl) ?_ _
      refine cU (MEET ((b3, g)) (trivial))
  rintro ⟨b3, bm, bn, bg⟩ -
  dsimp only [List.cons_append, List.nil_append]
  refine c_seq ?_
  refine c_held [BlkR b3 77 [fnV 87, fnV 89], BlkR b1 32 [.int .i64 q.1, .int .i64 q.2.1, .int .i64 q.2.2.1, .string q.2.2.2.1, .string q.2.2.2.2.1, d, f, l], Sl (eInt .i64) d q.2.2.2.2.2.1, Sl eStr f q.2.2.2.2.2.2.1, Sl ePr l q.2.2.2.2.2.2.2] rfl ?_
  refine aT 0 rfl vM ?_
  refine aT 1 rfl vM ?_
  refine aN 2 rfl (vF 0 Tryz.underlying77 ti29) ?_
  refine aN 3 rfl (vL lone29) ?_
  refine aN 4 rfl (vW Tryz.underlying32 ti32) ?_
  by_cases g1 : (decide (0 ≤ q.2.1) && decide (q.2.1 ≤ 1099511627776) && decide (1 ≤ q.2.2.2.2.2.2.2.length) && decide (q.2.2.2.2.2.2.2.length ≤ 24) && q.2.2.2.2.2.2.2.all rightP) = true
  · rw [g1] at hT
    refine aP 5 rfl (s_call_keep cl87 (hT) (first := []) (cap := []) rfl rfl rfl (dd rfl) (rX (by repeat constructor)) (fun _ => sX) (fun _ _ => aK ?_))
    refine aT 6 rfl vT ?_
    refine aT 7 rfl vM ?_
    refine a_know (s := 19) rfl (show _ = Value.bool true from rfl) ?_
    refine aN 8 rfl (vF 1 Tryz.underlying77 ti75) ?_
    refine aN 9 rfl (vL lone75) ?_
    refine aN 10 rfl (vW Tryz.underlying32 ti32) ?_
    refine aN 12 rfl (vF 0 Tryz.underlying32 ti3) ?_
    refine aN 13 rfl (vL lone3) ?_
    refine aN 14 rfl (v_buildS (places := [(0, 1), (1, 1), (2, 1), (3, 1), (4, 1), (5, 1), (6, 1), (7, 1)]) (cells := [_, .int .i64 0, .int .i64 0, .string ⟨#[]⟩, .string ⟨#[]⟩, .slice none 0 0, .slice none 0 0, .slice none 0 0]) Tryz.underlying32 ti32 (by kernel_rfl) rfl (by repeat (first | exact PartsC.nil | (apply PartsC.one (by first | exact OneC.lit rfl | exact OneC.sl (hX (by repeat constructor)) )) | (apply PartsC.lit rfl))) rfl) ?_
    refine aP 11 rfl (s_call_keep cl89 (hR) (first := []) (cap := []) rfl rfl rfl (dd rfl) (rX (by repeat constructor)) (fun _ => sX) (fun _ _ => aK ?_))
    refine aP 15 rfl (s_callf cl15 (hS) rfl (dd rfl) (pXs (by repeat constructor)) (fun _ _ => aK ?_))
    refine aT 16 rfl vT ?_
    refine aT 17 rfl vA ?_
    refine a_done (by kernel_rfl) ?_ _
    refine c_ret1 Tryz.func12 rfl rfl fun w O hS => ?_
    exact ⟨(), congrArg Value.bool (decide_eq_decide.2 (by rw [hi, g1]; simp)), trivial, trivial⟩
  · have g2 : (decide (0 ≤ q.2.1) && decide (q.2.1 ≤ 1099511627776) && decide (1 ≤ q.2.2.2.2.2.2.2.length) && decide (q.2.2.2.2.2.2.2.length ≤ 24) && q.2.2.2.2.2.2.2.all rightP) = false := Bool.eq_false_iff.2 g1
    rw [g2] at hT
    refine aP 5 rfl (s_call_keep cl87 (hT) (first := []) (cap := []) rfl rfl rfl (dd rfl) (rX (by repeat constructor)) (fun _ => sX) (fun _ _ => aK ?_))
    refine aT 6 rfl vT ?_
    refine aT 7 rfl vM ?_
    refine a_know (s := 19) rfl (show _ = Value.bool false from rfl) ?_
    refine aX 8 rfl ?_
    refine aX 9 rfl ?_
    refine aX 10 rfl ?_
    refine aX 11 rfl ?_
    refine aX 12 rfl ?_
    refine aX 13 rfl ?_
    refine aX 14 rfl ?_
    refine aX 15 rfl ?_
    refine aT 16 rfl vQ ?_
    refine aT 17 rfl vA ?_
    refine a_done (by kernel_rfl) ?_ _
    refine c_ret1 Tryz.func12 rfl rfl fun w O hS => ?_
    exact ⟨(), congrArg Value.bool (decide_eq_false (by rw [hi, g2]; simp)).symm, trivial, trivial⟩
set_option maxRecDepth 100000 in
theorem right1_con (q : Rq9) (d f l : Value) (hk : q.1 = 1) (hq : FineQ q) : Con Tryz.prog 12 [.agg #[.int .i64 q.1, .int .i64 q.2.1, .int .i64 q.2.2.1, .string q.2.2.2.1, .string q.2.2.2.2.1, d, f, l]] [Sl (eInt .i64) d q.2.2.2.2.2.1, Sl eStr f q.2.2.2.2.2.2.1, Sl ePr l q.2.2.2.2.2.2.2] (γ := Unit) (fun _ => .bool (decide (RightQ q))) (fun _ => True) (fun _ => []) := by
  have hlk : ∀ b1 b2, Go.SL.look (kindsM b1 b2) q.1 = some (.agg #[fnV 90, fnC 95 b2]) := fun b1 b2 => by rw [hk]; exact look1 b1 b2
  have hT := tRecord_con q d f l hq.deps hq.files.1 hq.files.2
  have hR := rRecord_con q d f l
  have hi := right_iff1 hk
  have hS := sameReq_con (q.1, q.2.1, 0, q.2.2.2.1, ⟨#[]⟩, [], [], q.2.2.2.2.2.2.2) (zeroQ q.1) (.slice none 0 0) (.slice none 0 0) (l) (.slice none 0 0) (.slice none 0 0) (.slice none 0 0) ⟨Nat.zero_le _, Nat.zero_le _, hq.size.2.2⟩ (zeroQ_size _)
  dsimp only at hS
  refine con_of Tryz.func12 rfl (dd rfl) fun w0 O0 => ?_
  refine c_seq (c_region ?_)
  refine o_step (s_box rfl (dd rfl) (fun b1 => ?_))
  refine oV vA ?_
  refine o_nil (c_seq ?_)
  refine c_joinR (γ := Nat × Nat × Nat × Nat) [(1, _), (2, _)] (fun _ => True) (fun g => [(3, ptr g.1), (4, .bool true)]) (fun g => [Blk g.1 77 [fnV 90, fnC 95 g.2.2.2], Blk b1 32 [.int .i64 q.1, .int .i64 q.2.1, .int .i64 q.2.2.1, .string q.2.2.2.1, .string q.2.2.2.2.1, d, f, l], Sl (eInt .i64) d q.2.2.2.2.2.1, Sl eStr f q.2.2.2.2.2.2.1, Sl ePr l q.2.2.2.2.2.2.2, Blk g.2.2.1 75 [fnV 81], Blk g.2.2.2 75 [fnV 82]]) (by repeat (first | exact trivial | refine ⟨rfl, ?_⟩)) ?_ ?_
  rotate_left
  · intro MEET
    skip
    refine c_held [BlkR b1 32 [.int .i64 q.1, .int .i64 q.2.1, .int .i64 q.2.2.1, .string q.2.2.2.1, .string q.2.2.2.2.1, d, f, l], Sl (eInt .i64) d q.2.2.2.2.2.1, Sl eStr f q.2.2.2.2.2.2.1, Sl ePr l q.2.2.2.2.2.2.2] rfl ?_
    refine aT 1 rfl (vF 0 Tryz.underlying32 ti3) ?_
    refine aT 2 rfl (vL lone3) ?_
    refine a_two 0 7 rfl rfl (by kernel_rfl) ?_ ?_
    · skip
      refine s_callf cl39 (kinds_con) rfl (dd rfl) (pXs (by repeat constructor)) (fun g _ => aK ?_)
      refine a_two 3 7 rfl rfl (by kernel_rfl) ?_ ?_
      · skip
        refine s_val (v_lookupS kInt Tryz.underlying79 Tryz.underlying3 ti77 rfl rfl (hX (by repeat constructor)) (hlk g.2.1 g.2.2)) (dd rfl) (aK ?_)
        refine aT 4 rfl vM ?_
        refine aT 5 rfl vE ?_
        refine aT 6 rfl vE ?_
        refine aO 7 rfl (s_alloc ti77 (dd rfl) (fun b3 => aK ?_))
        refine aS 8 rfl ti77 ?_
        refine aT 9 rfl vA ?_
        refine a_done (by kernel_rfl) ?_ _
        refine cU (MEET ((b3, g)) (trivial))
      · skip
        refine s_alloc ti77 (dd rfl) (fun b3 => aK ?_)
        refine aO 3 rfl (s_val (v_lookupS kInt Tryz.underlying79 Tryz.underlying3 ti77 rfl rfl (hX (by repeat constructor)) (hlk g.2.1 g.2.2)) (dd rfl) (aK ?_))
        refine aT 4 rfl vM ?_
        refine aT 5 rfl vE ?_
        refine aT 6 rfl vE ?_
        refine aS 8 rfl ti77 ?_
        refine aT 9 rfl vA ?_
        refine a_done (by kernel_rfl) ?_ _
        refine cU (MEET ((b3, g)) (trivial))
    · skip
      refine s_alloc ti77 (dd rfl) (fun b3 => aK ?_)
      refine aO 0 rfl (s_callf cl39 (kinds_con) rfl (dd rfl) (pXs (by repeat constructor)) (fun g _ => aK ?_))
      refine aO 3 rfl (s_val (v_lookupS kInt Tryz.underlying79 Tryz.underlying3 ti77 rfl rfl (hX (by repeat constructor)) (hlk g.2.1 g.2.2)) (dd rfl) (aK ?_))
      refine aT 4 rfl vM ?_
      refine aT 5 rfl vE ?_
      refine aT 6 rfl vE ?_
      refine aS 8 rfl ti77 ?_
      refine aT 9 rfl vA ?_
      refine a_done (by kernel_rfl) ?_ _
      refine cU (MEET ((b3, g)) (trivial))
  rintro ⟨b3, bm, bn, bg⟩ -
  dsimp only [List.cons_append, List.nil_append]
  refine c_seq ?_
  refine c_held [BlkR b3 77 [fnV 90, fnC 95 bg], BlkR b1 32 [.int .i64 q.1, .int .i64 q.2.1, .int .i64 q.2.2.1, .string q.2.2.2.1, .string q.2.2.2.2.1, d, f, l], Sl (eInt .i64) d q.2.2.2.2.2.1, Sl eStr f q.2.2.2.2.2.2.1, Sl ePr l q.2.2.2.2.2.2.2, BlkR bg 75 [fnV 82]] rfl ?_
  refine aT 0 rfl vM ?_
  refine aT 1 rfl vM ?_
  refine aN 2 rfl (vF 0 Tryz.underlying77 ti29) ?_
  refine aN 3 rfl (vL lone29) ?_
  refine aN 4 rfl (vW Tryz.underlying32 ti32) ?_
  by_cases g1 : (decide (1 ≤ q.2.2.1 ∧ q.2.2.1 ≤ 1000000000) && lineP q.2.2.2.2.1 && (decide (q.2.2.2.2.2.1.length ≤ 8) && depsP q.2.2.1 0 q.2.2.2.2.2.1) && (decide (q.2.2.2.2.2.2.1.length ≤ 8) && filesP ⟨#[]⟩ q.2.2.2.2.2.2.1)) = true
  · rw [g1] at hT
    refine aP 5 rfl (s_call_keep cl90 (hT) (first := []) (cap := []) rfl rfl rfl (dd rfl) (rX (by repeat constructor)) (fun _ => sX) (fun _ _ => aK ?_))
    refine aT 6 rfl vT ?_
    refine aT 7 rfl vM ?_
    refine a_know (s := 19) rfl (show _ = Value.bool true from rfl) ?_
    refine aN 8 rfl (vF 1 Tryz.underlying77 ti75) ?_
    refine aN 9 rfl (vL lone75) ?_
    refine aN 10 rfl (vW Tryz.underlying32 ti32) ?_
    refine aN 12 rfl (vF 0 Tryz.underlying32 ti3) ?_
    refine aN 13 rfl (vL lone3) ?_
    refine aN 14 rfl (v_buildS (places := [(0, 1), (1, 1), (2, 1), (3, 1), (4, 1), (5, 1), (6, 1), (7, 1)]) (cells := [_, .int .i64 0, .int .i64 0, .string ⟨#[]⟩, .string ⟨#[]⟩, .slice none 0 0, .slice none 0 0, .slice none 0 0]) Tryz.underlying32 ti32 (by kernel_rfl) rfl (by repeat (first | exact PartsC.nil | (apply PartsC.one (by first | exact OneC.lit rfl | exact OneC.sl (hX (by repeat constructor)) )) | (apply PartsC.lit rfl))) rfl) ?_
    refine aP 11 rfl (s_call_keep cl95 (hR bg) (first := []) (cap := [ptr1 bg]) rfl rfl rfl (dd rfl) (rX (by repeat constructor)) (fun _ => sX) (fun _ _ => aK ?_))
    refine aP 15 rfl (s_callf cl15 (hS) rfl (dd rfl) (pXs (by repeat constructor)) (fun _ _ => aK ?_))
    refine aT 16 rfl vT ?_
    refine aT 17 rfl vA ?_
    refine a_done (by kernel_rfl) ?_ _
    refine c_ret1 Tryz.func12 rfl rfl fun w O hS => ?_
    exact ⟨(), congrArg Value.bool (decide_eq_decide.2 (by rw [hi, g1]; simp)), trivial, trivial⟩
  · have g2 : (decide (1 ≤ q.2.2.1 ∧ q.2.2.1 ≤ 1000000000) && lineP q.2.2.2.2.1 && (decide (q.2.2.2.2.2.1.length ≤ 8) && depsP q.2.2.1 0 q.2.2.2.2.2.1) && (decide (q.2.2.2.2.2.2.1.length ≤ 8) && filesP ⟨#[]⟩ q.2.2.2.2.2.2.1)) = false := Bool.eq_false_iff.2 g1
    rw [g2] at hT
    refine aP 5 rfl (s_call_keep cl90 (hT) (first := []) (cap := []) rfl rfl rfl (dd rfl) (rX (by repeat constructor)) (fun _ => sX) (fun _ _ => aK ?_))
    refine aT 6 rfl vT ?_
    refine aT 7 rfl vM ?_
    refine a_know (s := 19) rfl (show _ = Value.bool false from rfl) ?_
    refine aX 8 rfl ?_
    refine aX 9 rfl ?_
    refine aX 10 rfl ?_
    refine aX 11 rfl ?_
    refine aX 12 rfl ?_
    refine aX 13 rfl ?_
    refine aX 14 rfl ?_
    refine aX 15 rfl ?_
    refine aT 16 rfl vQ ?_
    refine aT 17 rfl vA ?_
    refine a_done (by kernel_rfl) ?_ _
    refine c_ret1 Tryz.func12 rfl rfl fun w O hS => ?_
    exact ⟨(), congrArg Value.bool (decide_eq_false (by rw [hi, g2]; simp)).symm, trivial, trivial⟩
set_option maxRecDepth 100000 in
theorem right2_con (q : Rq9) (d f l : Value) (hk : q.1 = 2) (hq : FineQ q) : Con Tryz.prog 12 [.agg #[.int .i64 q.1, .int .i64 q.2.1, .int .i64 q.2.2.1, .string q.2.2.2.1, .string q.2.2.2.2.1, d, f, l]] [Sl (eInt .i64) d q.2.2.2.2.2.1, Sl eStr f q.2.2.2.2.2.2.1, Sl ePr l q.2.2.2.2.2.2.2] (γ := Unit) (fun _ => .bool (decide (RightQ q))) (fun _ => True) (fun _ => []) := by
  have hlk : ∀ b1 b2, Go.SL.look (kindsM b1 b2) q.1 = some (.agg #[fnV 96, fnV 82]) := fun b1 b2 => by rw [hk]; exact look2 b1 b2
  have hT := tAmend_con q d f l hq.files.1 hq.files.2
  have hR := rGroup_con q d f l
  have hi := right_iff2 hk
  have hS := sameReq_con (q.1, q.2.1, 0, q.2.2.2.1, q.2.2.2.2.1, q.2.2.2.2.2.1, [], q.2.2.2.2.2.2.2) (zeroQ q.1) (d) (.slice none 0 0) (l) (.slice none 0 0) (.slice none 0 0) (.slice none 0 0) ⟨hq.size.1, Nat.zero_le _, hq.size.2.2⟩ (zeroQ_size _)
  dsimp only at hS
  refine con_of Tryz.func12 rfl (dd rfl) fun w0 O0 => ?_
  refine c_seq (c_region ?_)
  refine o_step (s_box rfl (dd rfl) (fun b1 => ?_))
  refine oV vA ?_
  refine o_nil (c_seq ?_)
  refine c_joinR (γ := Nat × Nat × Nat × Nat) [(1, _), (2, _)] (fun _ => True) (fun g => [(3, ptr g.1), (4, .bool true)]) (fun g => [Blk g.1 77 [fnV 96, fnV 82], Blk b1 32 [.int .i64 q.1, .int .i64 q.2.1, .int .i64 q.2.2.1, .string q.2.2.2.1, .string q.2.2.2.2.1, d, f, l], Sl (eInt .i64) d q.2.2.2.2.2.1, Sl eStr f q.2.2.2.2.2.2.1, Sl ePr l q.2.2.2.2.2.2.2, Blk g.2.2.1 75 [fnV 81], Blk g.2.2.2 75 [fnV 82]]) (by repeat (first | exact trivial | refine ⟨rfl, ?_⟩)) ?_ ?_
  rotate_left
  · intro MEET
    skip
    refine c_held [BlkR b1 32 [.int .i64 q.1, .int .i64 q.2.1, .int .i64 q.2.2.1, .string q.2.2.2.1, .string q.2.2.2.2.1, d, f, l], Sl (eInt .i64) d q.2.2.2.2.2.1, Sl eStr f q.2.2.2.2.2.2.1, Sl ePr l q.2.2.2.2.2.2.2] rfl ?_
    refine aT 1 rfl (vF 0 Tryz.underlying32 ti3) ?_
    refine aT 2 rfl (vL lone3) ?_
    refine a_two 0 7 rfl rfl (by kernel_rfl) ?_ ?_
    · skip
      refine s_callf cl39 (kinds_con) rfl (dd rfl) (pXs (by repeat constructor)) (fun g _ => aK ?_)
      refine a_two 3 7 rfl rfl (by kernel_rfl) ?_ ?_
      · skip
        refine s_val (v_lookupS kInt Tryz.underlying79 Tryz.underlying3 ti77 rfl rfl (hX (by repeat constructor)) (hlk g.2.1 g.2.2)) (dd rfl) (aK ?_)
        refine aT 4 rfl vM ?_
        refine aT 5 rfl vE ?_
        refine aT 6 rfl vE ?_
        refine aO 7 rfl (s_alloc ti77 (dd rfl) (fun b3 => aK ?_))
        refine aS 8 rfl ti77 ?_
        refine aT 9 rfl vA ?_
        refine a_done (by kernel_rfl) ?_ _
        refine cU (MEET ((b3, g)) (trivial))
      · skip
        refine s_alloc ti77 (dd rfl) (fun b3 => aK ?_)
        refine aO 3 rfl (s_val (v_lookupS kInt Tryz.underlying79 Tryz.underlying3 ti77 rfl rfl (hX (by repeat constructor)) (hlk g.2.1 g.2.2)) (dd rfl) (aK ?_))
        refine aT 4 rfl vM ?_
        refine aT 5 rfl vE ?_
        refine aT 6 rfl vE ?_
        refine aS 8 rfl ti77 ?_
        refine aT 9 rfl vA ?_
        refine a_done (by kernel_rfl) ?_ _
        refine cU (MEET ((b3, g)) (trivial))
    · skip
      refine s_alloc ti77 (dd rfl) (fun b3 => aK ?_)
      refine aO 0 rfl (s_callf cl39 (kinds_con) rfl (dd rfl) (pXs (by repeat constructor)) (fun g _ => aK ?_))
      refine aO 3 rfl (s_val (v_lookupS kInt Tryz.underlying79 Tryz.underlying3 ti77 rfl rfl (hX (by repeat constructor)) (hlk g.2.1 g.2.2)) (dd rfl) (aK ?_))
      refine aT 4 rfl vM ?_
      refine aT 5 rfl vE ?_
      refine aT 6 rfl vE ?_
      refine aS 8 rfl ti77 ?_
      refine aT 9 rfl vA ?_
      refine a_done (by kernel_rfl) ?_ _
      refine cU (MEET ((b3, g)) (trivial))
  rintro ⟨b3, bm, bn, bg⟩ -
  dsimp only [List.cons_append, List.nil_append]
  refine c_seq ?_
  refine c_held [BlkR b3 77 [fnV 96, fnV 82], BlkR b1 32 [.int .i64 q.1, .int .i64 q.2.1, .int .i64 q.2.2.1, .string q.2.2.2.1, .string q.2.2.2.2.1, d, f, l], Sl (eInt .i64) d q.2.2.2.2.2.1, Sl eStr f q.2.2.2.2.2.2.1, Sl ePr l q.2.2.2.2.2.2.2] rfl ?_
  refine aT 0 rfl vM ?_
  refine aT 1 rfl vM ?_
  refine aN 2 rfl (vF 0 Tryz.underlying77 ti29) ?_
  refine aN 3 rfl (vL lone29) ?_
  refine aN 4 rfl (vW Tryz.underlying32 ti32) ?_
  by_cases g1 : (decide (1 ≤ q.2.2.1 ∧ q.2.2.1 ≤ 1000000000) && (decide (q.2.2.2.2.2.2.1.length ≤ 8) && filesP ⟨#[]⟩ q.2.2.2.2.2.2.1)) = true
  · rw [g1] at hT
    refine aP 5 rfl (s_call_keep cl96 (hT) (first := []) (cap := []) rfl rfl rfl (dd rfl) (rX (by repeat constructor)) (fun _ => sX) (fun _ _ => aK ?_))
    refine aT 6 rfl vT ?_
    refine aT 7 rfl vM ?_
    refine a_know (s := 19) rfl (show _ = Value.bool true from rfl) ?_
    refine aN 8 rfl (vF 1 Tryz.underlying77 ti75) ?_
    refine aN 9 rfl (vL lone75) ?_
    refine aN 10 rfl (vW Tryz.underlying32 ti32) ?_
    refine aN 12 rfl (vF 0 Tryz.underlying32 ti3) ?_
    refine aN 13 rfl (vL lone3) ?_
    refine aN 14 rfl (v_buildS (places := [(0, 1), (1, 1), (2, 1), (3, 1), (4, 1), (5, 1), (6, 1), (7, 1)]) (cells := [_, .int .i64 0, .int .i64 0, .string ⟨#[]⟩, .string ⟨#[]⟩, .slice none 0 0, .slice none 0 0, .slice none 0 0]) Tryz.underlying32 ti32 (by kernel_rfl) rfl (by repeat (first | exact PartsC.nil | (apply PartsC.one (by first | exact OneC.lit rfl | exact OneC.sl (hX (by repeat constructor)) )) | (apply PartsC.lit rfl))) rfl) ?_
    refine aP 11 rfl (s_call_keep cl82 (hR) (first := []) (cap := []) rfl rfl rfl (dd rfl) (rX (by repeat constructor)) (fun _ => sX) (fun _ _ => aK ?_))
    refine aP 15 rfl (s_callf cl15 (hS) rfl (dd rfl) (pXs (by repeat constructor)) (fun _ _ => aK ?_))
    refine aT 16 rfl vT ?_
    refine aT 17 rfl vA ?_
    refine a_done (by kernel_rfl) ?_ _
    refine c_ret1 Tryz.func12 rfl rfl fun w O hS => ?_
    exact ⟨(), congrArg Value.bool (decide_eq_decide.2 (by rw [hi, g1]; simp)), trivial, trivial⟩
  · have g2 : (decide (1 ≤ q.2.2.1 ∧ q.2.2.1 ≤ 1000000000) && (decide (q.2.2.2.2.2.2.1.length ≤ 8) && filesP ⟨#[]⟩ q.2.2.2.2.2.2.1)) = false := Bool.eq_false_iff.2 g1
    rw [g2] at hT
    refine aP 5 rfl (s_call_keep cl96 (hT) (first := []) (cap := []) rfl rfl rfl (dd rfl) (rX (by repeat constructor)) (fun _ => sX) (fun _ _ => aK ?_))
    refine aT 6 rfl vT ?_
    refine aT 7 rfl vM ?_
    refine a_know (s := 19) rfl (show _ = Value.bool false from rfl) ?_
    refine aX 8 rfl ?_
    refine aX 9 rfl ?_
    refine aX 10 rfl ?_
    refine aX 11 rfl ?_
    refine aX 12 rfl ?_
    refine aX 13 rfl ?_
    refine aX 14 rfl ?_
    refine aX 15 rfl ?_
    refine aT 16 rfl vQ ?_
    refine aT 17 rfl vA ?_
    refine a_done (by kernel_rfl) ?_ _
    refine c_ret1 Tryz.func12 rfl rfl fun w O hS => ?_
    exact ⟨(), congrArg Value.bool (decide_eq_false (by rw [hi, g2]; simp)).symm, trivial, trivial⟩
set_option maxRecDepth 100000 in
theorem right3_con (q : Rq9) (d f l : Value) (hk : q.1 = 3) (hq : FineQ q) : Con Tryz.prog 12 [.agg #[.int .i64 q.1, .int .i64 q.2.1, .int .i64 q.2.2.1, .string q.2.2.2.1, .string q.2.2.2.2.1, d, f, l]] [Sl (eInt .i64) d q.2.2.2.2.2.1, Sl eStr f q.2.2.2.2.2.2.1, Sl ePr l q.2.2.2.2.2.2.2] (γ := Unit) (fun _ => .bool (decide (RightQ q))) (fun _ => True) (fun _ => []) := by
  have hlk : ∀ b1 b2, Go.SL.look (kindsM b1 b2) q.1 = some (.agg #[fnV 91, fnV 97]) := fun b1 b2 => by rw [hk]; exact look3 b1 b2
  have hT := id_con (.int .i64 q.1) (.int .i64 q.2.1) (.string q.2.2.2.1) (.string q.2.2.2.2.1) d f l q.2.2.1
  have hR := rUnrecord_con q d f l
  have hi := right_iff3 hk
  have hS := sameReq_con (q.1, q.2.1, 0, q.2.2.2.1, q.2.2.2.2.1, q.2.2.2.2.2.1, q.2.2.2.2.2.2.1, q.2.2.2.2.2.2.2) (zeroQ q.1) (d) (f) (l) (.slice none 0 0) (.slice none 0 0) (.slice none 0 0) ⟨hq.size.1, hq.size.2.1, hq.size.2.2⟩ (zeroQ_size _)
  dsimp only at hS
  refine con_of Tryz.func12 rfl (dd rfl) fun w0 O0 => ?_
  refine c_seq (c_region ?_)
  refine o_step (s_box rfl (dd rfl) (fun b1 => ?_))
  refine oV vA ?_
  refine o_nil (c_seq ?_)
  refine c_joinR (γ := Nat × Nat × Nat × Nat) [(1, _), (2, _)] (fun _ => True) (fun g => [(3, ptr g.1), (4, .bool true)]) (fun g => [Blk g.1 77 [fnV 91, fnV 97], Blk b1 32 [.int .i64 q.1, .int .i64 q.2.1, .int .i64 q.2.2.1, .string q.2.2.2.1, .string q.2.2.2.2.1, d, f, l], Sl (eInt .i64) d q.2.2.2.2.2.1, Sl eStr f q.2.2.2.2.2.2.1, Sl ePr l q.2.2.2.2.2.2.2, Blk g.2.2.1 75 [fnV 81], Blk g.2.2.2 75 [fnV 82]]) (by repeat (first | exact trivial | refine ⟨rfl, ?_⟩)) ?_ ?_
  rotate_left
  · intro MEET
    skip
    refine c_held [BlkR b1 32 [.int .i64 q.1, .int .i64 q.2.1, .int .i64 q.2.2.1, .string q.2.2.2.1, .string q.2.2.2.2.1, d, f, l], Sl (eInt .i64) d q.2.2.2.2.2.1, Sl eStr f q.2.2.2.2.2.2.1, Sl ePr l q.2.2.2.2.2.2.2] rfl ?_
    refine aT 1 rfl (vF 0 Tryz.underlying32 ti3) ?_
    refine aT 2 rfl (vL lone3) ?_
    refine a_two 0 7 rfl rfl (by kernel_rfl) ?_ ?_
    · skip
      refine s_callf cl39 (kinds_con) rfl (dd rfl) (pXs (by repeat constructor)) (fun g _ => aK ?_)
      refine a_two 3 7 rfl rfl (by kernel_rfl) ?_ ?_
      · skip
        refine s_val (v_lookupS kInt Tryz.underlying79 Tryz.underlying3 ti77 rfl rfl (hX (by repeat constructor)) (hlk g.2.1 g.2.2)) (dd rfl) (aK ?_)
        refine aT 4 rfl vM ?_
        refine aT 5 rfl vE ?_
        refine aT 6 rfl vE ?_
        refine aO 7 rfl (s_alloc ti77 (dd rfl) (fun b3 => aK ?_))
        refine aS 8 rfl ti77 ?_
        refine aT 9 rfl vA ?_
        refine a_done (by kernel_rfl) ?_ _
        refine cU (MEET ((b3, g)) (trivial))
      · skip
        refine s_alloc ti77 (dd rfl) (fun b3 => aK ?_)
        refine aO 3 rfl (s_val (v_lookupS kInt Tryz.underlying79 Tryz.underlying3 ti77 rfl rfl (hX (by repeat constructor)) (hlk g.2.1 g.2.2)) (dd rfl) (aK ?_))
        refine aT 4 rfl vM ?_
        refine aT 5 rfl vE ?_
        refine aT 6 rfl vE ?_
        refine aS 8 rfl ti77 ?_
        refine aT 9 rfl vA ?_
        refine a_done (by kernel_rfl) ?_ _
        refine cU (MEET ((b3, g)) (trivial))
    · skip
      refine s_alloc ti77 (dd rfl) (fun b3 => aK ?_)
      refine aO 0 rfl (s_callf cl39 (kinds_con) rfl (dd rfl) (pXs (by repeat constructor)) (fun g _ => aK ?_))
      refine aO 3 rfl (s_val (v_lookupS kInt Tryz.underlying79 Tryz.underlying3 ti77 rfl rfl (hX (by repeat constructor)) (hlk g.2.1 g.2.2)) (dd rfl) (aK ?_))
      refine aT 4 rfl vM ?_
      refine aT 5 rfl vE ?_
      refine aT 6 rfl vE ?_
      refine aS 8 rfl ti77 ?_
      refine aT 9 rfl vA ?_
      refine a_done (by kernel_rfl) ?_ _
      refine cU (MEET ((b3, g)) (trivial))
  rintro ⟨b3, bm, bn, bg⟩ -
  dsimp only [List.cons_append, List.nil_append]
  refine c_seq ?_
  refine c_held [BlkR b3 77 [fnV 91, fnV 97], BlkR b1 32 [.int .i64 q.1, .int .i64 q.2.1, .int .i64 q.2.2.1, .string q.2.2.2.1, .string q.2.2.2.2.1, d, f, l], Sl (eInt .i64) d q.2.2.2.2.2.1, Sl eStr f q.2.2.2.2.2.2.1, Sl ePr l q.2.2.2.2.2.2.2] rfl ?_
  refine aT 0 rfl vM ?_
  refine aT 1 rfl vM ?_
  refine aN 2 rfl (vF 0 Tryz.underlying77 ti29) ?_
  refine aN 3 rfl (vL lone29) ?_
  refine aN 4 rfl (vW Tryz.underlying32 ti32) ?_
  by_cases g1 : (decide (1 ≤ q.2.2.1 ∧ q.2.2.1 ≤ 1000000000)) = true
  · rw [g1] at hT
    refine aP 5 rfl (s_call_keep cl91 (hT) (first := []) (cap := []) rfl rfl rfl (dd rfl) (rX (by repeat constructor)) (fun _ => sX) (fun _ _ => aK ?_))
    refine aT 6 rfl vT ?_
    refine aT 7 rfl vM ?_
    refine a_know (s := 19) rfl (show _ = Value.bool true from rfl) ?_
    refine aN 8 rfl (vF 1 Tryz.underlying77 ti75) ?_
    refine aN 9 rfl (vL lone75) ?_
    refine aN 10 rfl (vW Tryz.underlying32 ti32) ?_
    refine aN 12 rfl (vF 0 Tryz.underlying32 ti3) ?_
    refine aN 13 rfl (vL lone3) ?_
    refine aN 14 rfl (v_buildS (places := [(0, 1), (1, 1), (2, 1), (3, 1), (4, 1), (5, 1), (6, 1), (7, 1)]) (cells := [_, .int .i64 0, .int .i64 0, .string ⟨#[]⟩, .string ⟨#[]⟩, .slice none 0 0, .slice none 0 0, .slice none 0 0]) Tryz.underlying32 ti32 (by kernel_rfl) rfl (by repeat (first | exact PartsC.nil | (apply PartsC.one (by first | exact OneC.lit rfl | exact OneC.sl (hX (by repeat constructor)) )) | (apply PartsC.lit rfl))) rfl) ?_
    refine aP 11 rfl (s_call_keep cl97 (hR) (first := []) (cap := []) rfl rfl rfl (dd rfl) (rX (by repeat constructor)) (fun _ => sX) (fun _ _ => aK ?_))
    refine aP 15 rfl (s_callf cl15 (hS) rfl (dd rfl) (pXs (by repeat constructor)) (fun _ _ => aK ?_))
    refine aT 16 rfl vT ?_
    refine aT 17 rfl vA ?_
    refine a_done (by kernel_rfl) ?_ _
    refine c_ret1 Tryz.func12 rfl rfl fun w O hS => ?_
    exact ⟨(), congrArg Value.bool (decide_eq_decide.2 (by rw [hi, g1]; simp)), trivial, trivial⟩
  · have g2 : (decide (1 ≤ q.2.2.1 ∧ q.2.2.1 ≤ 1000000000)) = false := Bool.eq_false_iff.2 g1
    rw [g2] at hT
    refine aP 5 rfl (s_call_keep cl91 (hT) (first := []) (cap := []) rfl rfl rfl (dd rfl) (rX (by repeat constructor)) (fun _ => sX) (fun _ _ => aK ?_))
    refine aT 6 rfl vT ?_
    refine aT 7 rfl vM ?_
    refine a_know (s := 19) rfl (show _ = Value.bool false from rfl) ?_
    refine aX 8 rfl ?_
    refine aX 9 rfl ?_
    refine aX 10 rfl ?_
    refine aX 11 rfl ?_
    refine aX 12 rfl ?_
    refine aX 13 rfl ?_
    refine aX 14 rfl ?_
    refine aX 15 rfl ?_
    refine aT 16 rfl vQ ?_
    refine aT 17 rfl vA ?_
    refine a_done (by kernel_rfl) ?_ _
    refine c_ret1 Tryz.func12 rfl rfl fun w O hS => ?_
    exact ⟨(), congrArg Value.bool (decide_eq_false (by rw [hi, g2]; simp)).symm, trivial, trivial⟩
set_option maxRecDepth 100000 in
theorem right4_con (q : Rq9) (d f l : Value) (hk : q.1 = 4) (hq : FineQ q) : Con Tryz.prog 12 [.agg #[.int .i64 q.1, .int .i64 q.2.1, .int .i64 q.2.2.1, .string q.2.2.2.1, .string q.2.2.2.2.1, d, f, l]] [Sl (eInt .i64) d q.2.2.2.2.2.1, Sl eStr f q.2.2.2.2.2.2.1, Sl ePr l q.2.2.2.2.2.2.2] (γ := Unit) (fun _ => .bool (decide (RightQ q))) (fun _ => True) (fun _ => []) := by
  have hlk : ∀ b1 b2, Go.SL.look (kindsM b1 b2) q.1 = some (.agg #[fnV 94, fnV 98]) := fun b1 b2 => by rw [hk]; exact look4 b1 b2
  have hT := files_con (.int .i64 q.1) (.int .i64 q.2.1) (.int .i64 q.2.2.1) (.string q.2.2.2.1) (.string q.2.2.2.2.1) d f l q.2.2.2.2.2.2.1 hq.files.1 hq.files.2
  have hR := rRevert_con q d f l
  have hi := right_iff4 hk
  have hS := sameReq_con (q.1, q.2.1, q.2.2.1, q.2.2.2.1, q.2.2.2.2.1, q.2.2.2.2.2.1, [], q.2.2.2.2.2.2.2) (zeroQ q.1) (d) (.slice none 0 0) (l) (.slice none 0 0) (.slice none 0 0) (.slice none 0 0) ⟨hq.size.1, Nat.zero_le _, hq.size.2.2⟩ (zeroQ_size _)
  dsimp only at hS
  refine con_of Tryz.func12 rfl (dd rfl) fun w0 O0 => ?_
  refine c_seq (c_region ?_)
  refine o_step (s_box rfl (dd rfl) (fun b1 => ?_))
  refine oV vA ?_
  refine o_nil (c_seq ?_)
  refine c_joinR (γ := Nat × Nat × Nat × Nat) [(1, _), (2, _)] (fun _ => True) (fun g => [(3, ptr g.1), (4, .bool true)]) (fun g => [Blk g.1 77 [fnV 94, fnV 98], Blk b1 32 [.int .i64 q.1, .int .i64 q.2.1, .int .i64 q.2.2.1, .string q.2.2.2.1, .string q.2.2.2.2.1, d, f, l], Sl (eInt .i64) d q.2.2.2.2.2.1, Sl eStr f q.2.2.2.2.2.2.1, Sl ePr l q.2.2.2.2.2.2.2, Blk g.2.2.1 75 [fnV 81], Blk g.2.2.2 75 [fnV 82]]) (by repeat (first | exact trivial | refine ⟨rfl, ?_⟩)) ?_ ?_
  rotate_left
  · intro MEET
    skip
    refine c_held [BlkR b1 32 [.int .i64 q.1, .int .i64 q.2.1, .int .i64 q.2.2.1, .string q.2.2.2.1, .string q.2.2.2.2.1, d, f, l], Sl (eInt .i64) d q.2.2.2.2.2.1, Sl eStr f q.2.2.2.2.2.2.1, Sl ePr l q.2.2.2.2.2.2.2] rfl ?_
    refine aT 1 rfl (vF 0 Tryz.underlying32 ti3) ?_
    refine aT 2 rfl (vL lone3) ?_
    refine a_two 0 7 rfl rfl (by kernel_rfl) ?_ ?_
    · skip
      refine s_callf cl39 (kinds_con) rfl (dd rfl) (pXs (by repeat constructor)) (fun g _ => aK ?_)
      refine a_two 3 7 rfl rfl (by kernel_rfl) ?_ ?_
      · skip
        refine s_val (v_lookupS kInt Tryz.underlying79 Tryz.underlying3 ti77 rfl rfl (hX (by repeat constructor)) (hlk g.2.1 g.2.2)) (dd rfl) (aK ?_)
        refine aT 4 rfl vM ?_
        refine aT 5 rfl vE ?_
        refine aT 6 rfl vE ?_
        refine aO 7 rfl (s_alloc ti77 (dd rfl) (fun b3 => aK ?_))
        refine aS 8 rfl ti77 ?_
        refine aT 9 rfl vA ?_
        refine a_done (by kernel_rfl) ?_ _
        refine cU (MEET ((b3, g)) (trivial))
      · skip
        refine s_alloc ti77 (dd rfl) (fun b3 => aK ?_)
        refine aO 3 rfl (s_val (v_lookupS kInt Tryz.underlying79 Tryz.underlying3 ti77 rfl rfl (hX (by repeat constructor)) (hlk g.2.1 g.2.2)) (dd rfl) (aK ?_))
        refine aT 4 rfl vM ?_
        refine aT 5 rfl vE ?_
        refine aT 6 rfl vE ?_
        refine aS 8 rfl ti77 ?_
        refine aT 9 rfl vA ?_
        refine a_done (by kernel_rfl) ?_ _
        refine cU (MEET ((b3, g)) (trivial))
    · skip
      refine s_alloc ti77 (dd rfl) (fun b3 => aK ?_)
      refine aO 0 rfl (s_callf cl39 (kinds_con) rfl (dd rfl) (pXs (by repeat constructor)) (fun g _ => aK ?_))
      refine aO 3 rfl (s_val (v_lookupS kInt Tryz.underlying79 Tryz.underlying3 ti77 rfl rfl (hX (by repeat constructor)) (hlk g.2.1 g.2.2)) (dd rfl) (aK ?_))
      refine aT 4 rfl vM ?_
      refine aT 5 rfl vE ?_
      refine aT 6 rfl vE ?_
      refine aS 8 rfl ti77 ?_
      refine aT 9 rfl vA ?_
      refine a_done (by kernel_rfl) ?_ _
      refine cU (MEET ((b3, g)) (trivial))
  rintro ⟨b3, bm, bn, bg⟩ -
  dsimp only [List.cons_append, List.nil_append]
  refine c_seq ?_
  refine c_held [BlkR b3 77 [fnV 94, fnV 98], BlkR b1 32 [.int .i64 q.1, .int .i64 q.2.1, .int .i64 q.2.2.1, .string q.2.2.2.1, .string q.2.2.2.2.1, d, f, l], Sl (eInt .i64) d q.2.2.2.2.2.1, Sl eStr f q.2.2.2.2.2.2.1, Sl ePr l q.2.2.2.2.2.2.2] rfl ?_
  refine aT 0 rfl vM ?_
  refine aT 1 rfl vM ?_
  refine aN 2 rfl (vF 0 Tryz.underlying77 ti29) ?_
  refine aN 3 rfl (vL lone29) ?_
  refine aN 4 rfl (vW Tryz.underlying32 ti32) ?_
  by_cases g1 : (decide (q.2.2.2.2.2.2.1.length ≤ 8) && filesP ⟨#[]⟩ q.2.2.2.2.2.2.1) = true
  · rw [g1] at hT
    refine aP 5 rfl (s_call_keep cl94 (hT) (first := []) (cap := []) rfl rfl rfl (dd rfl) (rX (by repeat constructor)) (fun _ => sX) (fun _ _ => aK ?_))
    refine aT 6 rfl vT ?_
    refine aT 7 rfl vM ?_
    refine a_know (s := 19) rfl (show _ = Value.bool true from rfl) ?_
    refine aN 8 rfl (vF 1 Tryz.underlying77 ti75) ?_
    refine aN 9 rfl (vL lone75) ?_
    refine aN 10 rfl (vW Tryz.underlying32 ti32) ?_
    refine aN 12 rfl (vF 0 Tryz.underlying32 ti3) ?_
    refine aN 13 rfl (vL lone3) ?_
    refine aN 14 rfl (v_buildS (places := [(0, 1), (1, 1), (2, 1), (3, 1), (4, 1), (5, 1), (6, 1), (7, 1)]) (cells := [_, .int .i64 0, .int .i64 0, .string ⟨#[]⟩, .string ⟨#[]⟩, .slice none 0 0, .slice none 0 0, .slice none 0 0]) Tryz.underlying32 ti32 (by kernel_rfl) rfl (by repeat (first | exact PartsC.nil | (apply PartsC.one (by first | exact OneC.lit rfl | exact OneC.sl (hX (by repeat constructor)) )) | (apply PartsC.lit rfl))) rfl) ?_
    refine aP 11 rfl (s_call_keep cl98 (hR) (first := []) (cap := []) rfl rfl rfl (dd rfl) (rX (by repeat constructor)) (fun _ => sX) (fun _ _ => aK ?_))
    refine aP 15 rfl (s_callf cl15 (hS) rfl (dd rfl) (pXs (by repeat constructor)) (fun _ _ => aK ?_))
    refine aT 16 rfl vT ?_
    refine aT 17 rfl vA ?_
    refine a_done (by kernel_rfl) ?_ _
    refine c_ret1 Tryz.func12 rfl rfl fun w O hS => ?_
    exact ⟨(), congrArg Value.bool (decide_eq_decide.2 (by rw [hi, g1]; simp)), trivial, trivial⟩
  · have g2 : (decide (q.2.2.2.2.2.2.1.length ≤ 8) && filesP ⟨#[]⟩ q.2.2.2.2.2.2.1) = false := Bool.eq_false_iff.2 g1
    rw [g2] at hT
    refine aP 5 rfl (s_call_keep cl94 (hT) (first := []) (cap := []) rfl rfl rfl (dd rfl) (rX (by repeat constructor)) (fun _ => sX) (fun _ _ => aK ?_))
    refine aT 6 rfl vT ?_
    refine aT 7 rfl vM ?_
    refine a_know (s := 19) rfl (show _ = Value.bool false from rfl) ?_
    refine aX 8 rfl ?_
    refine aX 9 rfl ?_
    refine aX 10 rfl ?_
    refine aX 11 rfl ?_
    refine aX 12 rfl ?_
    refine aX 13 rfl ?_
    refine aX 14 rfl ?_
    refine aX 15 rfl ?_
    refine aT 16 rfl vQ ?_
    refine aT 17 rfl vA ?_
    refine a_done (by kernel_rfl) ?_ _
    refine c_ret1 Tryz.func12 rfl rfl fun w O hS => ?_
    exact ⟨(), congrArg Value.bool (decide_eq_false (by rw [hi, g2]; simp)).symm, trivial, trivial⟩
set_option maxRecDepth 100000 in
theorem right5_con (q : Rq9) (d f l : Value) (hk : q.1 = 5) (hq : FineQ q) : Con Tryz.prog 12 [.agg #[.int .i64 q.1, .int .i64 q.2.1, .int .i64 q.2.2.1, .string q.2.2.2.1, .string q.2.2.2.2.1, d, f, l]] [Sl (eInt .i64) d q.2.2.2.2.2.1, Sl eStr f q.2.2.2.2.2.2.1, Sl ePr l q.2.2.2.2.2.2.2] (γ := Unit) (fun _ => .bool (decide (RightQ q))) (fun _ => True) (fun _ => []) := by
  have hlk : ∀ b1 b2, Go.SL.look (kindsM b1 b2) q.1 = some (.agg #[fnV 99, fnC 100 b1]) := fun b1 b2 => by rw [hk]; exact look5 b1 b2
  have hT := tShelve_con q d f l hq.name hq.files.1 hq.files.2
  have hR := rShelve_con q d f l
  have hi := right_iff5 hk
  have hS := sameReq_con (q.1, q.2.1, q.2.2.1, ⟨#[]⟩, q.2.2.2.2.1, q.2.2.2.2.2.1, [], q.2.2.2.2.2.2.2) (zeroQ q.1) (d) (.slice none 0 0) (l) (.slice none 0 0) (.slice none 0 0) (.slice none 0 0) ⟨hq.size.1, Nat.zero_le _, hq.size.2.2⟩ (zeroQ_size _)
  dsimp only at hS
  refine con_of Tryz.func12 rfl (dd rfl) fun w0 O0 => ?_
  refine c_seq (c_region ?_)
  refine o_step (s_box rfl (dd rfl) (fun b1 => ?_))
  refine oV vA ?_
  refine o_nil (c_seq ?_)
  refine c_joinR (γ := Nat × Nat × Nat × Nat) [(1, _), (2, _)] (fun _ => True) (fun g => [(3, ptr g.1), (4, .bool true)]) (fun g => [Blk g.1 77 [fnV 99, fnC 100 g.2.2.1], Blk b1 32 [.int .i64 q.1, .int .i64 q.2.1, .int .i64 q.2.2.1, .string q.2.2.2.1, .string q.2.2.2.2.1, d, f, l], Sl (eInt .i64) d q.2.2.2.2.2.1, Sl eStr f q.2.2.2.2.2.2.1, Sl ePr l q.2.2.2.2.2.2.2, Blk g.2.2.1 75 [fnV 81], Blk g.2.2.2 75 [fnV 82]]) (by repeat (first | exact trivial | refine ⟨rfl, ?_⟩)) ?_ ?_
  rotate_left
  · intro MEET
    skip
    refine c_held [BlkR b1 32 [.int .i64 q.1, .int .i64 q.2.1, .int .i64 q.2.2.1, .string q.2.2.2.1, .string q.2.2.2.2.1, d, f, l], Sl (eInt .i64) d q.2.2.2.2.2.1, Sl eStr f q.2.2.2.2.2.2.1, Sl ePr l q.2.2.2.2.2.2.2] rfl ?_
    refine aT 1 rfl (vF 0 Tryz.underlying32 ti3) ?_
    refine aT 2 rfl (vL lone3) ?_
    refine a_two 0 7 rfl rfl (by kernel_rfl) ?_ ?_
    · skip
      refine s_callf cl39 (kinds_con) rfl (dd rfl) (pXs (by repeat constructor)) (fun g _ => aK ?_)
      refine a_two 3 7 rfl rfl (by kernel_rfl) ?_ ?_
      · skip
        refine s_val (v_lookupS kInt Tryz.underlying79 Tryz.underlying3 ti77 rfl rfl (hX (by repeat constructor)) (hlk g.2.1 g.2.2)) (dd rfl) (aK ?_)
        refine aT 4 rfl vM ?_
        refine aT 5 rfl vE ?_
        refine aT 6 rfl vE ?_
        refine aO 7 rfl (s_alloc ti77 (dd rfl) (fun b3 => aK ?_))
        refine aS 8 rfl ti77 ?_
        refine aT 9 rfl vA ?_
        refine a_done (by kernel_rfl) ?_ _
        refine cU (MEET ((b3, g)) (trivial))
      · skip
        refine s_alloc ti77 (dd rfl) (fun b3 => aK ?_)
        refine aO 3 rfl (s_val (v_lookupS kInt Tryz.underlying79 Tryz.underlying3 ti77 rfl rfl (hX (by repeat constructor)) (hlk g.2.1 g.2.2)) (dd rfl) (aK ?_))
        refine aT 4 rfl vM ?_
        refine aT 5 rfl vE ?_
        refine aT 6 rfl vE ?_
        refine aS 8 rfl ti77 ?_
        refine aT 9 rfl vA ?_
        refine a_done (by kernel_rfl) ?_ _
        refine cU (MEET ((b3, g)) (trivial))
    · skip
      refine s_alloc ti77 (dd rfl) (fun b3 => aK ?_)
      refine aO 0 rfl (s_callf cl39 (kinds_con) rfl (dd rfl) (pXs (by repeat constructor)) (fun g _ => aK ?_))
      refine aO 3 rfl (s_val (v_lookupS kInt Tryz.underlying79 Tryz.underlying3 ti77 rfl rfl (hX (by repeat constructor)) (hlk g.2.1 g.2.2)) (dd rfl) (aK ?_))
      refine aT 4 rfl vM ?_
      refine aT 5 rfl vE ?_
      refine aT 6 rfl vE ?_
      refine aS 8 rfl ti77 ?_
      refine aT 9 rfl vA ?_
      refine a_done (by kernel_rfl) ?_ _
      refine cU (MEET ((b3, g)) (trivial))
  rintro ⟨b3, bm, bn, bg⟩ -
  dsimp only [List.cons_append, List.nil_append]
  refine c_seq ?_
  refine c_held [BlkR b3 77 [fnV 99, fnC 100 bn], BlkR b1 32 [.int .i64 q.1, .int .i64 q.2.1, .int .i64 q.2.2.1, .string q.2.2.2.1, .string q.2.2.2.2.1, d, f, l], Sl (eInt .i64) d q.2.2.2.2.2.1, Sl eStr f q.2.2.2.2.2.2.1, Sl ePr l q.2.2.2.2.2.2.2, BlkR bn 75 [fnV 81]] rfl ?_
  refine aT 0 rfl vM ?_
  refine aT 1 rfl vM ?_
  refine aN 2 rfl (vF 0 Tryz.underlying77 ti29) ?_
  refine aN 3 rfl (vL lone29) ?_
  refine aN 4 rfl (vW Tryz.underlying32 ti32) ?_
  by_cases g1 : (namedP q.2.2.2.1 && (decide (q.2.2.2.2.2.2.1.length ≤ 8) && filesP ⟨#[]⟩ q.2.2.2.2.2.2.1)) = true
  · rw [g1] at hT
    refine aP 5 rfl (s_call_keep cl99 (hT) (first := []) (cap := []) rfl rfl rfl (dd rfl) (rX (by repeat constructor)) (fun _ => sX) (fun _ _ => aK ?_))
    refine aT 6 rfl vT ?_
    refine aT 7 rfl vM ?_
    refine a_know (s := 19) rfl (show _ = Value.bool true from rfl) ?_
    refine aN 8 rfl (vF 1 Tryz.underlying77 ti75) ?_
    refine aN 9 rfl (vL lone75) ?_
    refine aN 10 rfl (vW Tryz.underlying32 ti32) ?_
    refine aN 12 rfl (vF 0 Tryz.underlying32 ti3) ?_
    refine aN 13 rfl (vL lone3) ?_
    refine aN 14 rfl (v_buildS (places := [(0, 1), (1, 1), (2, 1), (3, 1), (4, 1), (5, 1), (6, 1), (7, 1)]) (cells := [_, .int .i64 0, .int .i64 0, .string ⟨#[]⟩, .string ⟨#[]⟩, .slice none 0 0, .slice none 0 0, .slice none 0 0]) Tryz.underlying32 ti32 (by kernel_rfl) rfl (by repeat (first | exact PartsC.nil | (apply PartsC.one (by first | exact OneC.lit rfl | exact OneC.sl (hX (by repeat constructor)) )) | (apply PartsC.lit rfl))) rfl) ?_
    refine aP 11 rfl (s_call_keep cl100 (hR bn) (first := []) (cap := [ptr1 bn]) rfl rfl rfl (dd rfl) (rX (by repeat constructor)) (fun _ => sX) (fun _ _ => aK ?_))
    refine aP 15 rfl (s_callf cl15 (hS) rfl (dd rfl) (pXs (by repeat constructor)) (fun _ _ => aK ?_))
    refine aT 16 rfl vT ?_
    refine aT 17 rfl vA ?_
    refine a_done (by kernel_rfl) ?_ _
    refine c_ret1 Tryz.func12 rfl rfl fun w O hS => ?_
    exact ⟨(), congrArg Value.bool (decide_eq_decide.2 (by rw [hi, g1]; simp)), trivial, trivial⟩
  · have g2 : (namedP q.2.2.2.1 && (decide (q.2.2.2.2.2.2.1.length ≤ 8) && filesP ⟨#[]⟩ q.2.2.2.2.2.2.1)) = false := Bool.eq_false_iff.2 g1
    rw [g2] at hT
    refine aP 5 rfl (s_call_keep cl99 (hT) (first := []) (cap := []) rfl rfl rfl (dd rfl) (rX (by repeat constructor)) (fun _ => sX) (fun _ _ => aK ?_))
    refine aT 6 rfl vT ?_
    refine aT 7 rfl vM ?_
    refine a_know (s := 19) rfl (show _ = Value.bool false from rfl) ?_
    refine aX 8 rfl ?_
    refine aX 9 rfl ?_
    refine aX 10 rfl ?_
    refine aX 11 rfl ?_
    refine aX 12 rfl ?_
    refine aX 13 rfl ?_
    refine aX 14 rfl ?_
    refine aX 15 rfl ?_
    refine aT 16 rfl vQ ?_
    refine aT 17 rfl vA ?_
    refine a_done (by kernel_rfl) ?_ _
    refine c_ret1 Tryz.func12 rfl rfl fun w O hS => ?_
    exact ⟨(), congrArg Value.bool (decide_eq_false (by rw [hi, g2]; simp)).symm, trivial, trivial⟩
set_option maxRecDepth 100000 in
theorem right6_con (q : Rq9) (d f l : Value) (hk : q.1 = 6) (hq : FineQ q) : Con Tryz.prog 12 [.agg #[.int .i64 q.1, .int .i64 q.2.1, .int .i64 q.2.2.1, .string q.2.2.2.1, .string q.2.2.2.2.1, d, f, l]] [Sl (eInt .i64) d q.2.2.2.2.2.1, Sl eStr f q.2.2.2.2.2.2.1, Sl ePr l q.2.2.2.2.2.2.2] (γ := Unit) (fun _ => .bool (decide (RightQ q))) (fun _ => True) (fun _ => []) := by
  have hlk : ∀ b1 b2, Go.SL.look (kindsM b1 b2) q.1 = some (.agg #[fnV 85, fnV 81]) := fun b1 b2 => by rw [hk]; exact look6 b1 b2
  have hT := tNamed_con q d f l hq.name
  have hR := rName_con q d f l
  have hi := right_iff6 hk
  have hS := sameReq_con (q.1, q.2.1, q.2.2.1, ⟨#[]⟩, q.2.2.2.2.1, q.2.2.2.2.2.1, q.2.2.2.2.2.2.1, q.2.2.2.2.2.2.2) (zeroQ q.1) (d) (f) (l) (.slice none 0 0) (.slice none 0 0) (.slice none 0 0) ⟨hq.size.1, hq.size.2.1, hq.size.2.2⟩ (zeroQ_size _)
  dsimp only at hS
  refine con_of Tryz.func12 rfl (dd rfl) fun w0 O0 => ?_
  refine c_seq (c_region ?_)
  refine o_step (s_box rfl (dd rfl) (fun b1 => ?_))
  refine oV vA ?_
  refine o_nil (c_seq ?_)
  refine c_joinR (γ := Nat × Nat × Nat × Nat) [(1, _), (2, _)] (fun _ => True) (fun g => [(3, ptr g.1), (4, .bool true)]) (fun g => [Blk g.1 77 [fnV 85, fnV 81], Blk b1 32 [.int .i64 q.1, .int .i64 q.2.1, .int .i64 q.2.2.1, .string q.2.2.2.1, .string q.2.2.2.2.1, d, f, l], Sl (eInt .i64) d q.2.2.2.2.2.1, Sl eStr f q.2.2.2.2.2.2.1, Sl ePr l q.2.2.2.2.2.2.2, Blk g.2.2.1 75 [fnV 81], Blk g.2.2.2 75 [fnV 82]]) (by repeat (first | exact trivial | refine ⟨rfl, ?_⟩)) ?_ ?_
  rotate_left
  · intro MEET
    skip
    refine c_held [BlkR b1 32 [.int .i64 q.1, .int .i64 q.2.1, .int .i64 q.2.2.1, .string q.2.2.2.1, .string q.2.2.2.2.1, d, f, l], Sl (eInt .i64) d q.2.2.2.2.2.1, Sl eStr f q.2.2.2.2.2.2.1, Sl ePr l q.2.2.2.2.2.2.2] rfl ?_
    refine aT 1 rfl (vF 0 Tryz.underlying32 ti3) ?_
    refine aT 2 rfl (vL lone3) ?_
    refine a_two 0 7 rfl rfl (by kernel_rfl) ?_ ?_
    · skip
      refine s_callf cl39 (kinds_con) rfl (dd rfl) (pXs (by repeat constructor)) (fun g _ => aK ?_)
      refine a_two 3 7 rfl rfl (by kernel_rfl) ?_ ?_
      · skip
        refine s_val (v_lookupS kInt Tryz.underlying79 Tryz.underlying3 ti77 rfl rfl (hX (by repeat constructor)) (hlk g.2.1 g.2.2)) (dd rfl) (aK ?_)
        refine aT 4 rfl vM ?_
        refine aT 5 rfl vE ?_
        refine aT 6 rfl vE ?_
        refine aO 7 rfl (s_alloc ti77 (dd rfl) (fun b3 => aK ?_))
        refine aS 8 rfl ti77 ?_
        refine aT 9 rfl vA ?_
        refine a_done (by kernel_rfl) ?_ _
        refine cU (MEET ((b3, g)) (trivial))
      · skip
        refine s_alloc ti77 (dd rfl) (fun b3 => aK ?_)
        refine aO 3 rfl (s_val (v_lookupS kInt Tryz.underlying79 Tryz.underlying3 ti77 rfl rfl (hX (by repeat constructor)) (hlk g.2.1 g.2.2)) (dd rfl) (aK ?_))
        refine aT 4 rfl vM ?_
        refine aT 5 rfl vE ?_
        refine aT 6 rfl vE ?_
        refine aS 8 rfl ti77 ?_
        refine aT 9 rfl vA ?_
        refine a_done (by kernel_rfl) ?_ _
        refine cU (MEET ((b3, g)) (trivial))
    · skip
      refine s_alloc ti77 (dd rfl) (fun b3 => aK ?_)
      refine aO 0 rfl (s_callf cl39 (kinds_con) rfl (dd rfl) (pXs (by repeat constructor)) (fun g _ => aK ?_))
      refine aO 3 rfl (s_val (v_lookupS kInt Tryz.underlying79 Tryz.underlying3 ti77 rfl rfl (hX (by repeat constructor)) (hlk g.2.1 g.2.2)) (dd rfl) (aK ?_))
      refine aT 4 rfl vM ?_
      refine aT 5 rfl vE ?_
      refine aT 6 rfl vE ?_
      refine aS 8 rfl ti77 ?_
      refine aT 9 rfl vA ?_
      refine a_done (by kernel_rfl) ?_ _
      refine cU (MEET ((b3, g)) (trivial))
  rintro ⟨b3, bm, bn, bg⟩ -
  dsimp only [List.cons_append, List.nil_append]
  refine c_seq ?_
  refine c_held [BlkR b3 77 [fnV 85, fnV 81], BlkR b1 32 [.int .i64 q.1, .int .i64 q.2.1, .int .i64 q.2.2.1, .string q.2.2.2.1, .string q.2.2.2.2.1, d, f, l], Sl (eInt .i64) d q.2.2.2.2.2.1, Sl eStr f q.2.2.2.2.2.2.1, Sl ePr l q.2.2.2.2.2.2.2] rfl ?_
  refine aT 0 rfl vM ?_
  refine aT 1 rfl vM ?_
  refine aN 2 rfl (vF 0 Tryz.underlying77 ti29) ?_
  refine aN 3 rfl (vL lone29) ?_
  refine aN 4 rfl (vW Tryz.underlying32 ti32) ?_
  by_cases g1 : (namedP q.2.2.2.1) = true
  · rw [g1] at hT
    refine aP 5 rfl (s_call_keep cl85 (hT) (first := []) (cap := []) rfl rfl rfl (dd rfl) (rX (by repeat constructor)) (fun _ => sX) (fun _ _ => aK ?_))
    refine aT 6 rfl vT ?_
    refine aT 7 rfl vM ?_
    refine a_know (s := 19) rfl (show _ = Value.bool true from rfl) ?_
    refine aN 8 rfl (vF 1 Tryz.underlying77 ti75) ?_
    refine aN 9 rfl (vL lone75) ?_
    refine aN 10 rfl (vW Tryz.underlying32 ti32) ?_
    refine aN 12 rfl (vF 0 Tryz.underlying32 ti3) ?_
    refine aN 13 rfl (vL lone3) ?_
    refine aN 14 rfl (v_buildS (places := [(0, 1), (1, 1), (2, 1), (3, 1), (4, 1), (5, 1), (6, 1), (7, 1)]) (cells := [_, .int .i64 0, .int .i64 0, .string ⟨#[]⟩, .string ⟨#[]⟩, .slice none 0 0, .slice none 0 0, .slice none 0 0]) Tryz.underlying32 ti32 (by kernel_rfl) rfl (by repeat (first | exact PartsC.nil | (apply PartsC.one (by first | exact OneC.lit rfl | exact OneC.sl (hX (by repeat constructor)) )) | (apply PartsC.lit rfl))) rfl) ?_
    refine aP 11 rfl (s_call_keep cl81 (hR) (first := []) (cap := []) rfl rfl rfl (dd rfl) (rX (by repeat constructor)) (fun _ => sX) (fun _ _ => aK ?_))
    refine aP 15 rfl (s_callf cl15 (hS) rfl (dd rfl) (pXs (by repeat constructor)) (fun _ _ => aK ?_))
    refine aT 16 rfl vT ?_
    refine aT 17 rfl vA ?_
    refine a_done (by kernel_rfl) ?_ _
    refine c_ret1 Tryz.func12 rfl rfl fun w O hS => ?_
    exact ⟨(), congrArg Value.bool (decide_eq_decide.2 (by rw [hi, g1]; simp)), trivial, trivial⟩
  · have g2 : (namedP q.2.2.2.1) = false := Bool.eq_false_iff.2 g1
    rw [g2] at hT
    refine aP 5 rfl (s_call_keep cl85 (hT) (first := []) (cap := []) rfl rfl rfl (dd rfl) (rX (by repeat constructor)) (fun _ => sX) (fun _ _ => aK ?_))
    refine aT 6 rfl vT ?_
    refine aT 7 rfl vM ?_
    refine a_know (s := 19) rfl (show _ = Value.bool false from rfl) ?_
    refine aX 8 rfl ?_
    refine aX 9 rfl ?_
    refine aX 10 rfl ?_
    refine aX 11 rfl ?_
    refine aX 12 rfl ?_
    refine aX 13 rfl ?_
    refine aX 14 rfl ?_
    refine aX 15 rfl ?_
    refine aT 16 rfl vQ ?_
    refine aT 17 rfl vA ?_
    refine a_done (by kernel_rfl) ?_ _
    refine c_ret1 Tryz.func12 rfl rfl fun w O hS => ?_
    exact ⟨(), congrArg Value.bool (decide_eq_false (by rw [hi, g2]; simp)).symm, trivial, trivial⟩
set_option maxRecDepth 100000 in
theorem right7_con (q : Rq9) (d f l : Value) (hk : q.1 = 7) (hq : FineQ q) : Con Tryz.prog 12 [.agg #[.int .i64 q.1, .int .i64 q.2.1, .int .i64 q.2.2.1, .string q.2.2.2.1, .string q.2.2.2.2.1, d, f, l]] [Sl (eInt .i64) d q.2.2.2.2.2.1, Sl eStr f q.2.2.2.2.2.2.1, Sl ePr l q.2.2.2.2.2.2.2] (γ := Unit) (fun _ => .bool (decide (RightQ q))) (fun _ => True) (fun _ => []) := by
  have hlk : ∀ b1 b2, Go.SL.look (kindsM b1 b2) q.1 = some (.agg #[fnV 83, fnV 84]) := fun b1 b2 => by rw [hk]; exact look7 b1 b2
  have hT := tNone_con q d f l
  have hR := rNone_con q d f l
  have hi := right_iff7 hk
  have hS := sameReq_con (q.1, q.2.1, q.2.2.1, q.2.2.2.1, q.2.2.2.2.1, q.2.2.2.2.2.1, q.2.2.2.2.2.2.1, q.2.2.2.2.2.2.2) (zeroQ q.1) (d) (f) (l) (.slice none 0 0) (.slice none 0 0) (.slice none 0 0) ⟨hq.size.1, hq.size.2.1, hq.size.2.2⟩ (zeroQ_size _)
  dsimp only at hS
  refine con_of Tryz.func12 rfl (dd rfl) fun w0 O0 => ?_
  refine c_seq (c_region ?_)
  refine o_step (s_box rfl (dd rfl) (fun b1 => ?_))
  refine oV vA ?_
  refine o_nil (c_seq ?_)
  refine c_joinR (γ := Nat × Nat × Nat × Nat) [(1, _), (2, _)] (fun _ => True) (fun g => [(3, ptr g.1), (4, .bool true)]) (fun g => [Blk g.1 77 [fnV 83, fnV 84], Blk b1 32 [.int .i64 q.1, .int .i64 q.2.1, .int .i64 q.2.2.1, .string q.2.2.2.1, .string q.2.2.2.2.1, d, f, l], Sl (eInt .i64) d q.2.2.2.2.2.1, Sl eStr f q.2.2.2.2.2.2.1, Sl ePr l q.2.2.2.2.2.2.2, Blk g.2.2.1 75 [fnV 81], Blk g.2.2.2 75 [fnV 82]]) (by repeat (first | exact trivial | refine ⟨rfl, ?_⟩)) ?_ ?_
  rotate_left
  · intro MEET
    skip
    refine c_held [BlkR b1 32 [.int .i64 q.1, .int .i64 q.2.1, .int .i64 q.2.2.1, .string q.2.2.2.1, .string q.2.2.2.2.1, d, f, l], Sl (eInt .i64) d q.2.2.2.2.2.1, Sl eStr f q.2.2.2.2.2.2.1, Sl ePr l q.2.2.2.2.2.2.2] rfl ?_
    refine aT 1 rfl (vF 0 Tryz.underlying32 ti3) ?_
    refine aT 2 rfl (vL lone3) ?_
    refine a_two 0 7 rfl rfl (by kernel_rfl) ?_ ?_
    · skip
      refine s_callf cl39 (kinds_con) rfl (dd rfl) (pXs (by repeat constructor)) (fun g _ => aK ?_)
      refine a_two 3 7 rfl rfl (by kernel_rfl) ?_ ?_
      · skip
        refine s_val (v_lookupS kInt Tryz.underlying79 Tryz.underlying3 ti77 rfl rfl (hX (by repeat constructor)) (hlk g.2.1 g.2.2)) (dd rfl) (aK ?_)
        refine aT 4 rfl vM ?_
        refine aT 5 rfl vE ?_
        refine aT 6 rfl vE ?_
        refine aO 7 rfl (s_alloc ti77 (dd rfl) (fun b3 => aK ?_))
        refine aS 8 rfl ti77 ?_
        refine aT 9 rfl vA ?_
        refine a_done (by kernel_rfl) ?_ _
        refine cU (MEET ((b3, g)) (trivial))
      · skip
        refine s_alloc ti77 (dd rfl) (fun b3 => aK ?_)
        refine aO 3 rfl (s_val (v_lookupS kInt Tryz.underlying79 Tryz.underlying3 ti77 rfl rfl (hX (by repeat constructor)) (hlk g.2.1 g.2.2)) (dd rfl) (aK ?_))
        refine aT 4 rfl vM ?_
        refine aT 5 rfl vE ?_
        refine aT 6 rfl vE ?_
        refine aS 8 rfl ti77 ?_
        refine aT 9 rfl vA ?_
        refine a_done (by kernel_rfl) ?_ _
        refine cU (MEET ((b3, g)) (trivial))
    · skip
      refine s_alloc ti77 (dd rfl) (fun b3 => aK ?_)
      refine aO 0 rfl (s_callf cl39 (kinds_con) rfl (dd rfl) (pXs (by repeat constructor)) (fun g _ => aK ?_))
      refine aO 3 rfl (s_val (v_lookupS kInt Tryz.underlying79 Tryz.underlying3 ti77 rfl rfl (hX (by repeat constructor)) (hlk g.2.1 g.2.2)) (dd rfl) (aK ?_))
      refine aT 4 rfl vM ?_
      refine aT 5 rfl vE ?_
      refine aT 6 rfl vE ?_
      refine aS 8 rfl ti77 ?_
      refine aT 9 rfl vA ?_
      refine a_done (by kernel_rfl) ?_ _
      refine cU (MEET ((b3, g)) (trivial))
  rintro ⟨b3, bm, bn, bg⟩ -
  dsimp only [List.cons_append, List.nil_append]
  refine c_seq ?_
  refine c_held [BlkR b3 77 [fnV 83, fnV 84], BlkR b1 32 [.int .i64 q.1, .int .i64 q.2.1, .int .i64 q.2.2.1, .string q.2.2.2.1, .string q.2.2.2.2.1, d, f, l], Sl (eInt .i64) d q.2.2.2.2.2.1, Sl eStr f q.2.2.2.2.2.2.1, Sl ePr l q.2.2.2.2.2.2.2] rfl ?_
  refine aT 0 rfl vM ?_
  refine aT 1 rfl vM ?_
  refine aN 2 rfl (vF 0 Tryz.underlying77 ti29) ?_
  refine aN 3 rfl (vL lone29) ?_
  refine aN 4 rfl (vW Tryz.underlying32 ti32) ?_
  refine aP 5 rfl (s_call_keep cl83 (hT) (first := []) (cap := []) rfl rfl rfl (dd rfl) (rX (by repeat constructor)) (fun _ => sX) (fun _ _ => aK ?_))
  refine aT 6 rfl vT ?_
  refine aT 7 rfl vM ?_
  refine a_know (s := 19) rfl (show _ = Value.bool true from rfl) ?_
  refine aN 8 rfl (vF 1 Tryz.underlying77 ti75) ?_
  refine aN 9 rfl (vL lone75) ?_
  refine aN 10 rfl (vW Tryz.underlying32 ti32) ?_
  refine aN 12 rfl (vF 0 Tryz.underlying32 ti3) ?_
  refine aN 13 rfl (vL lone3) ?_
  refine aN 14 rfl (v_buildS (places := [(0, 1), (1, 1), (2, 1), (3, 1), (4, 1), (5, 1), (6, 1), (7, 1)]) (cells := [_, .int .i64 0, .int .i64 0, .string ⟨#[]⟩, .string ⟨#[]⟩, .slice none 0 0, .slice none 0 0, .slice none 0 0]) Tryz.underlying32 ti32 (by kernel_rfl) rfl (by repeat (first | exact PartsC.nil | (apply PartsC.one (by first | exact OneC.lit rfl | exact OneC.sl (hX (by repeat constructor)) )) | (apply PartsC.lit rfl))) rfl) ?_
  refine aP 11 rfl (s_call_keep cl84 (hR) (first := []) (cap := []) rfl rfl rfl (dd rfl) (rX (by repeat constructor)) (fun _ => sX) (fun _ _ => aK ?_))
  refine aP 15 rfl (s_callf cl15 (hS) rfl (dd rfl) (pXs (by repeat constructor)) (fun _ _ => aK ?_))
  refine aT 16 rfl vT ?_
  refine aT 17 rfl vA ?_
  refine a_done (by kernel_rfl) ?_ _
  refine c_ret1 Tryz.func12 rfl rfl fun w O hS => ?_
  exact ⟨(), congrArg Value.bool (decide_eq_decide.2 (by rw [hi]; simp)), trivial, trivial⟩
set_option maxRecDepth 100000 in
theorem right8_con (q : Rq9) (d f l : Value) (hk : q.1 = 8) (hq : FineQ q) : Con Tryz.prog 12 [.agg #[.int .i64 q.1, .int .i64 q.2.1, .int .i64 q.2.2.1, .string q.2.2.2.1, .string q.2.2.2.2.1, d, f, l]] [Sl (eInt .i64) d q.2.2.2.2.2.1, Sl eStr f q.2.2.2.2.2.2.1, Sl ePr l q.2.2.2.2.2.2.2] (γ := Unit) (fun _ => .bool (decide (RightQ q))) (fun _ => True) (fun _ => []) := by
  have hlk : ∀ b1 b2, Go.SL.look (kindsM b1 b2) q.1 = some (.agg #[fnV 83, fnV 84]) := fun b1 b2 => by rw [hk]; exact look8 b1 b2
  have hT := tNone_con q d f l
  have hR := rNone_con q d f l
  have hi := right_iff8 hk
  have hS := sameReq_con (q.1, q.2.1, q.2.2.1, q.2.2.2.1, q.2.2.2.2.1, q.2.2.2.2.2.1, q.2.2.2.2.2.2.1, q.2.2.2.2.2.2.2) (zeroQ q.1) (d) (f) (l) (.slice none 0 0) (.slice none 0 0) (.slice none 0 0) ⟨hq.size.1, hq.size.2.1, hq.size.2.2⟩ (zeroQ_size _)
  dsimp only at hS
  refine con_of Tryz.func12 rfl (dd rfl) fun w0 O0 => ?_
  refine c_seq (c_region ?_)
  refine o_step (s_box rfl (dd rfl) (fun b1 => ?_))
  refine oV vA ?_
  refine o_nil (c_seq ?_)
  refine c_joinR (γ := Nat × Nat × Nat × Nat) [(1, _), (2, _)] (fun _ => True) (fun g => [(3, ptr g.1), (4, .bool true)]) (fun g => [Blk g.1 77 [fnV 83, fnV 84], Blk b1 32 [.int .i64 q.1, .int .i64 q.2.1, .int .i64 q.2.2.1, .string q.2.2.2.1, .string q.2.2.2.2.1, d, f, l], Sl (eInt .i64) d q.2.2.2.2.2.1, Sl eStr f q.2.2.2.2.2.2.1, Sl ePr l q.2.2.2.2.2.2.2, Blk g.2.2.1 75 [fnV 81], Blk g.2.2.2 75 [fnV 82]]) (by repeat (first | exact trivial | refine ⟨rfl, ?_⟩)) ?_ ?_
  rotate_left
  · intro MEET
    skip
    refine c_held [BlkR b1 32 [.int .i64 q.1, .int .i64 q.2.1, .int .i64 q.2.2.1, .string q.2.2.2.1, .string q.2.2.2.2.1, d, f, l], Sl (eInt .i64) d q.2.2.2.2.2.1, Sl eStr f q.2.2.2.2.2.2.1, Sl ePr l q.2.2.2.2.2.2.2] rfl ?_
    refine aT 1 rfl (vF 0 Tryz.underlying32 ti3) ?_
    refine aT 2 rfl (vL lone3) ?_
    refine a_two 0 7 rfl rfl (by kernel_rfl) ?_ ?_
    · skip
      refine s_callf cl39 (kinds_con) rfl (dd rfl) (pXs (by repeat constructor)) (fun g _ => aK ?_)
      refine a_two 3 7 rfl rfl (by kernel_rfl) ?_ ?_
      · skip
        refine s_val (v_lookupS kInt Tryz.underlying79 Tryz.underlying3 ti77 rfl rfl (hX (by repeat constructor)) (hlk g.2.1 g.2.2)) (dd rfl) (aK ?_)
        refine aT 4 rfl vM ?_
        refine aT 5 rfl vE ?_
        refine aT 6 rfl vE ?_
        refine aO 7 rfl (s_alloc ti77 (dd rfl) (fun b3 => aK ?_))
        refine aS 8 rfl ti77 ?_
        refine aT 9 rfl vA ?_
        refine a_done (by kernel_rfl) ?_ _
        refine cU (MEET ((b3, g)) (trivial))
      · skip
        refine s_alloc ti77 (dd rfl) (fun b3 => aK ?_)
        refine aO 3 rfl (s_val (v_lookupS kInt Tryz.underlying79 Tryz.underlying3 ti77 rfl rfl (hX (by repeat constructor)) (hlk g.2.1 g.2.2)) (dd rfl) (aK ?_))
        refine aT 4 rfl vM ?_
        refine aT 5 rfl vE ?_
        refine aT 6 rfl vE ?_
        refine aS 8 rfl ti77 ?_
        refine aT 9 rfl vA ?_
        refine a_done (by kernel_rfl) ?_ _
        refine cU (MEET ((b3, g)) (trivial))
    · skip
      refine s_alloc ti77 (dd rfl) (fun b3 => aK ?_)
      refine aO 0 rfl (s_callf cl39 (kinds_con) rfl (dd rfl) (pXs (by repeat constructor)) (fun g _ => aK ?_))
      refine aO 3 rfl (s_val (v_lookupS kInt Tryz.underlying79 Tryz.underlying3 ti77 rfl rfl (hX (by repeat constructor)) (hlk g.2.1 g.2.2)) (dd rfl) (aK ?_))
      refine aT 4 rfl vM ?_
      refine aT 5 rfl vE ?_
      refine aT 6 rfl vE ?_
      refine aS 8 rfl ti77 ?_
      refine aT 9 rfl vA ?_
      refine a_done (by kernel_rfl) ?_ _
      refine cU (MEET ((b3, g)) (trivial))
  rintro ⟨b3, bm, bn, bg⟩ -
  dsimp only [List.cons_append, List.nil_append]
  refine c_seq ?_
  refine c_held [BlkR b3 77 [fnV 83, fnV 84], BlkR b1 32 [.int .i64 q.1, .int .i64 q.2.1, .int .i64 q.2.2.1, .string q.2.2.2.1, .string q.2.2.2.2.1, d, f, l], Sl (eInt .i64) d q.2.2.2.2.2.1, Sl eStr f q.2.2.2.2.2.2.1, Sl ePr l q.2.2.2.2.2.2.2] rfl ?_
  refine aT 0 rfl vM ?_
  refine aT 1 rfl vM ?_
  refine aN 2 rfl (vF 0 Tryz.underlying77 ti29) ?_
  refine aN 3 rfl (vL lone29) ?_
  refine aN 4 rfl (vW Tryz.underlying32 ti32) ?_
  refine aP 5 rfl (s_call_keep cl83 (hT) (first := []) (cap := []) rfl rfl rfl (dd rfl) (rX (by repeat constructor)) (fun _ => sX) (fun _ _ => aK ?_))
  refine aT 6 rfl vT ?_
  refine aT 7 rfl vM ?_
  refine a_know (s := 19) rfl (show _ = Value.bool true from rfl) ?_
  refine aN 8 rfl (vF 1 Tryz.underlying77 ti75) ?_
  refine aN 9 rfl (vL lone75) ?_
  refine aN 10 rfl (vW Tryz.underlying32 ti32) ?_
  refine aN 12 rfl (vF 0 Tryz.underlying32 ti3) ?_
  refine aN 13 rfl (vL lone3) ?_
  refine aN 14 rfl (v_buildS (places := [(0, 1), (1, 1), (2, 1), (3, 1), (4, 1), (5, 1), (6, 1), (7, 1)]) (cells := [_, .int .i64 0, .int .i64 0, .string ⟨#[]⟩, .string ⟨#[]⟩, .slice none 0 0, .slice none 0 0, .slice none 0 0]) Tryz.underlying32 ti32 (by kernel_rfl) rfl (by repeat (first | exact PartsC.nil | (apply PartsC.one (by first | exact OneC.lit rfl | exact OneC.sl (hX (by repeat constructor)) )) | (apply PartsC.lit rfl))) rfl) ?_
  refine aP 11 rfl (s_call_keep cl84 (hR) (first := []) (cap := []) rfl rfl rfl (dd rfl) (rX (by repeat constructor)) (fun _ => sX) (fun _ _ => aK ?_))
  refine aP 15 rfl (s_callf cl15 (hS) rfl (dd rfl) (pXs (by repeat constructor)) (fun _ _ => aK ?_))
  refine aT 16 rfl vT ?_
  refine aT 17 rfl vA ?_
  refine a_done (by kernel_rfl) ?_ _
  refine c_ret1 Tryz.func12 rfl rfl fun w O hS => ?_
  exact ⟨(), congrArg Value.bool (decide_eq_decide.2 (by rw [hi]; simp)), trivial, trivial⟩
set_option maxRecDepth 100000 in
theorem right9_con (q : Rq9) (d f l : Value) (hk : q.1 = 9) (hq : FineQ q) : Con Tryz.prog 12 [.agg #[.int .i64 q.1, .int .i64 q.2.1, .int .i64 q.2.2.1, .string q.2.2.2.1, .string q.2.2.2.2.1, d, f, l]] [Sl (eInt .i64) d q.2.2.2.2.2.1, Sl eStr f q.2.2.2.2.2.2.1, Sl ePr l q.2.2.2.2.2.2.2] (γ := Unit) (fun _ => .bool (decide (RightQ q))) (fun _ => True) (fun _ => []) := by
  have hlk : ∀ b1 b2, Go.SL.look (kindsM b1 b2) q.1 = some (.agg #[fnV 85, fnV 81]) := fun b1 b2 => by rw [hk]; exact look9 b1 b2
  have hT := tNamed_con q d f l hq.name
  have hR := rName_con q d f l
  have hi := right_iff9 hk
  have hS := sameReq_con (q.1, q.2.1, q.2.2.1, ⟨#[]⟩, q.2.2.2.2.1, q.2.2.2.2.2.1, q.2.2.2.2.2.2.1, q.2.2.2.2.2.2.2) (zeroQ q.1) (d) (f) (l) (.slice none 0 0) (.slice none 0 0) (.slice none 0 0) ⟨hq.size.1, hq.size.2.1, hq.size.2.2⟩ (zeroQ_size _)
  dsimp only at hS
  refine con_of Tryz.func12 rfl (dd rfl) fun w0 O0 => ?_
  refine c_seq (c_region ?_)
  refine o_step (s_box rfl (dd rfl) (fun b1 => ?_))
  refine oV vA ?_
  refine o_nil (c_seq ?_)
  refine c_joinR (γ := Nat × Nat × Nat × Nat) [(1, _), (2, _)] (fun _ => True) (fun g => [(3, ptr g.1), (4, .bool true)]) (fun g => [Blk g.1 77 [fnV 85, fnV 81], Blk b1 32 [.int .i64 q.1, .int .i64 q.2.1, .int .i64 q.2.2.1, .string q.2.2.2.1, .string q.2.2.2.2.1, d, f, l], Sl (eInt .i64) d q.2.2.2.2.2.1, Sl eStr f q.2.2.2.2.2.2.1, Sl ePr l q.2.2.2.2.2.2.2, Blk g.2.2.1 75 [fnV 81], Blk g.2.2.2 75 [fnV 82]]) (by repeat (first | exact trivial | refine ⟨rfl, ?_⟩)) ?_ ?_
  rotate_left
  · intro MEET
    skip
    refine c_held [BlkR b1 32 [.int .i64 q.1, .int .i64 q.2.1, .int .i64 q.2.2.1, .string q.2.2.2.1, .string q.2.2.2.2.1, d, f, l], Sl (eInt .i64) d q.2.2.2.2.2.1, Sl eStr f q.2.2.2.2.2.2.1, Sl ePr l q.2.2.2.2.2.2.2] rfl ?_
    refine aT 1 rfl (vF 0 Tryz.underlying32 ti3) ?_
    refine aT 2 rfl (vL lone3) ?_
    refine a_two 0 7 rfl rfl (by kernel_rfl) ?_ ?_
    · skip
      refine s_callf cl39 (kinds_con) rfl (dd rfl) (pXs (by repeat constructor)) (fun g _ => aK ?_)
      refine a_two 3 7 rfl rfl (by kernel_rfl) ?_ ?_
      · skip
        refine s_val (v_lookupS kInt Tryz.underlying79 Tryz.underlying3 ti77 rfl rfl (hX (by repeat constructor)) (hlk g.2.1 g.2.2)) (dd rfl) (aK ?_)
        refine aT 4 rfl vM ?_
        refine aT 5 rfl vE ?_
        refine aT 6 rfl vE ?_
        refine aO 7 rfl (s_alloc ti77 (dd rfl) (fun b3 => aK ?_))
        refine aS 8 rfl ti77 ?_
        refine aT 9 rfl vA ?_
        refine a_done (by kernel_rfl) ?_ _
        refine cU (MEET ((b3, g)) (trivial))
      · skip
        refine s_alloc ti77 (dd rfl) (fun b3 => aK ?_)
        refine aO 3 rfl (s_val (v_lookupS kInt Tryz.underlying79 Tryz.underlying3 ti77 rfl rfl (hX (by repeat constructor)) (hlk g.2.1 g.2.2)) (dd rfl) (aK ?_))
        refine aT 4 rfl vM ?_
        refine aT 5 rfl vE ?_
        refine aT 6 rfl vE ?_
        refine aS 8 rfl ti77 ?_
        refine aT 9 rfl vA ?_
        refine a_done (by kernel_rfl) ?_ _
        refine cU (MEET ((b3, g)) (trivial))
    · skip
      refine s_alloc ti77 (dd rfl) (fun b3 => aK ?_)
      refine aO 0 rfl (s_callf cl39 (kinds_con) rfl (dd rfl) (pXs (by repeat constructor)) (fun g _ => aK ?_))
      refine aO 3 rfl (s_val (v_lookupS kInt Tryz.underlying79 Tryz.underlying3 ti77 rfl rfl (hX (by repeat constructor)) (hlk g.2.1 g.2.2)) (dd rfl) (aK ?_))
      refine aT 4 rfl vM ?_
      refine aT 5 rfl vE ?_
      refine aT 6 rfl vE ?_
      refine aS 8 rfl ti77 ?_
      refine aT 9 rfl vA ?_
      refine a_done (by kernel_rfl) ?_ _
      refine cU (MEET ((b3, g)) (trivial))
  rintro ⟨b3, bm, bn, bg⟩ -
  dsimp only [List.cons_append, List.nil_append]
  refine c_seq ?_
  refine c_held [BlkR b3 77 [fnV 85, fnV 81], BlkR b1 32 [.int .i64 q.1, .int .i64 q.2.1, .int .i64 q.2.2.1, .string q.2.2.2.1, .string q.2.2.2.2.1, d, f, l], Sl (eInt .i64) d q.2.2.2.2.2.1, Sl eStr f q.2.2.2.2.2.2.1, Sl ePr l q.2.2.2.2.2.2.2] rfl ?_
  refine aT 0 rfl vM ?_
  refine aT 1 rfl vM ?_
  refine aN 2 rfl (vF 0 Tryz.underlying77 ti29) ?_
  refine aN 3 rfl (vL lone29) ?_
  refine aN 4 rfl (vW Tryz.underlying32 ti32) ?_
  by_cases g1 : (namedP q.2.2.2.1) = true
  · rw [g1] at hT
    refine aP 5 rfl (s_call_keep cl85 (hT) (first := []) (cap := []) rfl rfl rfl (dd rfl) (rX (by repeat constructor)) (fun _ => sX) (fun _ _ => aK ?_))
    refine aT 6 rfl vT ?_
    refine aT 7 rfl vM ?_
    refine a_know (s := 19) rfl (show _ = Value.bool true from rfl) ?_
    refine aN 8 rfl (vF 1 Tryz.underlying77 ti75) ?_
    refine aN 9 rfl (vL lone75) ?_
    refine aN 10 rfl (vW Tryz.underlying32 ti32) ?_
    refine aN 12 rfl (vF 0 Tryz.underlying32 ti3) ?_
    refine aN 13 rfl (vL lone3) ?_
    refine aN 14 rfl (v_buildS (places := [(0, 1), (1, 1), (2, 1), (3, 1), (4, 1), (5, 1), (6, 1), (7, 1)]) (cells := [_, .int .i64 0, .int .i64 0, .string ⟨#[]⟩, .string ⟨#[]⟩, .slice none 0 0, .slice none 0 0, .slice none 0 0]) Tryz.underlying32 ti32 (by kernel_rfl) rfl (by repeat (first | exact PartsC.nil | (apply PartsC.one (by first | exact OneC.lit rfl | exact OneC.sl (hX (by repeat constructor)) )) | (apply PartsC.lit rfl))) rfl) ?_
    refine aP 11 rfl (s_call_keep cl81 (hR) (first := []) (cap := []) rfl rfl rfl (dd rfl) (rX (by repeat constructor)) (fun _ => sX) (fun _ _ => aK ?_))
    refine aP 15 rfl (s_callf cl15 (hS) rfl (dd rfl) (pXs (by repeat constructor)) (fun _ _ => aK ?_))
    refine aT 16 rfl vT ?_
    refine aT 17 rfl vA ?_
    refine a_done (by kernel_rfl) ?_ _
    refine c_ret1 Tryz.func12 rfl rfl fun w O hS => ?_
    exact ⟨(), congrArg Value.bool (decide_eq_decide.2 (by rw [hi, g1]; simp)), trivial, trivial⟩
  · have g2 : (namedP q.2.2.2.1) = false := Bool.eq_false_iff.2 g1
    rw [g2] at hT
    refine aP 5 rfl (s_call_keep cl85 (hT) (first := []) (cap := []) rfl rfl rfl (dd rfl) (rX (by repeat constructor)) (fun _ => sX) (fun _ _ => aK ?_))
    refine aT 6 rfl vT ?_
    refine aT 7 rfl vM ?_
    refine a_know (s := 19) rfl (show _ = Value.bool false from rfl) ?_
    refine aX 8 rfl ?_
    refine aX 9 rfl ?_
    refine aX 10 rfl ?_
    refine aX 11 rfl ?_
    refine aX 12 rfl ?_
    refine aX 13 rfl ?_
    refine aX 14 rfl ?_
    refine aX 15 rfl ?_
    refine aT 16 rfl vQ ?_
    refine aT 17 rfl vA ?_
    refine a_done (by kernel_rfl) ?_ _
    refine c_ret1 Tryz.func12 rfl rfl fun w O hS => ?_
    exact ⟨(), congrArg Value.bool (decide_eq_false (by rw [hi, g2]; simp)).symm, trivial, trivial⟩
set_option maxRecDepth 100000 in
theorem right10_con (q : Rq9) (d f l : Value) (hk : q.1 = 10) (hq : FineQ q) : Con Tryz.prog 12 [.agg #[.int .i64 q.1, .int .i64 q.2.1, .int .i64 q.2.2.1, .string q.2.2.2.1, .string q.2.2.2.2.1, d, f, l]] [Sl (eInt .i64) d q.2.2.2.2.2.1, Sl eStr f q.2.2.2.2.2.2.1, Sl ePr l q.2.2.2.2.2.2.2] (γ := Unit) (fun _ => .bool (decide (RightQ q))) (fun _ => True) (fun _ => []) := by
  have hlk : ∀ b1 b2, Go.SL.look (kindsM b1 b2) q.1 = some (.agg #[fnV 101, fnV 81]) := fun b1 b2 => by rw [hk]; exact look10 b1 b2
  have hT := tWatch_con q d f l hq.name
  have hR := rName_con q d f l
  have hi := right_iff10 hk
  have hS := sameReq_con (q.1, q.2.1, q.2.2.1, ⟨#[]⟩, q.2.2.2.2.1, q.2.2.2.2.2.1, q.2.2.2.2.2.2.1, q.2.2.2.2.2.2.2) (zeroQ q.1) (d) (f) (l) (.slice none 0 0) (.slice none 0 0) (.slice none 0 0) ⟨hq.size.1, hq.size.2.1, hq.size.2.2⟩ (zeroQ_size _)
  dsimp only at hS
  refine con_of Tryz.func12 rfl (dd rfl) fun w0 O0 => ?_
  refine c_seq (c_region ?_)
  refine o_step (s_box rfl (dd rfl) (fun b1 => ?_))
  refine oV vA ?_
  refine o_nil (c_seq ?_)
  refine c_joinR (γ := Nat × Nat × Nat × Nat) [(1, _), (2, _)] (fun _ => True) (fun g => [(3, ptr g.1), (4, .bool true)]) (fun g => [Blk g.1 77 [fnV 101, fnV 81], Blk b1 32 [.int .i64 q.1, .int .i64 q.2.1, .int .i64 q.2.2.1, .string q.2.2.2.1, .string q.2.2.2.2.1, d, f, l], Sl (eInt .i64) d q.2.2.2.2.2.1, Sl eStr f q.2.2.2.2.2.2.1, Sl ePr l q.2.2.2.2.2.2.2, Blk g.2.2.1 75 [fnV 81], Blk g.2.2.2 75 [fnV 82]]) (by repeat (first | exact trivial | refine ⟨rfl, ?_⟩)) ?_ ?_
  rotate_left
  · intro MEET
    skip
    refine c_held [BlkR b1 32 [.int .i64 q.1, .int .i64 q.2.1, .int .i64 q.2.2.1, .string q.2.2.2.1, .string q.2.2.2.2.1, d, f, l], Sl (eInt .i64) d q.2.2.2.2.2.1, Sl eStr f q.2.2.2.2.2.2.1, Sl ePr l q.2.2.2.2.2.2.2] rfl ?_
    refine aT 1 rfl (vF 0 Tryz.underlying32 ti3) ?_
    refine aT 2 rfl (vL lone3) ?_
    refine a_two 0 7 rfl rfl (by kernel_rfl) ?_ ?_
    · skip
      refine s_callf cl39 (kinds_con) rfl (dd rfl) (pXs (by repeat constructor)) (fun g _ => aK ?_)
      refine a_two 3 7 rfl rfl (by kernel_rfl) ?_ ?_
      · skip
        refine s_val (v_lookupS kInt Tryz.underlying79 Tryz.underlying3 ti77 rfl rfl (hX (by repeat constructor)) (hlk g.2.1 g.2.2)) (dd rfl) (aK ?_)
        refine aT 4 rfl vM ?_
        refine aT 5 rfl vE ?_
        refine aT 6 rfl vE ?_
        refine aO 7 rfl (s_alloc ti77 (dd rfl) (fun b3 => aK ?_))
        refine aS 8 rfl ti77 ?_
        refine aT 9 rfl vA ?_
        refine a_done (by kernel_rfl) ?_ _
        refine cU (MEET ((b3, g)) (trivial))
      · skip
        refine s_alloc ti77 (dd rfl) (fun b3 => aK ?_)
        refine aO 3 rfl (s_val (v_lookupS kInt Tryz.underlying79 Tryz.underlying3 ti77 rfl rfl (hX (by repeat constructor)) (hlk g.2.1 g.2.2)) (dd rfl) (aK ?_))
        refine aT 4 rfl vM ?_
        refine aT 5 rfl vE ?_
        refine aT 6 rfl vE ?_
        refine aS 8 rfl ti77 ?_
        refine aT 9 rfl vA ?_
        refine a_done (by kernel_rfl) ?_ _
        refine cU (MEET ((b3, g)) (trivial))
    · skip
      refine s_alloc ti77 (dd rfl) (fun b3 => aK ?_)
      refine aO 0 rfl (s_callf cl39 (kinds_con) rfl (dd rfl) (pXs (by repeat constructor)) (fun g _ => aK ?_))
      refine aO 3 rfl (s_val (v_lookupS kInt Tryz.underlying79 Tryz.underlying3 ti77 rfl rfl (hX (by repeat constructor)) (hlk g.2.1 g.2.2)) (dd rfl) (aK ?_))
      refine aT 4 rfl vM ?_
      refine aT 5 rfl vE ?_
      refine aT 6 rfl vE ?_
      refine aS 8 rfl ti77 ?_
      refine aT 9 rfl vA ?_
      refine a_done (by kernel_rfl) ?_ _
      refine cU (MEET ((b3, g)) (trivial))
  rintro ⟨b3, bm, bn, bg⟩ -
  dsimp only [List.cons_append, List.nil_append]
  refine c_seq ?_
  refine c_held [BlkR b3 77 [fnV 101, fnV 81], BlkR b1 32 [.int .i64 q.1, .int .i64 q.2.1, .int .i64 q.2.2.1, .string q.2.2.2.1, .string q.2.2.2.2.1, d, f, l], Sl (eInt .i64) d q.2.2.2.2.2.1, Sl eStr f q.2.2.2.2.2.2.1, Sl ePr l q.2.2.2.2.2.2.2] rfl ?_
  refine aT 0 rfl vM ?_
  refine aT 1 rfl vM ?_
  refine aN 2 rfl (vF 0 Tryz.underlying77 ti29) ?_
  refine aN 3 rfl (vL lone29) ?_
  refine aN 4 rfl (vW Tryz.underlying32 ti32) ?_
  by_cases g1 : (decide (q.2.2.2.1 = ⟨#[]⟩) || namedP q.2.2.2.1) = true
  · rw [g1] at hT
    refine aP 5 rfl (s_call_keep cl101 (hT) (first := []) (cap := []) rfl rfl rfl (dd rfl) (rX (by repeat constructor)) (fun _ => sX) (fun _ _ => aK ?_))
    refine aT 6 rfl vT ?_
    refine aT 7 rfl vM ?_
    refine a_know (s := 19) rfl (show _ = Value.bool true from rfl) ?_
    refine aN 8 rfl (vF 1 Tryz.underlying77 ti75) ?_
    refine aN 9 rfl (vL lone75) ?_
    refine aN 10 rfl (vW Tryz.underlying32 ti32) ?_
    refine aN 12 rfl (vF 0 Tryz.underlying32 ti3) ?_
    refine aN 13 rfl (vL lone3) ?_
    refine aN 14 rfl (v_buildS (places := [(0, 1), (1, 1), (2, 1), (3, 1), (4, 1), (5, 1), (6, 1), (7, 1)]) (cells := [_, .int .i64 0, .int .i64 0, .string ⟨#[]⟩, .string ⟨#[]⟩, .slice none 0 0, .slice none 0 0, .slice none 0 0]) Tryz.underlying32 ti32 (by kernel_rfl) rfl (by repeat (first | exact PartsC.nil | (apply PartsC.one (by first | exact OneC.lit rfl | exact OneC.sl (hX (by repeat constructor)) )) | (apply PartsC.lit rfl))) rfl) ?_
    refine aP 11 rfl (s_call_keep cl81 (hR) (first := []) (cap := []) rfl rfl rfl (dd rfl) (rX (by repeat constructor)) (fun _ => sX) (fun _ _ => aK ?_))
    refine aP 15 rfl (s_callf cl15 (hS) rfl (dd rfl) (pXs (by repeat constructor)) (fun _ _ => aK ?_))
    refine aT 16 rfl vT ?_
    refine aT 17 rfl vA ?_
    refine a_done (by kernel_rfl) ?_ _
    refine c_ret1 Tryz.func12 rfl rfl fun w O hS => ?_
    exact ⟨(), congrArg Value.bool (decide_eq_decide.2 (by rw [hi, g1]; simp)), trivial, trivial⟩
  · have g2 : (decide (q.2.2.2.1 = ⟨#[]⟩) || namedP q.2.2.2.1) = false := Bool.eq_false_iff.2 g1
    rw [g2] at hT
    refine aP 5 rfl (s_call_keep cl101 (hT) (first := []) (cap := []) rfl rfl rfl (dd rfl) (rX (by repeat constructor)) (fun _ => sX) (fun _ _ => aK ?_))
    refine aT 6 rfl vT ?_
    refine aT 7 rfl vM ?_
    refine a_know (s := 19) rfl (show _ = Value.bool false from rfl) ?_
    refine aX 8 rfl ?_
    refine aX 9 rfl ?_
    refine aX 10 rfl ?_
    refine aX 11 rfl ?_
    refine aX 12 rfl ?_
    refine aX 13 rfl ?_
    refine aX 14 rfl ?_
    refine aX 15 rfl ?_
    refine aT 16 rfl vQ ?_
    refine aT 17 rfl vA ?_
    refine a_done (by kernel_rfl) ?_ _
    refine c_ret1 Tryz.func12 rfl rfl fun w O hS => ?_
    exact ⟨(), congrArg Value.bool (decide_eq_false (by rw [hi, g2]; simp)).symm, trivial, trivial⟩
set_option maxRecDepth 100000 in
theorem right11_con (q : Rq9) (d f l : Value) (hk : q.1 = 11) (hq : FineQ q) : Con Tryz.prog 12 [.agg #[.int .i64 q.1, .int .i64 q.2.1, .int .i64 q.2.2.1, .string q.2.2.2.1, .string q.2.2.2.2.1, d, f, l]] [Sl (eInt .i64) d q.2.2.2.2.2.1, Sl eStr f q.2.2.2.2.2.2.1, Sl ePr l q.2.2.2.2.2.2.2] (γ := Unit) (fun _ => .bool (decide (RightQ q))) (fun _ => True) (fun _ => []) := by
  have hlk : ∀ b1 b2, Go.SL.look (kindsM b1 b2) q.1 = some (.agg #[fnV 83, fnV 84]) := fun b1 b2 => by rw [hk]; exact look11 b1 b2
  have hT := tNone_con q d f l
  have hR := rNone_con q d f l
  have hi := right_iff11 hk
  have hS := sameReq_con (q.1, q.2.1, q.2.2.1, q.2.2.2.1, q.2.2.2.2.1, q.2.2.2.2.2.1, q.2.2.2.2.2.2.1, q.2.2.2.2.2.2.2) (zeroQ q.1) (d) (f) (l) (.slice none 0 0) (.slice none 0 0) (.slice none 0 0) ⟨hq.size.1, hq.size.2.1, hq.size.2.2⟩ (zeroQ_size _)
  dsimp only at hS
  refine con_of Tryz.func12 rfl (dd rfl) fun w0 O0 => ?_
  refine c_seq (c_region ?_)
  refine o_step (s_box rfl (dd rfl) (fun b1 => ?_))
  refine oV vA ?_
  refine o_nil (c_seq ?_)
  refine c_joinR (γ := Nat × Nat × Nat × Nat) [(1, _), (2, _)] (fun _ => True) (fun g => [(3, ptr g.1), (4, .bool true)]) (fun g => [Blk g.1 77 [fnV 83, fnV 84], Blk b1 32 [.int .i64 q.1, .int .i64 q.2.1, .int .i64 q.2.2.1, .string q.2.2.2.1, .string q.2.2.2.2.1, d, f, l], Sl (eInt .i64) d q.2.2.2.2.2.1, Sl eStr f q.2.2.2.2.2.2.1, Sl ePr l q.2.2.2.2.2.2.2, Blk g.2.2.1 75 [fnV 81], Blk g.2.2.2 75 [fnV 82]]) (by repeat (first | exact trivial | refine ⟨rfl, ?_⟩)) ?_ ?_
  rotate_left
  · intro MEET
    skip
    refine c_held [BlkR b1 32 [.int .i64 q.1, .int .i64 q.2.1, .int .i64 q.2.2.1, .string q.2.2.2.1, .string q.2.2.2.2.1, d, f, l], Sl (eInt .i64) d q.2.2.2.2.2.1, Sl eStr f q.2.2.2.2.2.2.1, Sl ePr l q.2.2.2.2.2.2.2] rfl ?_
    refine aT 1 rfl (vF 0 Tryz.underlying32 ti3) ?_
    refine aT 2 rfl (vL lone3) ?_
    refine a_two 0 7 rfl rfl (by kernel_rfl) ?_ ?_
    · skip
      refine s_callf cl39 (kinds_con) rfl (dd rfl) (pXs (by repeat constructor)) (fun g _ => aK ?_)
      refine a_two 3 7 rfl rfl (by kernel_rfl) ?_ ?_
      · skip
        refine s_val (v_lookupS kInt Tryz.underlying79 Tryz.underlying3 ti77 rfl rfl (hX (by repeat constructor)) (hlk g.2.1 g.2.2)) (dd rfl) (aK ?_)
        refine aT 4 rfl vM ?_
        refine aT 5 rfl vE ?_
        refine aT 6 rfl vE ?_
        refine aO 7 rfl (s_alloc ti77 (dd rfl) (fun b3 => aK ?_))
        refine aS 8 rfl ti77 ?_
        refine aT 9 rfl vA ?_
        refine a_done (by kernel_rfl) ?_ _
        refine cU (MEET ((b3, g)) (trivial))
      · skip
        refine s_alloc ti77 (dd rfl) (fun b3 => aK ?_)
        refine aO 3 rfl (s_val (v_lookupS kInt Tryz.underlying79 Tryz.underlying3 ti77 rfl rfl (hX (by repeat constructor)) (hlk g.2.1 g.2.2)) (dd rfl) (aK ?_))
        refine aT 4 rfl vM ?_
        refine aT 5 rfl vE ?_
        refine aT 6 rfl vE ?_
        refine aS 8 rfl ti77 ?_
        refine aT 9 rfl vA ?_
        refine a_done (by kernel_rfl) ?_ _
        refine cU (MEET ((b3, g)) (trivial))
    · skip
      refine s_alloc ti77 (dd rfl) (fun b3 => aK ?_)
      refine aO 0 rfl (s_callf cl39 (kinds_con) rfl (dd rfl) (pXs (by repeat constructor)) (fun g _ => aK ?_))
      refine aO 3 rfl (s_val (v_lookupS kInt Tryz.underlying79 Tryz.underlying3 ti77 rfl rfl (hX (by repeat constructor)) (hlk g.2.1 g.2.2)) (dd rfl) (aK ?_))
      refine aT 4 rfl vM ?_
      refine aT 5 rfl vE ?_
      refine aT 6 rfl vE ?_
      refine aS 8 rfl ti77 ?_
      refine aT 9 rfl vA ?_
      refine a_done (by kernel_rfl) ?_ _
      refine cU (MEET ((b3, g)) (trivial))
  rintro ⟨b3, bm, bn, bg⟩ -
  dsimp only [List.cons_append, List.nil_append]
  refine c_seq ?_
  refine c_held [BlkR b3 77 [fnV 83, fnV 84], BlkR b1 32 [.int .i64 q.1, .int .i64 q.2.1, .int .i64 q.2.2.1, .string q.2.2.2.1, .string q.2.2.2.2.1, d, f, l], Sl (eInt .i64) d q.2.2.2.2.2.1, Sl eStr f q.2.2.2.2.2.2.1, Sl ePr l q.2.2.2.2.2.2.2] rfl ?_
  refine aT 0 rfl vM ?_
  refine aT 1 rfl vM ?_
  refine aN 2 rfl (vF 0 Tryz.underlying77 ti29) ?_
  refine aN 3 rfl (vL lone29) ?_
  refine aN 4 rfl (vW Tryz.underlying32 ti32) ?_
  refine aP 5 rfl (s_call_keep cl83 (hT) (first := []) (cap := []) rfl rfl rfl (dd rfl) (rX (by repeat constructor)) (fun _ => sX) (fun _ _ => aK ?_))
  refine aT 6 rfl vT ?_
  refine aT 7 rfl vM ?_
  refine a_know (s := 19) rfl (show _ = Value.bool true from rfl) ?_
  refine aN 8 rfl (vF 1 Tryz.underlying77 ti75) ?_
  refine aN 9 rfl (vL lone75) ?_
  refine aN 10 rfl (vW Tryz.underlying32 ti32) ?_
  refine aN 12 rfl (vF 0 Tryz.underlying32 ti3) ?_
  refine aN 13 rfl (vL lone3) ?_
  refine aN 14 rfl (v_buildS (places := [(0, 1), (1, 1), (2, 1), (3, 1), (4, 1), (5, 1), (6, 1), (7, 1)]) (cells := [_, .int .i64 0, .int .i64 0, .string ⟨#[]⟩, .string ⟨#[]⟩, .slice none 0 0, .slice none 0 0, .slice none 0 0]) Tryz.underlying32 ti32 (by kernel_rfl) rfl (by repeat (first | exact PartsC.nil | (apply PartsC.one (by first | exact OneC.lit rfl | exact OneC.sl (hX (by repeat constructor)) )) | (apply PartsC.lit rfl))) rfl) ?_
  refine aP 11 rfl (s_call_keep cl84 (hR) (first := []) (cap := []) rfl rfl rfl (dd rfl) (rX (by repeat constructor)) (fun _ => sX) (fun _ _ => aK ?_))
  refine aP 15 rfl (s_callf cl15 (hS) rfl (dd rfl) (pXs (by repeat constructor)) (fun _ _ => aK ?_))
  refine aT 16 rfl vT ?_
  refine aT 17 rfl vA ?_
  refine a_done (by kernel_rfl) ?_ _
  refine c_ret1 Tryz.func12 rfl rfl fun w O hS => ?_
  exact ⟨(), congrArg Value.bool (decide_eq_decide.2 (by rw [hi]; simp)), trivial, trivial⟩
set_option maxRecDepth 100000 in
theorem right12_con (q : Rq9) (d f l : Value) (hk : q.1 = 12) (hq : FineQ q) : Con Tryz.prog 12 [.agg #[.int .i64 q.1, .int .i64 q.2.1, .int .i64 q.2.2.1, .string q.2.2.2.1, .string q.2.2.2.2.1, d, f, l]] [Sl (eInt .i64) d q.2.2.2.2.2.1, Sl eStr f q.2.2.2.2.2.2.1, Sl ePr l q.2.2.2.2.2.2.2] (γ := Unit) (fun _ => .bool (decide (RightQ q))) (fun _ => True) (fun _ => []) := by
  have hlk : ∀ b1 b2, Go.SL.look (kindsM b1 b2) q.1 = some (.agg #[fnV 102, fnV 103]) := fun b1 b2 => by rw [hk]; exact look12 b1 b2
  have hT := tTake_con q d f l
  have hR := rTake_con q d f l
  have hi := right_iff12 hk
  have hS := sameReq_con (q.1, q.2.1, 0, q.2.2.2.1, q.2.2.2.2.1, q.2.2.2.2.2.1, q.2.2.2.2.2.2.1, q.2.2.2.2.2.2.2) (zeroQ q.1) (d) (f) (l) (.slice none 0 0) (.slice none 0 0) (.slice none 0 0) ⟨hq.size.1, hq.size.2.1, hq.size.2.2⟩ (zeroQ_size _)
  dsimp only at hS
  refine con_of Tryz.func12 rfl (dd rfl) fun w0 O0 => ?_
  refine c_seq (c_region ?_)
  refine o_step (s_box rfl (dd rfl) (fun b1 => ?_))
  refine oV vA ?_
  refine o_nil (c_seq ?_)
  refine c_joinR (γ := Nat × Nat × Nat × Nat) [(1, _), (2, _)] (fun _ => True) (fun g => [(3, ptr g.1), (4, .bool true)]) (fun g => [Blk g.1 77 [fnV 102, fnV 103], Blk b1 32 [.int .i64 q.1, .int .i64 q.2.1, .int .i64 q.2.2.1, .string q.2.2.2.1, .string q.2.2.2.2.1, d, f, l], Sl (eInt .i64) d q.2.2.2.2.2.1, Sl eStr f q.2.2.2.2.2.2.1, Sl ePr l q.2.2.2.2.2.2.2, Blk g.2.2.1 75 [fnV 81], Blk g.2.2.2 75 [fnV 82]]) (by repeat (first | exact trivial | refine ⟨rfl, ?_⟩)) ?_ ?_
  rotate_left
  · intro MEET
    skip
    refine c_held [BlkR b1 32 [.int .i64 q.1, .int .i64 q.2.1, .int .i64 q.2.2.1, .string q.2.2.2.1, .string q.2.2.2.2.1, d, f, l], Sl (eInt .i64) d q.2.2.2.2.2.1, Sl eStr f q.2.2.2.2.2.2.1, Sl ePr l q.2.2.2.2.2.2.2] rfl ?_
    refine aT 1 rfl (vF 0 Tryz.underlying32 ti3) ?_
    refine aT 2 rfl (vL lone3) ?_
    refine a_two 0 7 rfl rfl (by kernel_rfl) ?_ ?_
    · skip
      refine s_callf cl39 (kinds_con) rfl (dd rfl) (pXs (by repeat constructor)) (fun g _ => aK ?_)
      refine a_two 3 7 rfl rfl (by kernel_rfl) ?_ ?_
      · skip
        refine s_val (v_lookupS kInt Tryz.underlying79 Tryz.underlying3 ti77 rfl rfl (hX (by repeat constructor)) (hlk g.2.1 g.2.2)) (dd rfl) (aK ?_)
        refine aT 4 rfl vM ?_
        refine aT 5 rfl vE ?_
        refine aT 6 rfl vE ?_
        refine aO 7 rfl (s_alloc ti77 (dd rfl) (fun b3 => aK ?_))
        refine aS 8 rfl ti77 ?_
        refine aT 9 rfl vA ?_
        refine a_done (by kernel_rfl) ?_ _
        refine cU (MEET ((b3, g)) (trivial))
      · skip
        refine s_alloc ti77 (dd rfl) (fun b3 => aK ?_)
        refine aO 3 rfl (s_val (v_lookupS kInt Tryz.underlying79 Tryz.underlying3 ti77 rfl rfl (hX (by repeat constructor)) (hlk g.2.1 g.2.2)) (dd rfl) (aK ?_))
        refine aT 4 rfl vM ?_
        refine aT 5 rfl vE ?_
        refine aT 6 rfl vE ?_
        refine aS 8 rfl ti77 ?_
        refine aT 9 rfl vA ?_
        refine a_done (by kernel_rfl) ?_ _
        refine cU (MEET ((b3, g)) (trivial))
    · skip
      refine s_alloc ti77 (dd rfl) (fun b3 => aK ?_)
      refine aO 0 rfl (s_callf cl39 (kinds_con) rfl (dd rfl) (pXs (by repeat constructor)) (fun g _ => aK ?_))
      refine aO 3 rfl (s_val (v_lookupS kInt Tryz.underlying79 Tryz.underlying3 ti77 rfl rfl (hX (by repeat constructor)) (hlk g.2.1 g.2.2)) (dd rfl) (aK ?_))
      refine aT 4 rfl vM ?_
      refine aT 5 rfl vE ?_
      refine aT 6 rfl vE ?_
      refine aS 8 rfl ti77 ?_
      refine aT 9 rfl vA ?_
      refine a_done (by kernel_rfl) ?_ _
      refine cU (MEET ((b3, g)) (trivial))
  rintro ⟨b3, bm, bn, bg⟩ -
  dsimp only [List.cons_append, List.nil_append]
  refine c_seq ?_
  refine c_held [BlkR b3 77 [fnV 102, fnV 103], BlkR b1 32 [.int .i64 q.1, .int .i64 q.2.1, .int .i64 q.2.2.1, .string q.2.2.2.1, .string q.2.2.2.2.1, d, f, l], Sl (eInt .i64) d q.2.2.2.2.2.1, Sl eStr f q.2.2.2.2.2.2.1, Sl ePr l q.2.2.2.2.2.2.2] rfl ?_
  refine aT 0 rfl vM ?_
  refine aT 1 rfl vM ?_
  refine aN 2 rfl (vF 0 Tryz.underlying77 ti29) ?_
  refine aN 3 rfl (vL lone29) ?_
  refine aN 4 rfl (vW Tryz.underlying32 ti32) ?_
  by_cases g1 : (decide (0 ≤ q.2.2.1 ∧ q.2.2.1 ≤ 100)) = true
  · rw [g1] at hT
    refine aP 5 rfl (s_call_keep cl102 (hT) (first := []) (cap := []) rfl rfl rfl (dd rfl) (rX (by repeat constructor)) (fun _ => sX) (fun _ _ => aK ?_))
    refine aT 6 rfl vT ?_
    refine aT 7 rfl vM ?_
    refine a_know (s := 19) rfl (show _ = Value.bool true from rfl) ?_
    refine aN 8 rfl (vF 1 Tryz.underlying77 ti75) ?_
    refine aN 9 rfl (vL lone75) ?_
    refine aN 10 rfl (vW Tryz.underlying32 ti32) ?_
    refine aN 12 rfl (vF 0 Tryz.underlying32 ti3) ?_
    refine aN 13 rfl (vL lone3) ?_
    refine aN 14 rfl (v_buildS (places := [(0, 1), (1, 1), (2, 1), (3, 1), (4, 1), (5, 1), (6, 1), (7, 1)]) (cells := [_, .int .i64 0, .int .i64 0, .string ⟨#[]⟩, .string ⟨#[]⟩, .slice none 0 0, .slice none 0 0, .slice none 0 0]) Tryz.underlying32 ti32 (by kernel_rfl) rfl (by repeat (first | exact PartsC.nil | (apply PartsC.one (by first | exact OneC.lit rfl | exact OneC.sl (hX (by repeat constructor)) )) | (apply PartsC.lit rfl))) rfl) ?_
    refine aP 11 rfl (s_call_keep cl103 (hR) (first := []) (cap := []) rfl rfl rfl (dd rfl) (rX (by repeat constructor)) (fun _ => sX) (fun _ _ => aK ?_))
    refine aP 15 rfl (s_callf cl15 (hS) rfl (dd rfl) (pXs (by repeat constructor)) (fun _ _ => aK ?_))
    refine aT 16 rfl vT ?_
    refine aT 17 rfl vA ?_
    refine a_done (by kernel_rfl) ?_ _
    refine c_ret1 Tryz.func12 rfl rfl fun w O hS => ?_
    exact ⟨(), congrArg Value.bool (decide_eq_decide.2 (by rw [hi, g1]; simp)), trivial, trivial⟩
  · have g2 : (decide (0 ≤ q.2.2.1 ∧ q.2.2.1 ≤ 100)) = false := Bool.eq_false_iff.2 g1
    rw [g2] at hT
    refine aP 5 rfl (s_call_keep cl102 (hT) (first := []) (cap := []) rfl rfl rfl (dd rfl) (rX (by repeat constructor)) (fun _ => sX) (fun _ _ => aK ?_))
    refine aT 6 rfl vT ?_
    refine aT 7 rfl vM ?_
    refine a_know (s := 19) rfl (show _ = Value.bool false from rfl) ?_
    refine aX 8 rfl ?_
    refine aX 9 rfl ?_
    refine aX 10 rfl ?_
    refine aX 11 rfl ?_
    refine aX 12 rfl ?_
    refine aX 13 rfl ?_
    refine aX 14 rfl ?_
    refine aX 15 rfl ?_
    refine aT 16 rfl vQ ?_
    refine aT 17 rfl vA ?_
    refine a_done (by kernel_rfl) ?_ _
    refine c_ret1 Tryz.func12 rfl rfl fun w O hS => ?_
    exact ⟨(), congrArg Value.bool (decide_eq_false (by rw [hi, g2]; simp)).symm, trivial, trivial⟩
set_option maxRecDepth 100000 in
theorem rightN_con (q : Rq9) (d f l : Value) (hk : q.1 < 0 ∨ 12 < q.1) : Con Tryz.prog 12 [.agg #[.int .i64 q.1, .int .i64 q.2.1, .int .i64 q.2.2.1, .string q.2.2.2.1, .string q.2.2.2.2.1, d, f, l]] [Sl (eInt .i64) d q.2.2.2.2.2.1, Sl eStr f q.2.2.2.2.2.2.1, Sl ePr l q.2.2.2.2.2.2.2] (γ := Unit) (fun _ => .bool (decide (RightQ q))) (fun _ => True) (fun _ => []) := by
  have hlk : ∀ b1 b2, Go.SL.look (kindsM b1 b2) q.1 = none := fun b1 b2 => lookN b1 b2 hk
  refine con_of Tryz.func12 rfl (dd rfl) fun w0 O0 => ?_
  refine c_seq (c_region ?_)
  refine o_step (s_box rfl (dd rfl) (fun b1 => ?_))
  refine oV vA ?_
  refine o_nil (c_seq ?_)
  refine c_joinR (γ := Unit) [(1, _), (2, _)] (fun _ => True) (fun g => [(4, .bool false)]) (fun g => [Blk b1 32 [.int .i64 q.1, .int .i64 q.2.1, .int .i64 q.2.2.1, .string q.2.2.2.1, .string q.2.2.2.2.1, d, f, l]]) (by repeat (first | exact trivial | refine ⟨rfl, ?_⟩)) ?_ ?_
  rotate_left
  · intro MEET
    skip
    refine c_held [BlkR b1 32 [.int .i64 q.1, .int .i64 q.2.1, .int .i64 q.2.2.1, .string q.2.2.2.1, .string q.2.2.2.2.1, d, f, l], Sl (eInt .i64) d q.2.2.2.2.2.1, Sl eStr f q.2.2.2.2.2.2.1, Sl ePr l q.2.2.2.2.2.2.2] rfl ?_
    refine aT 1 rfl (vF 0 Tryz.underlying32 ti3) ?_
    refine aT 2 rfl (vL lone3) ?_
    refine a_two 0 7 rfl rfl (by kernel_rfl) ?_ ?_
    · skip
      refine s_callf cl39 (kinds_con) rfl (dd rfl) (pXs (by repeat constructor)) (fun g _ => aK ?_)
      refine a_two 3 7 rfl rfl (by kernel_rfl) ?_ ?_
      · skip
        refine s_val (v_lookupN kInt Tryz.underlying79 Tryz.underlying3 ti77 rfl rfl (hX (by repeat constructor)) (hlk g.2.1 g.2.2)) (dd rfl) (aK ?_)
        refine aT 4 rfl vM ?_
        refine aT 5 rfl vE ?_
        refine aT 6 rfl vE ?_
        refine aO 7 rfl (s_alloc ti77 (dd rfl) (fun b3 => aK ?_))
        refine aS 8 rfl ti77 ?_
        refine aT 9 rfl vA ?_
        refine a_done (by kernel_rfl) ?_ _
        refine cU (MEET (()) (trivial))
      · skip
        refine s_alloc ti77 (dd rfl) (fun b3 => aK ?_)
        refine aO 3 rfl (s_val (v_lookupN kInt Tryz.underlying79 Tryz.underlying3 ti77 rfl rfl (hX (by repeat constructor)) (hlk g.2.1 g.2.2)) (dd rfl) (aK ?_))
        refine aT 4 rfl vM ?_
        refine aT 5 rfl vE ?_
        refine aT 6 rfl vE ?_
        refine aS 8 rfl ti77 ?_
        refine aT 9 rfl vA ?_
        refine a_done (by kernel_rfl) ?_ _
        refine cU (MEET (()) (trivial))
    · skip
      refine s_alloc ti77 (dd rfl) (fun b3 => aK ?_)
      refine aO 0 rfl (s_callf cl39 (kinds_con) rfl (dd rfl) (pXs (by repeat constructor)) (fun g _ => aK ?_))
      refine aO 3 rfl (s_val (v_lookupN kInt Tryz.underlying79 Tryz.underlying3 ti77 rfl rfl (hX (by repeat constructor)) (hlk g.2.1 g.2.2)) (dd rfl) (aK ?_))
      refine aT 4 rfl vM ?_
      refine aT 5 rfl vE ?_
      refine aT 6 rfl vE ?_
      refine aS 8 rfl ti77 ?_
      refine aT 9 rfl vA ?_
      refine a_done (by kernel_rfl) ?_ _
      refine cU (MEET (()) (trivial))
  rintro - -
  dsimp only [List.cons_append, List.nil_append]
  refine c_seq ?_
  refine c_held [BlkR b1 32 [.int .i64 q.1, .int .i64 q.2.1, .int .i64 q.2.2.1, .string q.2.2.2.1, .string q.2.2.2.2.1, d, f, l]] rfl ?_
  refine aT 0 rfl vM ?_
  refine aT 1 rfl vM ?_
  refine aX 2 rfl ?_
  refine aX 3 rfl ?_
  refine aX 4 rfl ?_
  refine aX 5 rfl ?_
  refine aT 6 rfl vQ ?_
  refine aT 7 rfl vM ?_
  refine aX 8 rfl ?_
  refine aX 9 rfl ?_
  refine aX 10 rfl ?_
  refine aX 11 rfl ?_
  refine aX 12 rfl ?_
  refine aX 13 rfl ?_
  refine aX 14 rfl ?_
  refine aX 15 rfl ?_
  refine aT 16 rfl vQ ?_
  refine aT 17 rfl vA ?_
  refine a_done (by kernel_rfl) ?_ _
  refine c_ret1 Tryz.func12 rfl rfl fun w O hS => ?_
  exact ⟨(), congrArg Value.bool (decide_eq_false (right_none hk)).symm, trivial, trivial⟩
theorem reqRight_con (q : Rq9) (d f l : Value) (hq : FineQ q) : Con Tryz.prog 12 [.agg #[.int .i64 q.1, .int .i64 q.2.1, .int .i64 q.2.2.1, .string q.2.2.2.1, .string q.2.2.2.2.1, d, f, l]] [Sl (eInt .i64) d q.2.2.2.2.2.1, Sl eStr f q.2.2.2.2.2.2.1, Sl ePr l q.2.2.2.2.2.2.2] (γ := Unit) (fun _ => .bool (decide (RightQ q))) (fun _ => True) (fun _ => []) := by
  by_cases hn : q.1 < 0 ∨ 12 < q.1
  · exact rightN_con q d f l hn
  have h : q.1 = 0 ∨ q.1 = 1 ∨ q.1 = 2 ∨ q.1 = 3 ∨ q.1 = 4 ∨ q.1 = 5 ∨ q.1 = 6 ∨ q.1 = 7 ∨ q.1 = 8 ∨ q.1 = 9 ∨ q.1 = 10 ∨ q.1 = 11 ∨ q.1 = 12 := by omega
  rcases h with h | h | h | h | h | h | h | h | h | h | h | h | h
  · exact right0_con q d f l h hq
  · exact right1_con q d f l h hq
  · exact right2_con q d f l h hq
  · exact right3_con q d f l h hq
  · exact right4_con q d f l h hq
  · exact right5_con q d f l h hq
  · exact right6_con q d f l h hq
  · exact right7_con q d f l h hq
  · exact right8_con q d f l h hq
  · exact right9_con q d f l h hq
  · exact right10_con q d f l h hq
  · exact right11_con q d f l h hq
  · exact right12_con q d f l h hq
end Go.Proofs.YtlfehnnmpkohkaaGreatDoor
/- Chapter 16: which requests may be, as the document asks. -/
namespace Go.Proofs.YtlfehnnmpkohkaaGreatDoor
open Go Go.Lib
def needI (k : Int) : Bool := decide (k = 1 ∨ k = 2 ∨ k = 3 ∨ k = 12)
def needN (k : Int) : Bool := decide (k = 5 ∨ k = 6 ∨ k = 9 ∨ k = 10)
def needF (k : Int) : Bool := decide (k = 1 ∨ k = 2 ∨ k = 4 ∨ k = 5)
/-- What a kind needs, by the field's name. -/
def needsV (fd : ByteArray) (k : Int) : Bool :=
  if fd = ⟨#[98, 97, 115, 101]⟩ ∨ fd = ⟨#[108]⟩ then decide (k = 0) else if fd = ⟨#[110, 111, 116, 101]⟩ ∨ fd = ⟨#[100, 101, 112, 115]⟩ then decide (k = 1) else if fd = ⟨#[105, 100]⟩ then needI k else if fd = ⟨#[110, 97, 109, 101]⟩ then needN k else needF k
def bad1 (q : Rq9) : Prop := q.1 < 0 ∨ 12 < q.1 ∨ q.2.1 < 0 ∨ 1099511627776 < q.2.1 ∨ 24 < q.2.2.2.2.2.2.2.length ∨ ¬ q.2.2.2.2.2.2.2.all rightP = true ∨ ¬ lineP q.2.2.2.2.1 = true ∨ 8 < q.2.2.2.2.2.1.length ∨ 8 < q.2.2.2.2.2.2.1.length
def bad2 (q : Rq9) : Prop := q.2.2.2.1 ≠ ⟨#[]⟩ ∧ ¬ namedP q.2.2.2.1 = true
def bad3 (q : Rq9) : Prop := (q.2.1 ≠ 0 ∧ q.1 ≠ 0) ∨ (q.2.2.1 ≠ 0 ∧ ¬ needI q.1 = true) ∨ (q.2.2.2.1 ≠ ⟨#[]⟩ ∧ ¬ needN q.1 = true) ∨ (q.2.2.2.2.1 ≠ ⟨#[]⟩ ∧ q.1 ≠ 1)
def bad4 (q : Rq9) : Prop := (0 < q.2.2.2.2.2.1.length ∧ q.1 ≠ 1) ∨ (0 < q.2.2.2.2.2.2.1.length ∧ ¬ needF q.1 = true) ∨ ¬ (0 < q.2.2.2.2.2.2.2.length ↔ q.1 = 0)
instance (q : Rq9) : Decidable (bad1 q) := by unfold bad1; infer_instance
instance (q : Rq9) : Decidable (bad2 q) := by unfold bad2; infer_instance
instance (q : Rq9) : Decidable (bad3 q) := by unfold bad3; infer_instance
instance (q : Rq9) : Decidable (bad4 q) := by unfold bad4; infer_instance
end Go.Proofs.YtlfehnnmpkohkaaGreatDoor
/- Chapter 16: which requests may be: the document's way. -/
namespace Go.Proofs.YtlfehnnmpkohkaaGreatDoor
open Go Go.SL Go.Lib
attribute [local irreducible] Cfg Kont StepK Val Con Qops Any Sl Own Blk BlkR Rd Pu ExA AllA Has Pick Ent Elem Beside Callable TI Lone OwnO AndA
end Go.Proofs.YtlfehnnmpkohkaaGreatDoor
/- Chapter 16: which requests may be: the document's walk. -/
namespace Go.Proofs.YtlfehnnmpkohkaaGreatDoor
open Go Go.SL Go.Lib
attribute [local irreducible] Cfg Kont StepK Val Con Qops Any Sl Own Blk BlkR Rd Pu ExA AllA Has Pick Ent Elem Beside Callable TI Lone OwnO AndA
end Go.Proofs.YtlfehnnmpkohkaaGreatDoor
/- Chapter 16: the bytes of requests and responses: the program's way. -/
namespace Go.Proofs.YtlfehnnmpkohkaaGreatDoor
open Go Go.SL Go.Lib
abbrev rqC (q : Rq9) (d f l : Value) : List Value := [.int .i64 q.1, .int .i64 q.2.1, .int .i64 q.2.2.1, .string q.2.2.2.1, .string q.2.2.2.2.1, d, f, l]
abbrev rsC (s : Rs9) (l i t n : Value) : List Value := [.int .i64 s.1, .int .i64 s.2.1, l, i, t, n]
def I64 (n : Int) : Prop := -9223372036854775808 ≤ n ∧ n ≤ 9223372036854775807
/-- Requests, and responses, that can be counted. -/
structure CountQ (q : Rq9) : Prop where
  kind : I64 q.1
  base : I64 q.2.1
  id : I64 q.2.2.1
  deps : q.2.2.2.2.2.1.length ≤ 1000000 ∧ ∀ n ∈ q.2.2.2.2.2.1, I64 n
  files : q.2.2.2.2.2.2.1.length ≤ 1000000
  prims : q.2.2.2.2.2.2.2.length ≤ 1000000 ∧ ∀ p ∈ q.2.2.2.2.2.2.2, CountP p
structure CountS (s : Rs9) : Prop where
  code : I64 s.1
  version : I64 s.2.1
  prims : s.2.2.1.length ≤ 1000000 ∧ ∀ p ∈ s.2.2.1, CountP p
  ids : s.2.2.2.1.length ≤ 1000000 ∧ ∀ n ∈ s.2.2.2.1, I64 n
  lines : s.2.2.2.2.1.length ≤ 1000000
  notes : s.2.2.2.2.2.length ≤ 1000000 ∧ ∀ n ∈ s.2.2.2.2.2, I64 n.1 ∧ n.2.1.length ≤ 1000000
attribute [local irreducible] Cfg Kont StepK Val Con Qops Any Sl Own Blk BlkR Rd Pu ExA AllA Has Pick Ent Elem Beside Callable TI Lone OwnO AndA
set_option maxRecDepth 100000 in
theorem numbers_con (b : Nat) (v u : Value) (l : List UInt8) (xs : List Int) (hx : xs.length ≤ 1000000) (hc : ∀ n ∈ xs, I64 n) (hl : l.length + (rowB xs).length ≤ 100000000000000) : Con Tryz.prog 52 [ptr b, u] [Blk b 89 [v], Own eByte 5 v l, G3, Sl (eInt .i64) u xs] (γ := Value) (fun _ => .tuple #[]) (fun _ => True) (fun g => [Blk b 89 [g], Own eByte 5 g (l ++ rowB xs)]) := by
  unfold rowB at *
  have hnum : (manyB numB xs).length = (numB xs.length).length + ((xs.map numB).flatten).length := by unfold manyB; simp
  refine con_of Tryz.func52 rfl (dd rfl) fun w0 O0 => ?_
  refine c_seq (c_region ?_)
  iterate 2 refine oV vM ?_
  refine oV ((by first | exact v_len_form Tryz.underlying22 rfl | exact v_len_sl Tryz.underlying22 rfl (hX (by repeat constructor)))) ?_
  refine oC cl50 (num_con b v l xs.length (by omega) (by omega)) fun v1 _ => ?_
  refine o_nil (c_seq (c_region ?_))
  refine oV vM ?_
  refine oV ((by first | exact v_len_form Tryz.underlying22 rfl | exact v_len_sl Tryz.underlying22 rfl (hX (by repeat constructor)))) ?_
  refine oV vM ?_
  refine o_nil (c_block ?_)
  rw [show l ++ numB xs.length = l ++ (numB xs.length ++ ((xs.take 0).map numB).flatten) by simp]
  refine c_loopR (γ := Nat × Value) [(0, _), (10, _), (11, _)] (fun g => xs.length - g.1) (fun g => g.1 ≤ xs.length) (fun g => [(12, .int .i64 g.1)]) (fun g => [Blk b 89 [g.2], Own eByte 5 g.2 (l ++ (numB xs.length ++ ((xs.take g.1).map numB).flatten)), G3, Sl (eInt .i64) u xs]) ((0, v1)) (Nat.zero_le _) (by repeat (first | exact trivial | refine ⟨rfl, ?_⟩)) (eX (by repeat constructor)) ?_
  rintro ⟨k, r⟩ hk IH
  dsimp only at hk ⊢
  try dsimp only [List.cons_append, List.nil_append]
  refine c_seq (c_region ?_)
  refine oV (v_lt rfl rfl) ?_
  refine o_nil (c_seq ?_)
  refine c_cond_p rfl (fun hlt => ?_) (fun hlt => ?_)
  · have hk' : k < xs.length := by omega
    have hfp := flat_part numB hk'
    refine c_skip (c_seq (c_block (c_seq (c_region ?_))))
    refine oV ((by first | exact v_indexAddrN Tryz.underlying22 ti3 rfl rfl (hX (by repeat constructor)) (by omega) | exact v_indexAddr Tryz.underlying22 ti3 rfl rfl (hX (by repeat constructor)) (by omega))) ?_
    refine oV (v_load_int lone3 rfl (by repeat (first | exact Elem.sl (List.getElem?_eq_getElem (by omega)) | exact Elem.own (List.getElem?_eq_getElem (by omega)) | exact Elem.ownO (List.getElem?_eq_getElem (by omega)) | apply Elem.there))) ?_
    refine oV vA ?_
    refine o_nil (c_region ?_)
    iterate 2 refine oV vM ?_
    refine oC cl50 (num_con b r (l ++ (numB xs.length ++ ((xs.take k).map numB).flatten)) xs[k] (hc _ (List.getElem_mem hk')) (by simp only [List.length_append]; omega)) fun v2 _ => ?_
    refine o_nil (c_inBlock (c_region ?_))
    refine oV ((by first | exact v_add64 rfl rfl (by omega) | exact v_add rfl rfl)) ?_
    refine oV vM ?_
    refine o_nil ?_
    rw [List.append_assoc, List.append_assoc, ← flat_next numB hk']
    refine cU (IH ((k + 1, v2)) (by first | omega | (dsimp only; omega)) (by dsimp only; omega))
  · have hke : k = xs.length := by omega
    refine c_exit rfl ?_
    refine c_end0 Tryz.func52 rfl fun w O hS => ?_
    exact ⟨r, rfl, trivial, by unfold manyB; rw [hke, List.take_length] at hS; exact Ent.get hS (eX (by repeat constructor))⟩
set_option maxRecDepth 100000 in
theorem pack_con (q : Rq9) (d f l : Value) (hq : CountQ q) (hl : (reqB q).length ≤ 100000000000000) : Con Tryz.prog 18 [.agg (rqC q d f l).toArray] [Sl (eInt .i64) d q.2.2.2.2.2.1, Sl eStr f q.2.2.2.2.2.2.1, Sl ePr l q.2.2.2.2.2.2.2, G3] (γ := Value) (fun g => g) (fun _ => True) (fun g => [Own eByte 5 g (reqB q)]) := by
  obtain ⟨k, bs, i, n, t, dl, fl, pl⟩ := q
  obtain ⟨h1, h2, h3, ⟨h4, h4'⟩, h5, h6, h6'⟩ := hq
  dsimp only [rqC] at h1 h2 h3 h4 h4' h5 h6 h6' ⊢
  unfold I64 at h1 h2 h3
  have hle : (reqB (k, bs, i, n, t, dl, fl, pl)).length = (numB k).length + (numB bs).length + (numB i).length + (textB n).length + (textB t).length + (rowB dl).length + (textsB fl).length + (primsB pl).length := by unfold reqB; simp only [List.length_append]
  have c1 := fun b => num_con b (.slice none 0 0) [] k h1 (by simp only [List.length_nil]; omega)
  rw [List.nil_append] at c1
  refine con_of Tryz.func18 rfl (dd rfl) fun w0 O0 => ?_
  refine c_seq (c_region ?_)
  refine o_step (s_box rfl (dd rfl) (fun b1 => ?_))
  refine oV vA ?_
  refine o_nil (c_seq (c_region ?_))
  refine o_step (s_alloc ti89 (dd rfl) (fun b3 => ?_))
  refine o_nil (c_seq (c_region ?_))
  refine oV (vF 0 Tryz.underlying32 ti3) ?_
  refine oV (vL lone3) ?_
  refine oC cl50 (c1 b3) fun v1 _ => ?_
  refine o_nil (c_seq (c_region ?_))
  refine oV (vF 1 Tryz.underlying32 ti3) ?_
  refine oV (vL lone3) ?_
  refine oC cl50 (num_con b3 v1 (numB k) bs h2 (by omega)) fun v2 _ => ?_
  refine o_nil (c_seq (c_region ?_))
  refine oV (vF 2 Tryz.underlying32 ti3) ?_
  refine oV (vL lone3) ?_
  refine oC cl50 (num_con b3 v2 (numB k ++ numB bs) i h3 (by simp only [List.length_append]; omega)) fun v3 _ => ?_
  refine o_nil (c_seq (c_region ?_))
  refine oV (vF 3 Tryz.underlying32 ti9) ?_
  refine oV (vL lone9) ?_
  refine oC cl51 (text_con b3 v3 (numB k ++ numB bs ++ numB i) n (by simp only [List.length_append]; omega)) fun v4 _ => ?_
  refine o_nil (c_seq (c_region ?_))
  refine oV (vF 4 Tryz.underlying32 ti9) ?_
  refine oV (vL lone9) ?_
  refine oC cl51 (text_con b3 v4 (numB k ++ numB bs ++ numB i ++ textB n) t (by simp only [List.length_append]; omega)) fun v5 _ => ?_
  refine o_nil (c_seq (c_region ?_))
  refine oV (vF 5 Tryz.underlying32 ti22) ?_
  refine oV (vL lone22) ?_
  refine oC cl52 (numbers_con b3 v5 d (numB k ++ numB bs ++ numB i ++ textB n ++ textB t) dl h4 h4' (by simp only [List.length_append]; omega)) fun v6 _ => ?_
  refine o_nil (c_seq (c_region ?_))
  refine oV (vF 6 Tryz.underlying32 ti23) ?_
  refine oV (vL lone23) ?_
  refine oC cl53 (texts_con b3 v6 f (numB k ++ numB bs ++ numB i ++ textB n ++ textB t ++ rowB dl) fl (by omega) (by simp only [List.length_append]; omega)) fun v7 _ => ?_
  refine o_nil (c_seq (c_region ?_))
  refine oV (vF 7 Tryz.underlying32 ti30) ?_
  refine oV (vL lone30) ?_
  refine oC cl54 (prims_con b3 v7 l (numB k ++ numB bs ++ numB i ++ textB n ++ textB t ++ rowB dl ++ textsB fl) pl (by omega) h6' (by simp only [List.length_append]; omega)) fun v8 _ => ?_
  refine o_nil (c_seq (c_region ?_))
  refine oC cl55 (bytes_con b3 v8 (reqB (k, bs, i, n, t, dl, fl, pl)) (by omega)) fun v9 _ => ?_
  refine oV vA ?_
  refine o_nil ?_
  refine c_ret1 Tryz.func18 rfl rfl fun w O hS => ?_
  exact ⟨v9, rfl, trivial, Ent.get hS (eX (by repeat constructor))⟩
theorem resB_len (s : Rs9) : (resB s).length = (numB s.1).length + (numB s.2.1).length + (primsB s.2.2.1).length + (rowB s.2.2.2.1).length + (textsB s.2.2.2.2.1).length + ((numB s.2.2.2.2.2.length).length + ((s.2.2.2.2.2.map noteB).flatten).length) := by unfold resB manyB; simp only [List.length_append]
set_option maxRecDepth 100000 in
theorem packRes_con (s : Rs9) (l i t n : Value) (hs : CountS s) (hl : (resB s).length ≤ 100000000000000) : Con Tryz.prog 26 [.agg (rsC s l i t n).toArray] [Sl ePr l s.2.2.1, Sl (eInt .i64) i s.2.2.2.1, Sl eStr t s.2.2.2.2.1, Sl eNt n s.2.2.2.2.2, G3] (γ := Value) (fun g => g) (fun _ => True) (fun g => [Own eByte 5 g (resB s)]) := by
  obtain ⟨c, ver, pl, il, tl, nl⟩ := s
  obtain ⟨h1, h2, ⟨h3, h3'⟩, ⟨h4, h4'⟩, h5, h6, h6'⟩ := hs
  have hle := resB_len (c, ver, pl, il, tl, nl)
  dsimp only [rsC] at h1 h2 h3 h3' h4 h4' h5 h6 h6' hle ⊢
  unfold I64 at h1 h2
  obtain ⟨base, hbase⟩ : ∃ base, base = numB c ++ numB ver ++ primsB pl ++ rowB il ++ textsB tl := ⟨_, rfl⟩
  have hbl : base.length = (numB c).length + (numB ver).length + (primsB pl).length + (rowB il).length + (textsB tl).length := by rw [hbase]; simp only [List.length_append]
  have hfull : resB (c, ver, pl, il, tl, nl) = base ++ (numB nl.length ++ (nl.map noteB).flatten) := by rw [hbase]; rfl
  have c1 := fun b => num_con b (.slice none 0 0) [] c h1 (by simp only [List.length_nil]; omega)
  rw [List.nil_append] at c1
  refine con_of Tryz.func26 rfl (dd rfl) fun w0 O0 => ?_
  refine c_seq (c_region ?_)
  refine o_step (s_box rfl (dd rfl) (fun b1 => ?_))
  refine oV vA ?_
  refine o_nil (c_seq (c_region ?_))
  refine o_step (s_alloc ti89 (dd rfl) (fun b3 => ?_))
  refine o_nil (c_seq (c_region ?_))
  refine oV (vF 0 Tryz.underlying55 ti3) ?_
  refine oV (vL lone3) ?_
  refine oC cl50 (c1 b3) fun v1 _ => ?_
  refine o_nil (c_seq (c_region ?_))
  refine oV (vF 1 Tryz.underlying55 ti3) ?_
  refine oV (vL lone3) ?_
  refine oC cl50 (num_con b3 v1 (numB c) ver h2 (by omega)) fun v2 _ => ?_
  refine o_nil (c_seq (c_region ?_))
  refine oV (vF 2 Tryz.underlying55 ti30) ?_
  refine oV (vL lone30) ?_
  refine oC cl54 (prims_con b3 v2 l (numB c ++ numB ver) pl (by omega) h3' (by simp only [List.length_append]; omega)) fun v3 _ => ?_
  refine o_nil (c_seq (c_region ?_))
  refine oV (vF 3 Tryz.underlying55 ti22) ?_
  refine oV (vL lone22) ?_
  refine oC cl52 (numbers_con b3 v3 i (numB c ++ numB ver ++ primsB pl) il h4 h4' (by simp only [List.length_append]; omega)) fun v4 _ => ?_
  refine o_nil (c_seq (c_region ?_))
  refine oV (vF 4 Tryz.underlying55 ti23) ?_
  refine oV (vL lone23) ?_
  refine oC cl53 (texts_con b3 v4 t (numB c ++ numB ver ++ primsB pl ++ rowB il) tl (by omega) (by simp only [List.length_append]; omega)) fun v5 _ => ?_
  refine o_nil (c_seq (c_region ?_))
  refine oV (vF 5 Tryz.underlying55 ti53) ?_
  refine oV (vL lone53) ?_
  refine oV ((by first | exact v_len_form Tryz.underlying53 rfl | exact v_len_sl Tryz.underlying53 rfl (hX (by repeat constructor)))) ?_
  rw [← hbase]
  refine oC cl50 (num_con b3 v5 base nl.length (by omega) (by omega)) fun v6 _ => ?_
  refine o_nil (c_seq (c_seq (c_region ?_)))
  refine oV (vF 5 Tryz.underlying55 ti53) ?_
  refine oV (vL lone53) ?_
  refine oV ((by first | exact v_len_form Tryz.underlying53 rfl | exact v_len_sl Tryz.underlying53 rfl (hX (by repeat constructor)))) ?_
  refine oV vM ?_
  refine o_nil (c_block ?_)
  rw [show base ++ numB nl.length = base ++ (numB nl.length ++ ((nl.take 0).map noteB).flatten) by simp]
  refine c_loopR (γ := Nat × Value) [(2, _), (3, _), (26, _), (27, _)] (fun g => nl.length - g.1) (fun g => g.1 ≤ nl.length) (fun g => [(28, .int .i64 g.1)]) (fun g => [Blk b3 89 [g.2], Own eByte 5 g.2 (base ++ (numB nl.length ++ ((nl.take g.1).map noteB).flatten)), G3, Sl eNt n nl]) ((0, v6)) (Nat.zero_le _) (by repeat (first | exact trivial | refine ⟨rfl, ?_⟩)) (eX (by repeat constructor)) ?_
  rintro ⟨k, r⟩ hk IH
  dsimp only at hk ⊢
  try dsimp only [List.cons_append, List.nil_append]
  refine c_seq (c_region ?_)
  refine oV (v_lt rfl rfl) ?_
  refine o_nil (c_seq ?_)
  refine c_cond_p rfl (fun hlt => ?_) (fun hlt => ?_)
  · have hk' : k < nl.length := by omega
    have hfp := flat_part noteB hk'
    obtain ⟨hn1, hn2⟩ := h6' _ (List.getElem_mem hk')
    have hnb : (noteB nl[k]).length = (numB nl[k].1).length + (flagB nl[k].2.2).length + (textsB nl[k].2.1).length := by unfold noteB; simp only [List.length_append]
    obtain ⟨pre, hpre⟩ : ∃ pre, pre = base ++ (numB nl.length ++ ((nl.take k).map noteB).flatten) := ⟨_, rfl⟩
    have hpl : pre.length = base.length + ((numB nl.length).length + ((nl.take k).map noteB).flatten.length) := by rw [hpre]; simp only [List.length_append]
    have hnx : pre ++ numB nl[k].1 ++ flagB nl[k].2.2 ++ textsB nl[k].2.1 = base ++ (numB nl.length ++ ((nl.take (k + 1)).map noteB).flatten) := by
      rw [flat_next noteB hk', hpre]; unfold noteB; simp only [List.append_assoc]
    rw [← hpre]
    refine c_skip (c_seq (c_block (c_seq (c_region ?_))))
    refine oV ((by first | exact v_indexAddrN Tryz.underlying53 ti72 rfl rfl (hX (by repeat constructor)) (by omega) | exact v_indexAddr Tryz.underlying53 ti72 rfl rfl (hX (by repeat constructor)) (by omega))) ?_
    refine o_step (s_load_shape ⟨_, Tryz.underlying72⟩ ti72 rfl (dd rfl) (by repeat (first|exact el1 (by omega)|exact el2 (by omega)|exact el3 (by omega)|apply Elem.there)) (nt_open) (fun g => ?_))
    refine o_step (s_alloc ti72 (dd rfl) (fun b5 => ?_))
    refine o_step (s_store_all ti72 rfl rfl (by first | exact CellsV.lit rfl | exact CellsV.one (by first | exact OneC.lit rfl | exact OneC.sl (hX (by repeat constructor)) )) (by repeat (first | exact OneAll.nil | (refine OneAll.cons ?_ ?_; · first | exact OneC.lit rfl | exact OneC.sl (hX (by repeat constructor)) ) | exact OneAll.rd (hX (by repeat constructor)))) rfl (pB (by repeat constructor)) rfl (?_))
    refine o_nil (c_seq (c_region ?_))
    refine oV (vF 0 Tryz.underlying72 ti3) ?_
    refine oV (vL lone3) ?_
    refine oC cl50 (num_con b3 r pre nl[k].1 hn1 (by omega)) fun r1 _ => ?_
    refine o_nil (c_seq (c_region ?_))
    refine oV (vF 2 Tryz.underlying72 ti4) ?_
    refine oV (vL lone4) ?_
    refine oC cl74 (flag_con b3 r1 (pre ++ numB nl[k].1) nl[k].2.2 (by simp only [List.length_append]; omega)) fun r2 _ => ?_
    refine o_nil (c_region ?_)
    refine oV (vF 1 Tryz.underlying72 ti23) ?_
    refine oV (vL lone23) ?_
    refine oC cl53 (texts_con b3 r2 g (pre ++ numB nl[k].1 ++ flagB nl[k].2.2) nl[k].2.1 (by omega) (by simp only [List.length_append]; omega)) fun r3 _ => ?_
    refine o_nil (c_inBlock (c_region ?_))
    refine oV ((by first | exact v_add64 rfl rfl (by omega) | exact v_add rfl rfl)) ?_
    refine oV vM ?_
    refine o_nil ?_
    rw [hnx]
    refine cU (IH ((k + 1, r3)) (by first | omega | (dsimp only; omega)) (by dsimp only; omega))
  · have hke : k = nl.length := by omega
    have hall : base ++ (numB nl.length ++ ((nl.take k).map noteB).flatten) = resB (c, ver, pl, il, tl, nl) := by rw [hke, List.take_length, hfull]
    rw [hall]
    refine c_exit rfl ?_
    refine c_seq (c_region ?_)
    refine oC cl55 (bytes_con b3 r (resB (c, ver, pl, il, tl, nl)) (by omega)) fun v9 _ => ?_
    refine oV vA ?_
    refine o_nil ?_
    refine c_ret1 Tryz.func26 rfl rfl fun w O hS => ?_
    exact ⟨v9, rfl, trivial, Ent.get hS (eX (by repeat constructor))⟩
end Go.Proofs.YtlfehnnmpkohkaaGreatDoor
/- Chapter 16: sizes of what is read. -/
namespace Go.Proofs.YtlfehnnmpkohkaaGreatDoor
open Go Go.Lib
theorem takeRep_step {n k : Nat} {s : St9} {out : List Int} (hk : k < n) : takeRep (n - k) s out = takeRep (n - (k + 1)) (takeNum s).1 (out ++ [(takeNum s).2]) := by
  rw [show n - k = (n - (k + 1)) + 1 by omega, takeRep]
theorem takeRep_end {n k : Nat} {s : St9} {out : List Int} (hk : n ≤ k) : takeRep (n - k) s out = (s, out) := by
  rw [show n - k = 0 by omega]; rfl
section
variable {α : Type} {take : St9 → St9 × α}
theorem repG_step {n k : Nat} {s : St9} {out : List α} (hk : k < n) : repG take (n - k) s out = repG take (n - (k + 1)) (take s).1 (out ++ [(take s).2]) := by
  rw [show n - k = (n - (k + 1)) + 1 by omega, repG]
theorem repG_end {n k : Nat} {s : St9} {out : List α} (hk : n ≤ k) : repG take (n - k) s out = (s, out) := by
  rw [show n - k = 0 by omega]; rfl
theorem repG_len : ∀ (k : Nat) (s : St9) (out : List α), (repG take k s out).2.length = out.length + k
  | 0, _, _ => rfl
  | k + 1, s, out => by rw [repG, repG_len k, List.length_append]; simp; omega
theorem repG_goes (hg : GoesP take) : ∀ (k : Nat) (s : St9) (out : List α), ∃ j, j ≤ s.1.length ∧ (repG take k s out).1.1 = s.1.drop j
  | 0, s, _ => ⟨0, Nat.zero_le _, rfl⟩
  | k + 1, s, out => by
    rw [repG]
    exact goes_trans (a := take s) (b := repG take k (take s).1 (out ++ [(take s).2])) (hg s) (repG_goes hg k _ _)
theorem repG_ok {ok : α → Prop} (hg : GoesP take) (ho : ∀ s, s.1.length ≤ big9 → ok (take s).2) : ∀ (k : Nat) (s : St9) (out : List α), s.1.length ≤ big9 → (∀ x ∈ out, ok x) → ∀ x ∈ (repG take k s out).2, ok x
  | 0, _, _, _, h => h
  | k + 1, s, out, hs, h => by
    rw [repG]
    refine repG_ok hg ho k _ _ (Nat.le_trans (goes_len hg s) hs) fun x hx => ?_
    rcases List.mem_append.1 hx with h1 | h1
    · exact h x h1
    · rw [List.mem_singleton.1 h1]; exact ho s hs
theorem manyP9_goes (hg : GoesP take) (m : Int) : GoesP (manyP9 take m) := fun s => goes_trans (a := takeNum s) (b := manyP9 take m s) (goes_num s) (repG_goes hg _ _ _)
theorem manyP9_len {m : Int} {n : Nat} {s : St9} (hm : m ≤ n) : (manyP9 take m s).2.length ≤ n := by
  unfold manyP9
  rw [repG_len]
  simp only [List.length_nil]
  omega
theorem manyP9_ok {ok : α → Prop} (hg : GoesP take) (ho : ∀ s, s.1.length ≤ big9 → ok (take s).2) {m : Int} {s : St9} (hs : s.1.length ≤ big9) : ∀ x ∈ (manyP9 take m s).2, ok x :=
  repG_ok hg ho _ _ _ (Nat.le_trans (goes_len goes_num s) hs) fun x hx => by cases hx
end
theorem goes_row (m : Int) : GoesP (takeRowP m) := fun s => by rw [rowP_G]; exact manyP9_goes goes_num m s
theorem row_len {m : Int} {n : Nat} {s : St9} (hm : m ≤ n) : (takeRowP m s).2.length ≤ n := by rw [rowP_G]; exact manyP9_len hm
theorem row_far {m : Int} {s : St9} (hs : s.1.length ≤ big9) : ∀ n ∈ (takeRowP m s).2, -far9 ≤ n ∧ n ≤ far9 := by
  rw [rowP_G]; exact manyP9_ok (ok := fun n : Int => -far9 ≤ n ∧ n ≤ far9) goes_num (fun s _ => num_far) hs
theorem goes_note : GoesP takeNote := fun s => by
  unfold takeNote
  exact goes_trans (b := takeTexts 1000 60 (takeFlag (takeNum s).1).1) (goes_trans (a := takeNum s) (b := takeFlag (takeNum s).1) (goes_num s) (goes_flag _)) (goes_some (goes_text 60) 1000 _)
theorem many_sum {α : Type} {put : α → List UInt8} {c : Nat} : ∀ {l : List α}, (∀ x ∈ l, (put x).length ≤ c) → ((l.map put).flatten).length ≤ l.length * c
  | [], _ => by simp
  | x :: l, h => by
    have h1 := h x (by simp)
    have h2 := many_sum (l := l) fun y hy => h y (by simp [hy])
    simp only [List.map_cons, List.flatten_cons, List.length_append, List.length_cons, Nat.add_mul]; omega
theorem manyB_le {α : Type} {put : α → List UInt8} {c n : Nat} {l : List α} (hn : l.length ≤ n) (h : ∀ x ∈ l, (put x).length ≤ c) : (manyB put l).length ≤ 40 + n * c := by
  have h1 := many_sum h
  have h2 := numB_len (l.length : Int)
  have h3 : l.length * c ≤ n * c := Nat.mul_le_mul_right c hn
  unfold manyB
  rw [List.length_append]
  omega
theorem rq_raw {s : St9} (h : s.1.length ≤ big9) : FineQ (rawReq (takeRowP 8) s).2 ∧ CountQ (rawReq (takeRowP 8) s).2 ∧ (reqB (rawReq (takeRowP 8) s).2).length ≤ 100000000 := by
  have h1 := Nat.le_trans (goes_len goes_num s) h
  have h2 := Nat.le_trans (goes_len goes_num (takeNum s).1) h1
  have h3 := Nat.le_trans (goes_len goes_num (takeNum (takeNum s).1).1) h2
  unfold rawReq
  dsimp only
  obtain ⟨s3, hs3⟩ : ∃ s3, s3 = (takeNum (takeNum (takeNum s).1).1).1 := ⟨_, rfl⟩
  rw [← hs3] at h3 ⊢
  have h4 := Nat.le_trans (goes_len (goes_text 24) s3) h3
  have h5 := Nat.le_trans (goes_len (goes_text 60) (takeText 24 s3).1) h4
  obtain ⟨s5, hs5⟩ : ∃ s5, s5 = (takeText 60 (takeText 24 s3).1).1 := ⟨_, rfl⟩
  rw [← hs5] at h5 ⊢
  have h6 := Nat.le_trans (goes_len (goes_row 8) s5) h5
  obtain ⟨s6, hs6⟩ : ∃ s6, s6 = (takeRowP 8 s5).1 := ⟨_, rfl⟩
  rw [← hs6] at h6 ⊢
  have h7 := Nat.le_trans (goes_len (goes_some (goes_text 24) 8) s6) h6
  have hfl : (takeTexts 8 24 s6).2.length ≤ 8 := some_len (by decide)
  have hft : ∀ x ∈ (takeTexts 8 24 s6).2, x.size ≤ big9 := some_ok (goes_text 24) (fun s hs => text_ok hs) h6
  have hpl : (takePrims 24 (takeTexts 8 24 s6).1).2.length ≤ 24 := some_len (by decide)
  have hps : ∀ p ∈ (takePrims 24 (takeTexts 8 24 s6).1).2, SizeP p := some_ok goes_prim (fun s hs => prim_ok hs) h7
  have hrl : (takeRowP 8 s5).2.length ≤ 8 := row_len (by decide)
  have hrf := row_far (m := 8) h5
  have n1 := numB_len (takeNum s).2
  have n2 := numB_len (takeNum (takeNum s).1).2
  have n3 := numB_len (takeNum (takeNum (takeNum s).1).1).2
  have t1 := text_len9 (m := 24) (s := s3)
  have t2 := text_len9 (m := 60) (s := (takeText 24 s3).1)
  have t3 := manyB_le (put := numB) (c := 40) hrl fun n _ => by have := numB_len n; omega
  have t4 := some_len9 (put := textB) (back_text 24) (m := 8) (s := s6)
  have t5 := some_len9 (put := primB) back_prim (m := 24) (s := (takeTexts 8 24 s6).1)
  refine ⟨⟨text_ok h3, text_ok h4, by dsimp only; omega, ⟨by dsimp only; omega, hft⟩, by dsimp only; omega, hps⟩, ⟨far_int num_far, far_int num_far, far_int num_far, ⟨by dsimp only; omega, fun n hn => far_int (hrf n hn)⟩, by dsimp only; omega, by dsimp only; omega, prims_count h7⟩, ?_⟩
  unfold reqB
  dsimp only
  simp only [List.length_append]
  unfold rowB textsB primsB
  unfold takeTexts takePrims at *
  have hb : big9 = 1000000 := rfl
  omega
theorem note_raw {s : St9} (h : s.1.length ≤ big9) : (-far9 ≤ (takeNote s).2.1 ∧ (takeNote s).2.1 ≤ far9) ∧ (takeNote s).2.2.1.length ≤ 1000 ∧ (noteB (takeNote s).2).length ≤ 1000200 := by
  have h1 := Nat.le_trans (goes_len goes_num s) h
  have h2 := Nat.le_trans (goes_len goes_flag (takeNum s).1) h1
  have n1 := numB_len (takeNum s).2
  have n2 : (flagB (takeFlag (takeNum s).1).2).length ≤ 40 := by cases (takeFlag (takeNum s).1).2 <;> decide +kernel
  have t1 := some_len9 (put := textB) (back_text 60) (m := 1000) (s := (takeFlag (takeNum s).1).1)
  unfold takeNote
  refine ⟨num_far, some_len (by decide), ?_⟩
  unfold noteB textsB takeTexts
  simp only [List.length_append]
  have hb : big9 = 1000000 := rfl
  omega
theorem rs_raw {s : St9} (h : s.1.length ≤ big9) : SizeS (rawRes (takeRowP 1000) (manyP9 takeNote 1000) s).2 ∧ CountS (rawRes (takeRowP 1000) (manyP9 takeNote 1000) s).2 ∧ (resB (rawRes (takeRowP 1000) (manyP9 takeNote 1000) s).2).length ≤ 10000000000 := by
  have h1 := Nat.le_trans (goes_len goes_num s) h
  have h2 := Nat.le_trans (goes_len goes_num (takeNum s).1) h1
  unfold rawRes
  dsimp only
  obtain ⟨s2, hs2⟩ : ∃ s2, s2 = (takeNum (takeNum s).1).1 := ⟨_, rfl⟩
  rw [← hs2] at h2 ⊢
  have h3 := Nat.le_trans (goes_len (goes_some goes_prim 1000) s2) h2
  obtain ⟨s3, hs3⟩ : ∃ s3, s3 = (takePrims 1000 s2).1 := ⟨_, rfl⟩
  have h3' : s3.1.length ≤ big9 := by rw [hs3]; exact h3
  rw [← hs3]
  have h4 := Nat.le_trans (goes_len (goes_row 1000) s3) h3'
  obtain ⟨s4, hs4⟩ : ∃ s4, s4 = (takeRowP 1000 s3).1 := ⟨_, rfl⟩
  rw [← hs4] at h4 ⊢
  have h5 := Nat.le_trans (goes_len (goes_some (goes_text 60) 1000) s4) h4
  obtain ⟨s5, hs5⟩ : ∃ s5, s5 = (takeTexts 1000 60 s4).1 := ⟨_, rfl⟩
  have h5' : s5.1.length ≤ big9 := by rw [hs5]; exact h5
  rw [← hs5]
  have hpl : (takePrims 1000 s2).2.length ≤ 1000 := some_len (by decide)
  have hps : ∀ p ∈ (takePrims 1000 s2).2, SizeP p := some_ok goes_prim (fun s hs => prim_ok hs) h2
  have hrl : (takeRowP 1000 s3).2.length ≤ 1000 := row_len (by decide)
  have hrf := row_far (m := 1000) h3'
  have htl : (takeTexts 1000 60 s4).2.length ≤ 1000 := some_len (by decide)
  have hnl : (manyP9 takeNote 1000 s5).2.length ≤ 1000 := manyP9_len (by decide)
  have hnn : ∀ n ∈ (manyP9 takeNote 1000 s5).2, (-far9 ≤ n.1 ∧ n.1 ≤ far9) ∧ n.2.1.length ≤ 1000 ∧ (noteB n).length ≤ 1000200 := manyP9_ok (ok := fun n : Nt9 => (-far9 ≤ n.1 ∧ n.1 ≤ far9) ∧ n.2.1.length ≤ 1000 ∧ (noteB n).length ≤ 1000200) goes_note (fun s hs => note_raw hs) h5'
  have n1 := numB_len (takeNum s).2
  have n2 := numB_len (takeNum (takeNum s).1).2
  have t1 := some_len9 (put := primB) back_prim (m := 1000) (s := s2)
  have t2 := manyB_le (put := numB) (c := 40) hrl fun n _ => by have := numB_len n; omega
  have t3 := some_len9 (put := textB) (back_text 60) (m := 1000) (s := s4)
  have t4 := manyB_le (put := noteB) (c := 1000200) hnl fun n hn => (hnn n hn).2.2
  refine ⟨⟨⟨by dsimp only; omega, fun p hp => ⟨(hps p hp).2.2.1.1, (hps p hp).2.2.2.1⟩⟩, by dsimp only; omega, by dsimp only; omega, by dsimp only; omega, fun n hn => by have := (hnn n hn).2.1; omega⟩, ⟨far_int num_far, far_int num_far, ⟨by dsimp only; omega, prims_count h2⟩, ⟨by dsimp only; omega, fun n hn => far_int (hrf n hn)⟩, by dsimp only; omega, by dsimp only; omega, fun n hn => ⟨far_int (hnn n hn).1, by have := (hnn n hn).2.1; omega⟩⟩, ?_⟩
  rw [resB_len]
  dsimp only
  have t5 : (numB (manyP9 takeNote 1000 s5).2.length).length + (((manyP9 takeNote 1000 s5).2.map noteB).flatten).length ≤ 40 + 1000 * 1000200 := by
    unfold manyB at t4
    rw [List.length_append] at t4
    exact t4
  unfold rowB textsB primsB
  unfold takeTexts takePrims at *
  have hb : big9 = 1000000 := rfl
  omega
end Go.Proofs.YtlfehnnmpkohkaaGreatDoor
/- Chapter 16: a row of numbers, a request, read of bytes: the program's way. -/
namespace Go.Proofs.YtlfehnnmpkohkaaGreatDoor
open Go Go.SL Go.Lib
attribute [local irreducible] Cfg Kont StepK Val Con Qops Any Sl Own Blk BlkR Rd Pu ExA AllA Has Pick Ent Elem Beside Callable TI Lone OwnO AndA
set_option maxRecDepth 100000 in
theorem take_con (i : Nat) (bv : Value) (s : St9) (many : Int) (hm : 0 ≤ many ∧ many ≤ 1000000) (te : TypeId) (pe : Value) : Con Tryz.prog 65 [ptr i, .int .i64 many] [Blk i 141 [bv, .bool s.2], Sl eByte bv s.1, G1 te pe, G3] (γ := Value × Value) (fun g => g.2) (fun _ => True) (fun g => [Blk i 141 [g.1, .bool (takeRowP many s).1.2], Sl eByte g.1 (takeRowP many s).1.1, Own (eInt .i64) 3 g.2 (takeRowP many s).2]) := by
  have hfar := num_far (s := s)
  have hN := inNum_con i bv s te pe
  unfold takeRowP
  obtain ⟨s1, n, hn⟩ : ∃ s1 n, takeNum s = (s1, n) := ⟨_, _, rfl⟩
  rw [hn] at hN hfar ⊢
  dsimp only at hN hfar ⊢
  unfold far9 at hfar
  obtain ⟨c, hc⟩ : ∃ c, c = (min (max n 0) many).toNat := ⟨_, rfl⟩
  have hcn : (c : Int) = min (max n 0) many := by omega
  rw [← hc]
  refine con_of Tryz.func65 rfl (dd rfl) fun w0 O0 => ?_
  refine c_seq (c_region ?_)
  refine oV vA ?_
  refine o_nil (c_seq (c_region ?_))
  refine oV vA ?_
  refine o_nil (c_seq (c_seq (c_region ?_)))
  refine oV vM ?_
  refine oC cl63 (hN) fun v1 _ => ?_
  refine oV (v_max rfl rfl) ?_
  refine oV vM ?_
  refine oV (v_min rfl rfl) ?_
  refine oV vM ?_
  refine o_nil (c_block ?_)
  rw [← hcn]
  refine c_loopR (γ := Nat × St9 × List Int × Value × Value) [(0, _), (4, _), (10, _)] (fun g => c - g.1) (fun g => g.1 ≤ c ∧ g.2.2.1.length = g.1 ∧ takeRep (c - g.1) g.2.1 g.2.2.1 = takeRep c s1 []) (fun g => [(11, .int .i64 g.1), (5, g.2.2.2.2)]) (fun g => [Blk i 141 [g.2.2.2.1, .bool g.2.1.2], Sl eByte g.2.2.2.1 g.2.1.1, Own (eInt .i64) 3 g.2.2.2.2 g.2.2.1, G1 te pe, G3]) ((0, s1, [], v1, .slice none 0 0)) (⟨Nat.zero_le _, rfl, rfl⟩) (by repeat (first | exact trivial | refine ⟨rfl, ?_⟩)) (eX (by repeat constructor)) ?_
  rintro ⟨k, sk, out, r, v⟩ ⟨hk, hlk, hTk⟩ IH
  dsimp only at hk hlk hTk ⊢
  try dsimp only [List.cons_append, List.nil_append]
  refine c_seq (c_region ?_)
  refine oV (v_lt rfl rfl) ?_
  refine o_nil (c_seq ?_)
  refine c_cond_p rfl (fun hlt => ?_) (fun hlt => ?_)
  · have hst := takeRep_step (n := c) (k := k) (s := sk) (out := out) (by omega)
    refine c_skip (c_seq (c_block (c_region ?_)))
    iterate 2 refine oV vM ?_
    refine oC cl63 (inNum_con i r sk te pe) fun w2 _ => ?_
    refine o_step (s_buildSlice Tryz.underlying22 ti3 rfl rfl rfl (by decide) (by decide) (beside_int .i64 [(takeNum sk).2]) rfl rfl (dd rfl) fun v2 => ?_)
    refine o_step (s_append Tryz.underlying22 ti3 rfl (by decide) rfl rfl (dd rfl) (pB (by repeat constructor)) (pX (by repeat constructor)) rfl (by (first | omega | (simp only [maxLen, List.length_append, List.length_drop, List.length_take, List.length_nil, List.length_cons]; omega))) (by (first | omega | (simp only [maxLen, List.length_append, List.length_drop, List.length_take, List.length_nil, List.length_cons]; omega))) fun v3 => ?_)
    refine oV vA ?_
    refine o_nil (c_inBlock (c_region ?_))
    refine oV ((by first | exact v_add64 rfl rfl (by omega) | exact v_add rfl rfl)) ?_
    refine oV vM ?_
    refine o_nil ?_
    refine cU (IH ((k + 1, (takeNum sk).1, out ++ [(takeNum sk).2], w2, v3)) (by first | omega | (dsimp only; omega)) (⟨by dsimp only; omega, by simp [hlk], hst.symm.trans hTk⟩))
  · have hend := takeRep_end (n := c) (k := k) (s := sk) (out := out) (by omega)
    rw [hend] at hTk
    refine c_exit rfl ?_
    refine c_seq (c_region ?_)
    refine oV vM ?_
    refine oV vA ?_
    refine o_nil ?_
    refine c_ret1 Tryz.func65 rfl rfl fun w O hS => ?_
    exact ⟨(r, v), rfl, trivial, by rw [← hTk]; exact Ent.get hS (eX (by repeat constructor))⟩
/-- What Parse, and UnpackRes, tell beside. -/
def errV (e : Int) (is : Bool) : Value := .int .i64 (if is then 0 else e)
def parseQ (l : List UInt8) : Rq9 := (parseP l).getD (zeroQ 0)
set_option maxRecDepth 100000 in
theorem parse_con (v : Value) (l : List UInt8) (hl : l.length ≤ big9) (te : TypeId) (pe : Value) : Con Tryz.prog 23 [v] [Sl eByte v l, G1 te pe, G3] (γ := Value × Value × Value)
    (fun g => .tuple #[.agg (rqC (parseQ l) g.1 g.2.1 g.2.2).toArray, errV 160 (parseP l).isSome]) (fun _ => True) (fun g => [Sl (eInt .i64) g.1 (parseQ l).2.2.2.2.2.1, Sl eStr g.2.1 (parseQ l).2.2.2.2.2.2.1, Sl ePr g.2.2 (parseQ l).2.2.2.2.2.2.2]) := by
  have hof := of_con v l (by unfold big9 at hl; omega)
  obtain ⟨hfine, hcount, hlen⟩ := rq_raw (s := (l, false)) hl
  have hP : parseP l = if (rawReq (takeRowP 8) (l, false)).1 = ([], false) ∧ RightQ (rawReq (takeRowP 8) (l, false)).2 ∧ reqB (rawReq (takeRowP 8) (l, false)).2 = l then some (rawReq (takeRowP 8) (l, false)).2 else none := rfl
  have c1 := fun i w => inNum_con i w (l, false) te pe
  obtain ⟨s1, k, h1⟩ : ∃ s1 k, takeNum (l, false) = (s1, k) := ⟨_, _, rfl⟩
  rw [h1] at c1
  have c2 := fun i w => inNum_con i w s1 te pe
  obtain ⟨s2, bs, h2⟩ : ∃ s2 k, takeNum s1 = (s2, k) := ⟨_, _, rfl⟩
  rw [h2] at c2
  have c3 := fun i w => inNum_con i w s2 te pe
  obtain ⟨s3, id, h3⟩ : ∃ s3 k, takeNum s2 = (s3, k) := ⟨_, _, rfl⟩
  rw [h3] at c3
  have c4 := fun i w => inText_con i w s3 24 te pe
  obtain ⟨s4, n, h4⟩ : ∃ s4 k, takeText 24 s3 = (s4, k) := ⟨_, _, rfl⟩
  rw [h4] at c4
  have c5 := fun i w => inText_con i w s4 60 te pe
  obtain ⟨s5, t, h5⟩ : ∃ s5 k, takeText 60 s4 = (s5, k) := ⟨_, _, rfl⟩
  rw [h5] at c5
  have c6 := fun i w => take_con i w s5 8 (by decide) te pe
  obtain ⟨s6, dl, h6⟩ : ∃ s6 k, takeRowP 8 s5 = (s6, k) := ⟨_, _, rfl⟩
  rw [h6] at c6
  have c7 := fun i w => inTexts_con i w s6 8 24 te pe
  obtain ⟨s7, fl, h7⟩ : ∃ s7 k, takeTexts 8 24 s6 = (s7, k) := ⟨_, _, rfl⟩
  rw [h7] at c7
  have l1 := Nat.le_trans (goes_len goes_num (l, false)) hl
  rw [h1] at l1
  have l2 := Nat.le_trans (goes_len goes_num s1) l1
  rw [h2] at l2
  have l3 := Nat.le_trans (goes_len goes_num s2) l2
  rw [h3] at l3
  have l4 := Nat.le_trans (goes_len (goes_text 24) s3) l3
  rw [h4] at l4
  have l5 := Nat.le_trans (goes_len (goes_text 60) s4) l4
  rw [h5] at l5
  have l6 := Nat.le_trans (goes_len (goes_row 8) s5) l5
  rw [h6] at l6
  have l7 := Nat.le_trans (goes_len (goes_some (goes_text 24) 8) s6) l6
  rw [show takeSome (takeText 24) 8 s6 = (s7, fl) from h7] at l7
  have c8 := fun i w => inPrims_con i w s7 24 l7 te pe
  obtain ⟨s8, pl, h8⟩ : ∃ s8 k, takePrims 24 s7 = (s8, k) := ⟨_, _, rfl⟩
  rw [h8] at c8
  have hraw : rawReq (takeRowP 8) (l, false) = (s8, (k, bs, id, n, t, dl, fl, pl)) := by unfold rawReq; simp only [h1, h2, h3, h4, h5, h6, h7, h8]
  rw [hraw] at hfine hcount hlen hP
  have hR := fun dv fv lv => reqRight_con (k, bs, id, n, t, dl, fl, pl) dv fv lv hfine
  have hK := fun dv fv lv => pack_con (k, bs, id, n, t, dl, fl, pl) dv fv lv hcount (Nat.le_trans hlen (by decide))
  have hdn := fun i w => done_con i w s8
  dsimp only [rqC] at c1 c2 c3 c4 c5 c6 c7 c8 hR hK hP
  refine con_of Tryz.func23 rfl (dd rfl) fun w0 O0 => ?_
  refine c_seq (c_region ?_)
  refine o_step (s_alloc ti32 (dd rfl) (fun b2 => ?_))
  refine oV vA ?_
  refine o_nil (c_seq (c_region ?_))
  refine oV vM ?_
  refine oC cl62 (hof) fun g _ => ?_
  refine oV vA ?_
  refine o_nil (c_seq (c_region ?_))
  refine oV vM ?_
  refine oC cl63 (c1 g.1 g.2) fun w1 _ => ?_
  refine oV vM ?_
  refine oC cl63 (c2 g.1 w1) fun w2 _ => ?_
  refine oV vM ?_
  refine oC cl63 (c3 g.1 w2) fun w3 _ => ?_
  refine oV vM ?_
  refine oC cl64 (c4 g.1 w3) fun w4 _ => ?_
  refine oV vM ?_
  refine oC cl64 (c5 g.1 w4) fun w5 _ => ?_
  refine oV (v_buildS (places := [(0, 1), (1, 1), (2, 1), (3, 1), (4, 1), (5, 1), (6, 1), (7, 1)]) (cells := [_, _, _, _, _, .slice none 0 0, .slice none 0 0, .slice none 0 0]) Tryz.underlying32 ti32 (by kernel_rfl) rfl (by repeat (first | exact PartsC.nil | (apply PartsC.one (by first | exact OneC.lit rfl | exact OneC.sl (hX (by repeat constructor)) )) | (apply PartsC.lit rfl))) rfl) ?_
  refine o_step (s_alloc ti32 (dd rfl) (fun b5 => ?_))
  refine o_step (s_store_all ti32 rfl rfl (by first | exact CellsV.lit rfl | exact CellsV.one (by first | exact OneC.lit rfl | exact OneC.sl (hX (by repeat constructor)) )) (by repeat (first | exact OneAll.nil | (refine OneAll.cons ?_ ?_; · first | exact OneC.lit rfl | exact OneC.sl (hX (by repeat constructor)) ) | exact OneAll.rd (hX (by repeat constructor)))) rfl (pB (by repeat constructor)) rfl (?_))
  refine o_nil (c_seq (c_region ?_))
  refine oV vM ?_
  refine oC cl65 (c6 g.1 w5) fun g6 _ => ?_
  refine oV (vF 5 Tryz.underlying32 ti22) ?_
  refine o_step (s_store1 ti22 rfl rfl (by first | exact OneC.lit rfl | exact OneC.sl (hX (by repeat constructor)) ) (pB (by repeat constructor)) (by first | decide | exact Nat.le_of_ble_eq_true rfl | simp) (by first | (dsimp only [List.set_cons_succ, List.set_cons_zero]; first | done | exact rfl) | rfl) (?_))
  refine o_nil (c_seq (c_region ?_))
  refine oV vM ?_
  refine oC cl66 (c7 g.1 g6.1) fun g7 _ => ?_
  refine oV (vF 6 Tryz.underlying32 ti23) ?_
  refine o_step (s_store1 ti23 rfl rfl (by first | exact OneC.lit rfl | exact OneC.sl (hX (by repeat constructor)) ) (pB (by repeat constructor)) (by first | decide | exact Nat.le_of_ble_eq_true rfl | simp) (by first | (dsimp only [List.set_cons_succ, List.set_cons_zero]; first | done | exact rfl) | rfl) (?_))
  refine o_nil (c_seq (c_region ?_))
  refine oV vM ?_
  refine oC cl67 (c8 g.1 g7.1) fun g8 _ => ?_
  refine oV (vF 7 Tryz.underlying32 ti30) ?_
  refine o_step (s_store1 ti30 rfl rfl (by first | exact OneC.lit rfl | exact OneC.sl (hX (by repeat constructor)) ) (pB (by repeat constructor)) (by first | decide | exact Nat.le_of_ble_eq_true rfl | simp) (by first | (dsimp only [List.set_cons_succ, List.set_cons_zero]; first | done | exact rfl) | rfl) (?_))
  refine o_nil (c_seq (c_seq ?_))
  by_cases hd : s8 = ([], false)
  · rw [decide_eq_true hd] at hdn
    by_cases hr : RightQ (k, bs, id, n, t, dl, fl, pl)
    · rw [decide_eq_true hr] at hR
      refine c_held [BlkR g.1 141 [g8.1, .bool s8.2], Sl eByte g8.1 s8.1, BlkR b5 32 [.int .i64 k, .int .i64 bs, .int .i64 id, .string n, .string t, g6.2, g7.2, g8.2], Sl (eInt .i64) g6.2 dl, Sl eStr g7.2 fl, Sl ePr g8.2 pl, Sl eByte v l, G3] rfl ?_
      refine aT 0 rfl vM ?_
      refine aO 1 rfl (s_callf_keep cl68 (hdn g.1 g8.1) rfl (dd rfl) (rX (by repeat constructor)) (fun _ => sX) (fun _ _ => aK ?_))
      refine aT 2 rfl (v_not rfl) ?_
      refine aT 3 rfl vM ?_
      refine a_know (s := 31) rfl (show _ = Value.bool false from rfl) ?_
      refine aN 4 rfl (vW Tryz.underlying32 ti32) ?_
      refine aP 5 rfl (s_callf_keep cl12 (hR g6.2 g7.2 g8.2) rfl (dd rfl) (rX (by repeat constructor)) (fun _ => sX) (fun _ _ => aK ?_))
      refine aN 6 rfl (v_not rfl) ?_
      refine aT 7 rfl vQ ?_
      refine aT 8 rfl vM ?_
      refine a_know (s := 36) rfl (show _ = Value.bool false from rfl) ?_
      refine aN 9 rfl (vW Tryz.underlying32 ti32) ?_
      refine aN 12 rfl vM ?_
      refine aN 13 rfl (v_conv_bytes Tryz.underlying38 Tryz.underlying5 Tryz.underlying9 rfl (hX (by repeat constructor))) ?_
      refine aP 10 rfl (s_callf_keep cl18 (hK g6.2 g7.2 g8.2) rfl (dd rfl) (rX (by repeat constructor)) (fun _ => sX) (fun r6 _ => aK ?_))
      refine aP 11 rfl (s_val (v_conv_bytes Tryz.underlying38 Tryz.underlying5 Tryz.underlying9 rfl (hX (by repeat constructor))) (dd rfl) (aK ?_))
      refine aN 14 rfl (v_sne rfl rfl) ?_
      refine aT 15 rfl vQ ?_
      refine a_done (by kernel_rfl) ?_ _
      refine c_cond_p rfl (fun hne => ?_) (fun hne => ?_)
      · have hn : parseP l = none := by rw [hP, if_neg (fun h => hne (congrArg sB h.2.2))]
        have hq0 : parseQ l = zeroQ 0 := by unfold parseQ; rw [hn]; rfl
        refine c_seq (c_region ?_)
        refine oV (v_buildS (places := [(0, 1), (1, 1), (2, 1), (3, 1), (4, 1), (5, 1), (6, 1), (7, 1)]) (cells := [.int .i64 0, .int .i64 0, .int .i64 0, .string ⟨#[]⟩, .string ⟨#[]⟩, .slice none 0 0, .slice none 0 0, .slice none 0 0]) Tryz.underlying32 ti32 (by kernel_rfl) rfl (by repeat (first | exact PartsC.nil | (apply PartsC.one (by first | exact OneC.lit rfl | exact OneC.sl (hX (by repeat constructor)) )) | (apply PartsC.lit rfl))) rfl) ?_
        refine o_step (s_store_all ti32 rfl rfl (by first | exact CellsV.lit rfl | exact CellsV.one (by first | exact OneC.lit rfl | exact OneC.sl (hX (by repeat constructor)) )) (by repeat (first | exact OneAll.nil | (refine OneAll.cons ?_ ?_; · first | exact OneC.lit rfl | exact OneC.sl (hX (by repeat constructor)) ) | exact OneAll.rd (hX (by repeat constructor)))) rfl (pB (by repeat constructor)) rfl (?_))
        refine oV vA ?_
        refine o_nil ?_
        refine c_ret_ct Tryz.func23 rfl ⟨_, Tryz.underlying32⟩ ti32 rfl rfl (hX (by repeat constructor)) fun w O hS => ?_
        exact ⟨(.slice none 0 0, .slice none 0 0, .slice none 0 0), by rw [hq0, hn]; rfl, trivial, by rw [hq0]; exact Ent.get hS (eX (by repeat constructor))⟩
      · have hy : parseP l = some (k, bs, id, n, t, dl, fl, pl) := by rw [hP, if_pos ⟨hd, hr, sB_inj (Classical.not_not.1 hne)⟩]
        have hq1 : parseQ l = (k, bs, id, n, t, dl, fl, pl) := by unfold parseQ; rw [hy]; rfl
        refine c_skip (c_seq (c_region ?_))
        refine oV (vW Tryz.underlying32 ti32) ?_
        refine o_step (s_store_all ti32 rfl rfl (by first | exact CellsV.lit rfl | exact CellsV.one (by first | exact OneC.lit rfl | exact OneC.sl (hX (by repeat constructor)) )) (by repeat (first | exact OneAll.nil | (refine OneAll.cons ?_ ?_; · first | exact OneC.lit rfl | exact OneC.sl (hX (by repeat constructor)) ) | exact OneAll.rd (hX (by repeat constructor)))) rfl (pB (by repeat constructor)) rfl (?_))
        refine oV vA ?_
        refine o_nil ?_
        refine c_ret_ct Tryz.func23 rfl ⟨_, Tryz.underlying32⟩ ti32 rfl rfl (hX (by repeat constructor)) fun w O hS => ?_
        exact ⟨(g6.2, g7.2, g8.2), by rw [hq1, hy]; rfl, trivial, by rw [hq1]; exact Ent.get hS (eX (by repeat constructor))⟩
    · rw [decide_eq_false hr] at hR
      have hn : parseP l = none := by rw [hP, if_neg (fun h => hr h.2.1)]
      have hq0 : parseQ l = zeroQ 0 := by unfold parseQ; rw [hn]; rfl
      refine c_held [BlkR g.1 141 [g8.1, .bool s8.2], Sl eByte g8.1 s8.1, BlkR b5 32 [.int .i64 k, .int .i64 bs, .int .i64 id, .string n, .string t, g6.2, g7.2, g8.2], Sl (eInt .i64) g6.2 dl, Sl eStr g7.2 fl, Sl ePr g8.2 pl, Sl eByte v l, G3] rfl ?_
      refine aT 0 rfl vM ?_
      refine aO 1 rfl (s_callf_keep cl68 (hdn g.1 g8.1) rfl (dd rfl) (rX (by repeat constructor)) (fun _ => sX) (fun _ _ => aK ?_))
      refine aT 2 rfl (v_not rfl) ?_
      refine aT 3 rfl vM ?_
      refine a_know (s := 31) rfl (show _ = Value.bool false from rfl) ?_
      refine aN 4 rfl (vW Tryz.underlying32 ti32) ?_
      refine aP 5 rfl (s_callf_keep cl12 (hR g6.2 g7.2 g8.2) rfl (dd rfl) (rX (by repeat constructor)) (fun _ => sX) (fun _ _ => aK ?_))
      refine aN 6 rfl (v_not rfl) ?_
      refine aT 7 rfl vQ ?_
      refine aT 8 rfl vM ?_
      refine a_know (s := 36) rfl (show _ = Value.bool true from rfl) ?_
      refine aX 9 rfl ?_
      refine aX 10 rfl ?_
      refine aX 11 rfl ?_
      refine aX 12 rfl ?_
      refine aX 13 rfl ?_
      refine aX 14 rfl ?_
      refine aT 15 rfl vT ?_
      refine a_done (by kernel_rfl) ?_ _
      refine c_cond_t rfl ?_
      refine c_seq (c_region ?_)
      refine oV (v_buildS (places := [(0, 1), (1, 1), (2, 1), (3, 1), (4, 1), (5, 1), (6, 1), (7, 1)]) (cells := [.int .i64 0, .int .i64 0, .int .i64 0, .string ⟨#[]⟩, .string ⟨#[]⟩, .slice none 0 0, .slice none 0 0, .slice none 0 0]) Tryz.underlying32 ti32 (by kernel_rfl) rfl (by repeat (first | exact PartsC.nil | (apply PartsC.one (by first | exact OneC.lit rfl | exact OneC.sl (hX (by repeat constructor)) )) | (apply PartsC.lit rfl))) rfl) ?_
      refine o_step (s_store_all ti32 rfl rfl (by first | exact CellsV.lit rfl | exact CellsV.one (by first | exact OneC.lit rfl | exact OneC.sl (hX (by repeat constructor)) )) (by repeat (first | exact OneAll.nil | (refine OneAll.cons ?_ ?_; · first | exact OneC.lit rfl | exact OneC.sl (hX (by repeat constructor)) ) | exact OneAll.rd (hX (by repeat constructor)))) rfl (pB (by repeat constructor)) rfl (?_))
      refine oV vA ?_
      refine o_nil ?_
      refine c_ret_ct Tryz.func23 rfl ⟨_, Tryz.underlying32⟩ ti32 rfl rfl (hX (by repeat constructor)) fun w O hS => ?_
      exact ⟨(.slice none 0 0, .slice none 0 0, .slice none 0 0), by rw [hq0, hn]; rfl, trivial, by rw [hq0]; exact Ent.get hS (eX (by repeat constructor))⟩
  · rw [decide_eq_false hd] at hdn
    have hn : parseP l = none := by rw [hP, if_neg (fun h => hd h.1)]
    have hq0 : parseQ l = zeroQ 0 := by unfold parseQ; rw [hn]; rfl
    refine c_held [BlkR g.1 141 [g8.1, .bool s8.2], Sl eByte g8.1 s8.1, BlkR b5 32 [.int .i64 k, .int .i64 bs, .int .i64 id, .string n, .string t, g6.2, g7.2, g8.2], Sl (eInt .i64) g6.2 dl, Sl eStr g7.2 fl, Sl ePr g8.2 pl, Sl eByte v l, G3] rfl ?_
    refine aT 0 rfl vM ?_
    refine aO 1 rfl (s_callf_keep cl68 (hdn g.1 g8.1) rfl (dd rfl) (rX (by repeat constructor)) (fun _ => sX) (fun _ _ => aK ?_))
    refine aT 2 rfl (v_not rfl) ?_
    refine aT 3 rfl vM ?_
    refine a_know (s := 31) rfl (show _ = Value.bool true from rfl) ?_
    refine aX 4 rfl ?_
    refine aX 5 rfl ?_
    refine aX 6 rfl ?_
    refine aT 7 rfl vT ?_
    refine aT 8 rfl vM ?_
    refine aX 9 rfl ?_
    refine aX 10 rfl ?_
    refine aX 11 rfl ?_
    refine aX 12 rfl ?_
    refine aX 13 rfl ?_
    refine aX 14 rfl ?_
    refine aT 15 rfl vT ?_
    refine a_done (by kernel_rfl) ?_ _
    refine c_cond_t rfl ?_
    refine c_seq (c_region ?_)
    refine oV (v_buildS (places := [(0, 1), (1, 1), (2, 1), (3, 1), (4, 1), (5, 1), (6, 1), (7, 1)]) (cells := [.int .i64 0, .int .i64 0, .int .i64 0, .string ⟨#[]⟩, .string ⟨#[]⟩, .slice none 0 0, .slice none 0 0, .slice none 0 0]) Tryz.underlying32 ti32 (by kernel_rfl) rfl (by repeat (first | exact PartsC.nil | (apply PartsC.one (by first | exact OneC.lit rfl | exact OneC.sl (hX (by repeat constructor)) )) | (apply PartsC.lit rfl))) rfl) ?_
    refine o_step (s_store_all ti32 rfl rfl (by first | exact CellsV.lit rfl | exact CellsV.one (by first | exact OneC.lit rfl | exact OneC.sl (hX (by repeat constructor)) )) (by repeat (first | exact OneAll.nil | (refine OneAll.cons ?_ ?_; · first | exact OneC.lit rfl | exact OneC.sl (hX (by repeat constructor)) ) | exact OneAll.rd (hX (by repeat constructor)))) rfl (pB (by repeat constructor)) rfl (?_))
    refine oV vA ?_
    refine o_nil ?_
    refine c_ret_ct Tryz.func23 rfl ⟨_, Tryz.underlying32⟩ ti32 rfl rfl (hX (by repeat constructor)) fun w O hS => ?_
    exact ⟨(.slice none 0 0, .slice none 0 0, .slice none 0 0), by rw [hq0, hn]; rfl, trivial, by rw [hq0]; exact Ent.get hS (eX (by repeat constructor))⟩
end Go.Proofs.YtlfehnnmpkohkaaGreatDoor
/- Chapter 16: requests of bytes that are not too many; responses of bytes: the program's way. -/
namespace Go.Proofs.YtlfehnnmpkohkaaGreatDoor
open Go Go.SL Go.Lib
/-- What Unpack tells. -/
def unpackP (l : List UInt8) : Option Rq9 := if 3000 < l.length then none else parseP l
def unpackE (l : List UInt8) : Value := .int .i64 (if 3000 < l.length then 161 else if (parseP l).isSome then 0 else 160)
def unpackQ (l : List UInt8) : Rq9 := (unpackP l).getD (zeroQ 0)
attribute [local irreducible] Cfg Kont StepK Val Con Qops Any Sl Own Blk BlkR Rd Pu ExA AllA Has Pick Ent Elem Beside Callable TI Lone OwnO AndA
set_option maxRecDepth 100000 in
theorem unpack_con (v : Value) (l : List UInt8) (hl : l.length ≤ big9) (te : TypeId) (pe : Value) : Con Tryz.prog 20 [v] [Sl eByte v l, G1 te pe, G3] (γ := Value × Value × Value)
    (fun g => .tuple #[.agg (rqC (unpackQ l) g.1 g.2.1 g.2.2).toArray, unpackE l]) (fun _ => True) (fun g => [Sl (eInt .i64) g.1 (unpackQ l).2.2.2.2.2.1, Sl eStr g.2.1 (unpackQ l).2.2.2.2.2.2.1, Sl ePr g.2.2 (unpackQ l).2.2.2.2.2.2.2]) := by
  have hP := parse_con v l hl te pe
  refine con_of Tryz.func20 rfl (dd rfl) fun w0 O0 => ?_
  refine c_seq (c_region ?_)
  refine o_step (s_alloc ti32 (dd rfl) (fun b2 => ?_))
  refine oV vA ?_
  refine o_nil (c_seq (c_seq (c_region ?_)))
  refine oV vM ?_
  refine oV ((by first | exact v_len_form Tryz.underlying38 rfl | exact v_len_sl Tryz.underlying38 rfl (hX (by repeat constructor)))) ?_
  refine oV (v_gt rfl rfl) ?_
  refine o_nil ?_
  refine c_cond_p rfl (fun h => ?_) (fun h => ?_)
  · have hq : unpackQ l = zeroQ 0 := by unfold unpackQ unpackP; rw [if_pos (by omega)]; rfl
    have he : unpackE l = .int .i64 161 := by unfold unpackE; rw [if_pos (by omega)]
    rw [hq, he]
    refine c_seq (c_region ?_)
    refine oV (v_buildS (places := [(0, 1), (1, 1), (2, 1), (3, 1), (4, 1), (5, 1), (6, 1), (7, 1)]) (cells := [.int .i64 0, .int .i64 0, .int .i64 0, .string ⟨#[]⟩, .string ⟨#[]⟩, .slice none 0 0, .slice none 0 0, .slice none 0 0]) Tryz.underlying32 ti32 (by kernel_rfl) rfl (by repeat (first | exact PartsC.nil | (apply PartsC.one (by first | exact OneC.lit rfl | exact OneC.sl (hX (by repeat constructor)) )) | (apply PartsC.lit rfl))) rfl) ?_
    refine o_step (s_store_all ti32 rfl rfl (by first | exact CellsV.lit rfl | exact CellsV.one (by first | exact OneC.lit rfl | exact OneC.sl (hX (by repeat constructor)) )) (by repeat (first | exact OneAll.nil | (refine OneAll.cons ?_ ?_; · first | exact OneC.lit rfl | exact OneC.sl (hX (by repeat constructor)) ) | exact OneAll.rd (hX (by repeat constructor)))) rfl (pB (by repeat constructor)) rfl (?_))
    refine oV vA ?_
    refine o_nil ?_
    refine c_ret_ct Tryz.func20 rfl ⟨_, Tryz.underlying32⟩ ti32 rfl rfl (hX (by repeat constructor)) fun w O hS => ?_
    exact ⟨(.slice none 0 0, .slice none 0 0, .slice none 0 0), rfl, trivial, Ent.get hS (eX (by repeat constructor))⟩
  · have hq : unpackQ l = parseQ l := by unfold unpackQ unpackP; rw [if_neg (by omega)]; rfl
    have he : unpackE l = errV 160 (parseP l).isSome := by unfold unpackE; rw [if_neg (by omega)]; rfl
    rw [hq, he]
    clear hq
    generalize parseQ l = q at hP ⊢
    obtain ⟨k, bs, id, n, t, dl, fl, pl⟩ := q
    dsimp only [rqC] at hP ⊢
    refine c_skip (c_seq (c_region ?_))
    refine oV vM ?_
    refine oC cl23 (hP) fun g _ => ?_
    refine oV vE ?_
    refine oV vE ?_
    refine o_step (s_store_all ti32 rfl rfl (by first | exact CellsV.lit rfl | exact CellsV.one (by first | exact OneC.lit rfl | exact OneC.sl (hX (by repeat constructor)) )) (by repeat (first | exact OneAll.nil | (refine OneAll.cons ?_ ?_; · first | exact OneC.lit rfl | exact OneC.sl (hX (by repeat constructor)) ) | exact OneAll.rd (hX (by repeat constructor)))) rfl (pB (by repeat constructor)) rfl (?_))
    refine oV vA ?_
    refine o_nil ?_
    refine c_ret_ct Tryz.func20 rfl ⟨_, Tryz.underlying32⟩ ti32 rfl rfl (hX (by repeat constructor)) fun w O hS => ?_
    exact ⟨g, rfl, trivial, Ent.get hS (eX (by repeat constructor))⟩
abbrev zeroS : Rs9 := (0, 0, [], [], [], [])
def resQ (l : List UInt8) : Rs9 := (resP l).getD zeroS
set_option maxRecDepth 100000 in
theorem unpackRes_con (v : Value) (l : List UInt8) (hl : l.length ≤ big9) (te : TypeId) (pe : Value) : Con Tryz.prog 30 [v] [Sl eByte v l, G1 te pe, G3] (γ := Value × Value × Value × Value)
    (fun g => .tuple #[.agg (rsC (resQ l) g.1 g.2.1 g.2.2.1 g.2.2.2).toArray, errV 160 (resP l).isSome]) (fun _ => True) (fun g => [Sl ePr g.1 (resQ l).2.2.1, Sl (eInt .i64) g.2.1 (resQ l).2.2.2.1, Sl eStr g.2.2.1 (resQ l).2.2.2.2.1, Sl eNt g.2.2.2 (resQ l).2.2.2.2.2]) := by
  have hof := of_con v l (by unfold big9 at hl; omega)
  obtain ⟨hsize, hcount, hlen⟩ := rs_raw (s := (l, false)) hl
  have hP : resP l = if (rawRes (takeRowP 1000) (manyP9 takeNote 1000) (l, false)).1 = ([], false) ∧ resB (rawRes (takeRowP 1000) (manyP9 takeNote 1000) (l, false)).2 = l then some (rawRes (takeRowP 1000) (manyP9 takeNote 1000) (l, false)).2 else none := rfl
  have c1 := fun i w => inNum_con i w (l, false) te pe
  obtain ⟨s1, c, h1⟩ : ∃ s1 k, takeNum (l, false) = (s1, k) := ⟨_, _, rfl⟩
  rw [h1] at c1
  have c2 := fun i w => inNum_con i w s1 te pe
  obtain ⟨s2, ver, h2⟩ : ∃ s2 k, takeNum s1 = (s2, k) := ⟨_, _, rfl⟩
  rw [h2] at c2
  have l1 := Nat.le_trans (goes_len goes_num (l, false)) hl
  rw [h1] at l1
  have l2 := Nat.le_trans (goes_len goes_num s1) l1
  rw [h2] at l2
  have c3 := fun i w => inPrims_con i w s2 1000 l2 te pe
  obtain ⟨s3, pl, h3⟩ : ∃ s3 k, takePrims 1000 s2 = (s3, k) := ⟨_, _, rfl⟩
  rw [h3] at c3
  have c4 := fun i w => take_con i w s3 1000 (by decide) te pe
  obtain ⟨s4, il, h4⟩ : ∃ s4 k, takeRowP 1000 s3 = (s4, k) := ⟨_, _, rfl⟩
  rw [h4] at c4
  have c5 := fun i w => inTexts_con i w s4 1000 60 te pe
  obtain ⟨s5, tl, h5⟩ : ∃ s5 k, takeTexts 1000 60 s4 = (s5, k) := ⟨_, _, rfl⟩
  rw [h5] at c5
  have c6 := fun i w => inNum_con i w s5 te pe
  obtain ⟨s6, m, h6⟩ : ∃ s6 k, takeNum s5 = (s6, k) := ⟨_, _, rfl⟩
  rw [h6] at c6
  obtain ⟨cn, hcn⟩ : ∃ cn, cn = (min (max m 0) 1000).toNat := ⟨_, rfl⟩
  have hcn' : (cn : Int) = min (max m 0) 1000 := by omega
  obtain ⟨s7, nl, h7⟩ : ∃ s7 k, manyP9 takeNote 1000 s5 = (s7, k) := ⟨_, _, rfl⟩
  have h7' : repG takeNote cn s6 [] = (s7, nl) := by
    rw [← h7]; unfold manyP9; rw [h6, hcn]
  have hraw : rawRes (takeRowP 1000) (manyP9 takeNote 1000) (l, false) = (s7, (c, ver, pl, il, tl, nl)) := by unfold rawRes; simp only [h1, h2, h3, h4, h5, h7]
  rw [hraw] at hcount hlen hP
  have hK := fun lv iv tv nv => packRes_con (c, ver, pl, il, tl, nl) lv iv tv nv hcount (Nat.le_trans hlen (by decide))
  have hdn := fun i w => done_con i w s7
  dsimp only [rsC] at c1 c2 c3 c4 c5 c6 hK hP
  refine con_of Tryz.func30 rfl (dd rfl) fun w0 O0 => ?_
  refine c_seq (c_region ?_)
  refine o_step (s_alloc ti55 (dd rfl) (fun b2 => ?_))
  refine oV vA ?_
  refine o_nil (c_seq (c_region ?_))
  refine oV vM ?_
  refine oC cl62 (hof) fun g _ => ?_
  refine oV vA ?_
  refine o_nil (c_seq (c_region ?_))
  refine oV vM ?_
  refine oC cl63 (c1 g.1 g.2) fun w1 _ => ?_
  refine oV vM ?_
  refine oC cl63 (c2 g.1 w1) fun w2 _ => ?_
  refine oV vM ?_
  refine oC cl67 (c3 g.1 w2) fun g3 _ => ?_
  refine oV (v_buildS (places := [(0, 1), (1, 1), (2, 1), (3, 1), (4, 1), (5, 1)]) (cells := [_, _, _, .slice none 0 0, .slice none 0 0, .slice none 0 0]) Tryz.underlying55 ti55 (by kernel_rfl) rfl (by repeat (first | exact PartsC.nil | (apply PartsC.one (by first | exact OneC.lit rfl | exact OneC.sl (hX (by repeat constructor)) )) | (apply PartsC.lit rfl))) rfl) ?_
  refine o_step (s_alloc ti55 (dd rfl) (fun b5 => ?_))
  refine o_step (s_store_all ti55 rfl rfl (by first | exact CellsV.lit rfl | exact CellsV.one (by first | exact OneC.lit rfl | exact OneC.sl (hX (by repeat constructor)) )) (by repeat (first | exact OneAll.nil | (refine OneAll.cons ?_ ?_; · first | exact OneC.lit rfl | exact OneC.sl (hX (by repeat constructor)) ) | exact OneAll.rd (hX (by repeat constructor)))) rfl (pB (by repeat constructor)) rfl (?_))
  refine o_nil (c_seq (c_region ?_))
  refine oV vM ?_
  refine oC cl65 (c4 g.1 g3.1) fun g4 _ => ?_
  refine oV (vF 3 Tryz.underlying55 ti22) ?_
  refine o_step (s_store1 ti22 rfl rfl (by first | exact OneC.lit rfl | exact OneC.sl (hX (by repeat constructor)) ) (pB (by repeat constructor)) (by first | decide | exact Nat.le_of_ble_eq_true rfl | simp) (by first | (dsimp only [List.set_cons_succ, List.set_cons_zero]; first | done | exact rfl) | rfl) (?_))
  refine o_nil (c_seq (c_region ?_))
  refine oV vM ?_
  refine oC cl66 (c5 g.1 g4.1) fun g5 _ => ?_
  refine oV (vF 4 Tryz.underlying55 ti23) ?_
  refine o_step (s_store1 ti23 rfl rfl (by first | exact OneC.lit rfl | exact OneC.sl (hX (by repeat constructor)) ) (pB (by repeat constructor)) (by first | decide | exact Nat.le_of_ble_eq_true rfl | simp) (by first | (dsimp only [List.set_cons_succ, List.set_cons_zero]; first | done | exact rfl) | rfl) (?_))
  refine o_nil (c_seq (c_seq (c_region ?_)))
  refine oV vM ?_
  refine oC cl63 (c6 g.1 g5.1) fun w6 _ => ?_
  refine oV (v_max rfl rfl) ?_
  refine oV (v_min rfl rfl) ?_
  refine oV vM ?_
  refine o_nil (c_block ?_)
  rw [← hcn']
  refine c_loopR (γ := Nat × St9 × List Nt9 × Value × Value) [(0, _), (2, _), (3, _), (4, _), (5, _), (25, _)] (fun j => cn - j.1) (fun j => j.1 ≤ cn ∧ j.2.2.1.length = j.1 ∧ repG takeNote (cn - j.1) j.2.1 j.2.2.1 = (s7, nl)) (fun j => [(26, .int .i64 j.1)]) (fun j => [Blk g.1 141 [j.2.2.2.1, .bool j.2.1.2], Sl eByte j.2.2.2.1 j.2.1.1, Blk b5 55 [.int .i64 c, .int .i64 ver, g3.2, g4.2, g5.2, j.2.2.2.2], Own eNt 72 j.2.2.2.2 j.2.2.1, Sl ePr g3.2 pl, Sl (eInt .i64) g4.2 il, Sl eStr g5.2 tl, Sl eByte v l, Blk b2 55 [.int .i64 0, .int .i64 0, .slice none 0 0, .slice none 0 0, .slice none 0 0, .slice none 0 0], G1 te pe, G3]) ((0, s6, [], w6, .slice none 0 0)) (⟨Nat.zero_le _, rfl, h7'⟩) (by repeat (first | exact trivial | refine ⟨rfl, ?_⟩)) (eX (by repeat constructor)) ?_
  rintro ⟨k, sk, out, r, nv⟩ ⟨hk, hlk, hTk⟩ IH
  dsimp only at hk hlk hTk ⊢
  try dsimp only [List.cons_append, List.nil_append]
  refine c_seq (c_region ?_)
  refine oV (v_lt rfl rfl) ?_
  refine o_nil (c_seq ?_)
  refine c_cond_p rfl (fun hlt => ?_) (fun hlt => ?_)
  · have hst := repG_step (take := takeNote) (n := cn) (k := k) (s := sk) (out := out) (by omega)
    have d1 := fun w => inNum_con g.1 w sk te pe
    obtain ⟨t1, x1, e1⟩ : ∃ s k, takeNum sk = (s, k) := ⟨_, _, rfl⟩
    rw [e1] at d1
    have d2 := fun w => inFlag_con g.1 w t1 te pe
    obtain ⟨t2, x2, e2⟩ : ∃ s k, takeFlag t1 = (s, k) := ⟨_, _, rfl⟩
    rw [e2] at d2
    have d3 := fun w => inTexts_con g.1 w t2 1000 60 te pe
    obtain ⟨t3, x3, e3⟩ : ∃ s k, takeTexts 1000 60 t2 = (s, k) := ⟨_, _, rfl⟩
    rw [e3] at d3
    have d3' := fun w => Con.post (L'' := fun q => [Blk g.1 141 [q.1, .bool t3.2], Sl eByte q.1 t3.1, Sl eStr q.2 x3]) (d3 w) fun q => (eX (by repeat constructor))
    have hnote : takeNote sk = (t3, (x1, x3, x2)) := by unfold takeNote; simp only [e1, e2, e3]
    rw [hnote] at hst
    dsimp only at d1 d2 hst
    refine c_skip (c_seq (c_block (c_seq (c_region ?_))))
    refine oV vM ?_
    refine oC cl63 (d1 r) fun r1 _ => ?_
    refine oV vM ?_
    refine oC cl77 (d2 r1) fun r2 _ => ?_
    refine oV (v_buildS (places := [(0, 1), (1, 1), (2, 1)]) (cells := [_, .slice none 0 0, _]) Tryz.underlying72 ti72 (by kernel_rfl) rfl (by repeat (first | exact PartsC.nil | (apply PartsC.one (by first | exact OneC.lit rfl | exact OneC.sl (hX (by repeat constructor)) )) | (apply PartsC.lit rfl))) rfl) ?_
    refine o_step (s_alloc ti72 (dd rfl) (fun b6 => ?_))
    refine o_step (s_store_all ti72 rfl rfl (by first | exact CellsV.lit rfl | exact CellsV.one (by first | exact OneC.lit rfl | exact OneC.sl (hX (by repeat constructor)) )) (by repeat (first | exact OneAll.nil | (refine OneAll.cons ?_ ?_; · first | exact OneC.lit rfl | exact OneC.sl (hX (by repeat constructor)) ) | exact OneAll.rd (hX (by repeat constructor)))) rfl (pB (by repeat constructor)) rfl (?_))
    refine o_nil (c_seq (c_region ?_))
    refine oV vM ?_
    refine oC cl66 (d3' r2) fun gt _ => ?_
    refine oV (vF 1 Tryz.underlying72 ti23) ?_
    refine o_step (s_store1 ti23 rfl rfl (by first | exact OneC.lit rfl | exact OneC.sl (hX (by repeat constructor)) ) (pB (by repeat constructor)) (by first | decide | exact Nat.le_of_ble_eq_true rfl | simp) (by first | (dsimp only [List.set_cons_succ, List.set_cons_zero]; first | done | exact rfl) | rfl) (?_))
    refine o_nil (c_region ?_)
    refine oV (vF 5 Tryz.underlying55 ti53) ?_
    refine oV (vL lone53) ?_
    refine oV (vW Tryz.underlying72 ti72) ?_
    refine o_step (s_buildSlice Tryz.underlying53 ti72 rfl rfl rfl (by decide) (by decide) (beside_agg1 (beside_of (Lp := [Sl eStr gt.2 x3]) (pXs (by repeat constructor)) fun w O => nt_rd w O)) rfl rfl (dd rfl) fun v2 => ?_)
    refine o_step (s_append Tryz.underlying53 ti72 rfl (by decide) rfl rfl (dd rfl) (pB (by repeat constructor)) (pX (by repeat constructor)) rfl (by (first | omega | (simp only [maxLen, List.length_append, List.length_drop, List.length_take, List.length_nil, List.length_cons]; omega))) (by (first | omega | (simp only [maxLen, List.length_append, List.length_drop, List.length_take, List.length_nil, List.length_cons]; omega))) fun v3 => ?_)
    refine oV (vF 5 Tryz.underlying55 ti53) ?_
    refine o_step (s_store1 ti53 rfl rfl (by first | exact OneC.lit rfl | exact OneC.sl (hX (by repeat constructor)) ) (pB (by repeat constructor)) (by first | decide | exact Nat.le_of_ble_eq_true rfl | simp) (by first | (dsimp only [List.set_cons_succ, List.set_cons_zero]; first | done | exact rfl) | rfl) (?_))
    refine o_nil (c_inBlock (c_region ?_))
    refine oV ((by first | exact v_add64 rfl rfl (by omega) | exact v_add rfl rfl)) ?_
    refine oV vM ?_
    refine o_nil ?_
    refine cU (IH ((k + 1, t3, out ++ [(x1, x3, x2)], gt.1, v3)) (by first | omega | (dsimp only; omega)) (⟨by dsimp only; omega, by simp [hlk], hst.symm.trans hTk⟩))
  · have hend := repG_end (take := takeNote) (n := cn) (k := k) (s := sk) (out := out) (by omega)
    rw [hend] at hTk
    cases hTk
    refine c_exit rfl ?_
    refine c_seq (c_seq ?_)
    by_cases hd : s7 = ([], false)
    · rw [decide_eq_true hd] at hdn
      refine c_held [BlkR g.1 141 [r, .bool s7.2], Sl eByte r s7.1, BlkR b5 55 [.int .i64 c, .int .i64 ver, g3.2, g4.2, g5.2, nv], Sl ePr g3.2 pl, Sl (eInt .i64) g4.2 il, Sl eStr g5.2 tl, Sl eNt nv nl, Sl eByte v l, G3] rfl ?_
      refine aT 0 rfl vM ?_
      refine aO 1 rfl (s_callf_keep cl68 (hdn g.1 r) rfl (dd rfl) (rX (by repeat constructor)) (fun _ => sX) (fun _ _ => aK ?_))
      refine aT 2 rfl (v_not rfl) ?_
      refine aT 3 rfl vM ?_
      refine a_know (s := 46) rfl (show _ = Value.bool false from rfl) ?_
      refine aN 4 rfl (vW Tryz.underlying55 ti55) ?_
      refine aN 7 rfl vM ?_
      refine aN 8 rfl (v_conv_bytes Tryz.underlying38 Tryz.underlying5 Tryz.underlying9 rfl (hX (by repeat constructor))) ?_
      refine aP 5 rfl (s_callf_keep cl26 (hK g3.2 g4.2 g5.2 nv) rfl (dd rfl) (rX (by repeat constructor)) (fun _ => sX) (fun r6 _ => aK ?_))
      refine aP 6 rfl (s_val (v_conv_bytes Tryz.underlying38 Tryz.underlying5 Tryz.underlying9 rfl (hX (by repeat constructor))) (dd rfl) (aK ?_))
      refine aN 9 rfl (v_sne rfl rfl) ?_
      refine aT 10 rfl vQ ?_
      refine a_done (by kernel_rfl) ?_ _
      refine c_cond_p rfl (fun hne => ?_) (fun hne => ?_)
      · have hn : resP l = none := by rw [hP, if_neg (fun h => hne (congrArg sB h.2))]
        have hq0 : resQ l = zeroS := by unfold resQ; rw [hn]; rfl
        refine c_seq (c_region ?_)
        refine oV (v_buildS (places := [(0, 1), (1, 1), (2, 1), (3, 1), (4, 1), (5, 1)]) (cells := [.int .i64 0, .int .i64 0, .slice none 0 0, .slice none 0 0, .slice none 0 0, .slice none 0 0]) Tryz.underlying55 ti55 (by kernel_rfl) rfl (by repeat (first | exact PartsC.nil | (apply PartsC.one (by first | exact OneC.lit rfl | exact OneC.sl (hX (by repeat constructor)) )) | (apply PartsC.lit rfl))) rfl) ?_
        refine o_step (s_store_all ti55 rfl rfl (by first | exact CellsV.lit rfl | exact CellsV.one (by first | exact OneC.lit rfl | exact OneC.sl (hX (by repeat constructor)) )) (by repeat (first | exact OneAll.nil | (refine OneAll.cons ?_ ?_; · first | exact OneC.lit rfl | exact OneC.sl (hX (by repeat constructor)) ) | exact OneAll.rd (hX (by repeat constructor)))) rfl (pB (by repeat constructor)) rfl (?_))
        refine oV vA ?_
        refine o_nil ?_
        refine c_ret_ct Tryz.func30 rfl ⟨_, Tryz.underlying55⟩ ti55 rfl rfl (hX (by repeat constructor)) fun w O hS => ?_
        exact ⟨(.slice none 0 0, .slice none 0 0, .slice none 0 0, .slice none 0 0), by rw [hq0, hn]; rfl, trivial, by rw [hq0]; exact Ent.get hS (eX (by repeat constructor))⟩
      · have hy : resP l = some (c, ver, pl, il, tl, nl) := by rw [hP, if_pos ⟨hd, sB_inj (Classical.not_not.1 hne)⟩]
        have hq1 : resQ l = (c, ver, pl, il, tl, nl) := by unfold resQ; rw [hy]; rfl
        refine c_skip (c_seq (c_region ?_))
        refine oV (vW Tryz.underlying55 ti55) ?_
        refine o_step (s_store_all ti55 rfl rfl (by first | exact CellsV.lit rfl | exact CellsV.one (by first | exact OneC.lit rfl | exact OneC.sl (hX (by repeat constructor)) )) (by repeat (first | exact OneAll.nil | (refine OneAll.cons ?_ ?_; · first | exact OneC.lit rfl | exact OneC.sl (hX (by repeat constructor)) ) | exact OneAll.rd (hX (by repeat constructor)))) rfl (pB (by repeat constructor)) rfl (?_))
        refine oV vA ?_
        refine o_nil ?_
        refine c_ret_ct Tryz.func30 rfl ⟨_, Tryz.underlying55⟩ ti55 rfl rfl (hX (by repeat constructor)) fun w O hS => ?_
        exact ⟨(g3.2, g4.2, g5.2, nv), by rw [hq1, hy]; rfl, trivial, by rw [hq1]; exact Ent.get hS (eX (by repeat constructor))⟩
    · rw [decide_eq_false hd] at hdn
      have hn : resP l = none := by rw [hP, if_neg (fun h => hd h.1)]
      have hq0 : resQ l = zeroS := by unfold resQ; rw [hn]; rfl
      refine c_held [BlkR g.1 141 [r, .bool s7.2], Sl eByte r s7.1] rfl ?_
      refine aT 0 rfl vM ?_
      refine aO 1 rfl (s_callf_keep cl68 (hdn g.1 r) rfl (dd rfl) (rX (by repeat constructor)) (fun _ => sX) (fun _ _ => aK ?_))
      refine aT 2 rfl (v_not rfl) ?_
      refine aT 3 rfl vM ?_
      refine a_know (s := 46) rfl (show _ = Value.bool true from rfl) ?_
      refine aX 4 rfl ?_
      refine aX 5 rfl ?_
      refine aX 6 rfl ?_
      refine aX 7 rfl ?_
      refine aX 8 rfl ?_
      refine aX 9 rfl ?_
      refine aT 10 rfl vT ?_
      refine a_done (by kernel_rfl) ?_ _
      refine c_cond_t rfl ?_
      refine c_seq (c_region ?_)
      refine oV (v_buildS (places := [(0, 1), (1, 1), (2, 1), (3, 1), (4, 1), (5, 1)]) (cells := [.int .i64 0, .int .i64 0, .slice none 0 0, .slice none 0 0, .slice none 0 0, .slice none 0 0]) Tryz.underlying55 ti55 (by kernel_rfl) rfl (by repeat (first | exact PartsC.nil | (apply PartsC.one (by first | exact OneC.lit rfl | exact OneC.sl (hX (by repeat constructor)) )) | (apply PartsC.lit rfl))) rfl) ?_
      refine o_step (s_store_all ti55 rfl rfl (by first | exact CellsV.lit rfl | exact CellsV.one (by first | exact OneC.lit rfl | exact OneC.sl (hX (by repeat constructor)) )) (by repeat (first | exact OneAll.nil | (refine OneAll.cons ?_ ?_; · first | exact OneC.lit rfl | exact OneC.sl (hX (by repeat constructor)) ) | exact OneAll.rd (hX (by repeat constructor)))) rfl (pB (by repeat constructor)) rfl (?_))
      refine oV vA ?_
      refine o_nil ?_
      refine c_ret_ct Tryz.func30 rfl ⟨_, Tryz.underlying55⟩ ti55 rfl rfl (hX (by repeat constructor)) fun w O hS => ?_
      exact ⟨(.slice none 0 0, .slice none 0 0, .slice none 0 0, .slice none 0 0), by rw [hq0, hn]; rfl, trivial, by rw [hq0]; exact Ent.get hS (eX (by repeat constructor))⟩
end Go.Proofs.YtlfehnnmpkohkaaGreatDoor
/- Chapter 16: the bytes of requests and responses: the document's way. -/
namespace Go.Proofs.YtlfehnnmpkohkaaGreatDoor
open Go Go.SL Go.Lib
/-- Sizes of what is written. -/
structure FitQ (q : Rq9) : Prop where
  name : q.2.2.2.1.size ≤ 1000000
  note : q.2.2.2.2.1.size ≤ 1000000
  deps : q.2.2.2.2.2.1.length ≤ 1000000
  files : TextsFit q.2.2.2.2.2.2.1
  prims : PrsFit q.2.2.2.2.2.2.2
structure FitS (s : Rs9) : Prop where
  prims : PrsFit s.2.2.1
  ids : s.2.2.2.1.length ≤ 1000000
  lines : TextsFit s.2.2.2.2.1
  notes : s.2.2.2.2.2.length ≤ 100000 ∧ ∀ n ∈ s.2.2.2.2.2, TextsFit n.2.1
theorem rowB_len {l : List Int} (h : l.length ≤ 1000000) : (rowB l).length ≤ 15000015 := by
  have h1 := flat_le (put := numB) (m := 15) (l := l) fun x _ => numB_len x
  have h2 := numB_len l.length
  have h3 : l.length * 15 ≤ 1000000 * 15 := Nat.mul_le_mul_right _ h
  unfold rowB manyB
  rw [List.length_append]
  omega
theorem flagB_len (b : Bool) : (flagB b).length ≤ 15 := numB_len _
theorem noteB_len {n : Nt9} (h : TextsFit n.2.1) : (noteB n).length ≤ 2000004000060 := by
  have h1 := numB_len n.1
  have h2 := flagB_len n.2.2
  have h3 := textsB_len h
  unfold noteB
  simp only [List.length_append]
  omega
attribute [local irreducible] Cfg Kont StepK Val Con Qops Any Sl Own Blk BlkR Rd Pu ExA AllA Has Pick Ent Elem Beside Callable TI Lone OwnO AndA
set_option maxRecDepth 100000 in
theorem rowRef_con (v : Value) (l : List Int) (hl : l.length ≤ 1000000) : Con Tryz.prog 58 [v] [Sl (eInt .i64) v l] (γ := Unit) (fun _ => .string (sB (rowB l))) (fun _ => True) (fun _ => []) := by
  refine con_of Tryz.func58 rfl (dd rfl) fun w0 O0 => ?_
  refine c_seq (c_region ?_)
  refine oV vA ?_
  refine o_nil (c_seq (c_region ?_))
  refine oV vM ?_
  refine oV ((by first | exact v_len_form Tryz.underlying22 rfl | exact v_len_sl Tryz.underlying22 rfl (hX (by repeat constructor)))) ?_
  refine o_step (s_callf_keep cl56 (numRef_con (l.length : Int)) rfl (dd rfl) (rX (by repeat constructor)) (fun _ => sX) (fun _ _ => ?_))
  refine oV vA ?_
  refine o_nil (c_seq (c_seq (c_region ?_)))
  refine oV vA ?_
  refine o_nil (c_block ?_)
  rw [show sB (numB l.length) = sB (numB l.length ++ ((l.take 0).map numB).flatten) by simp]
  refine c_loopR (γ := Nat) [(0, _), (2, _)] (fun k => l.length - k) (fun k => k ≤ l.length) (fun k => [(4, .int .i64 k), (3, .string (sB (numB l.length ++ ((l.take k).map numB).flatten)))]) (fun _ => [Sl (eInt .i64) v l]) (0) (Nat.zero_le _) (by repeat (first | exact trivial | refine ⟨rfl, ?_⟩)) (eX (by repeat constructor)) ?_
  rintro k hk IH
  try dsimp only [List.cons_append, List.nil_append]
  refine c_seq (c_seq (c_region ?_))
  iterate 2 refine oV vM ?_
  refine oV ((by first | exact v_len_form Tryz.underlying22 rfl | exact v_len_sl Tryz.underlying22 rfl (hX (by repeat constructor)))) ?_
  refine oV (v_lt rfl rfl) ?_
  refine o_nil ?_
  refine c_cond_p rfl (fun hlt => ?_) (fun hlt => ?_)
  · have hk' : k < l.length := by omega
    have ht := numB_len (l[k]'hk')
    have hz1 := sB_size (numB l.length ++ ((l.take k).map numB).flatten)
    have hz2 := sB_size (numB (l[k]'hk'))
    have hn := numB_len l.length
    have hfl := flat_le (put := numB) (m := 15) (l := l.take k) fun x _ => numB_len x
    have hkl : (l.take k).length ≤ 1000000 := by rw [List.length_take]; omega
    have hm : (l.take k).length * 15 ≤ 1000000 * 15 := Nat.mul_le_mul_right _ hkl
    rw [List.length_append] at hz1
    refine c_skip (c_seq (c_block (c_region ?_)))
    iterate 3 refine oV vM ?_
    refine oV ((by first | exact v_indexAddrN Tryz.underlying22 ti3 rfl rfl (hX (by repeat constructor)) (by omega) | exact v_indexAddr Tryz.underlying22 ti3 rfl rfl (hX (by repeat constructor)) (by omega))) ?_
    refine oV (v_load_int lone3 rfl (by repeat (first | exact Elem.sl (List.getElem?_eq_getElem (by omega)) | exact Elem.own (List.getElem?_eq_getElem (by omega)) | exact Elem.ownO (List.getElem?_eq_getElem (by omega)) | apply Elem.there))) ?_
    refine o_step (s_callf_keep cl56 (numRef_con (l[k]'hk')) rfl (dd rfl) (rX (by repeat constructor)) (fun _ => sX) (fun _ _ => ?_))
    refine oV (v_cat rfl rfl (by first | omega | (simp only [ByteArray.size_append]; omega))) ?_
    refine oV vA ?_
    refine o_nil (c_inBlock (c_region ?_))
    refine oV vM ?_
    refine oV ((by first | exact v_add64 rfl rfl (by omega) | exact v_add rfl rfl)) ?_
    refine oV vA ?_
    refine o_nil ?_
    rw [sB_app, List.append_assoc, ← flat_next numB hk']
    refine cU (IH (k + 1) (by first | omega | (dsimp only; omega)) (by omega))
  · have hke : k = l.length := by omega
    refine c_exit rfl ?_
    refine c_seq (c_region ?_)
    refine oV vM ?_
    refine oV vA ?_
    refine o_nil ?_
    refine c_ret1 Tryz.func58 rfl rfl fun w O hS => ?_
    exact ⟨(), by rw [hke, List.take_length]; rfl, trivial, trivial⟩
set_option maxRecDepth 100000 in
theorem packResRef_con (s : Rs9) (l i t n : Value) (hs : FitS s) : Con Tryz.prog 28 [.agg (rsC s l i t n).toArray] [Sl ePr l s.2.2.1, Sl (eInt .i64) i s.2.2.2.1, Sl eStr t s.2.2.2.2.1, Sl eNt n s.2.2.2.2.2] (γ := Unit) (fun _ => .string (sB (resB s))) (fun _ => True) (fun _ => []) := by
  obtain ⟨c, ver, pl, il, tl, nl⟩ := s
  obtain ⟨hp, hi, ht, hn, hnn⟩ := hs
  dsimp only [rsC] at hp hi ht hn hnn ⊢
  obtain ⟨base, hbase⟩ : ∃ base, base = numB c ++ numB ver ++ primsB pl ++ rowB il ++ textsB tl := ⟨_, rfl⟩
  have s1 := sB_size (numB c)
  have s2 := sB_size (numB ver)
  have s3 := sB_size (primsB pl)
  have s4 := sB_size (rowB il)
  have s5 := sB_size (textsB tl)
  have s6 := sB_size (numB nl.length)
  have l1 := numB_len c
  have l2 := numB_len ver
  have l3 := primsB_len hp
  have l4 := rowB_len hi
  have l5 := textsB_len ht
  have l6 := numB_len nl.length
  have hbl : base.length = (numB c).length + (numB ver).length + (primsB pl).length + (rowB il).length + (textsB tl).length := by rw [hbase]; simp only [List.length_append]
  have hfull : resB (c, ver, pl, il, tl, nl) = base ++ (numB nl.length ++ (nl.map noteB).flatten) := by rw [hbase]; rfl
  refine con_of Tryz.func28 rfl (dd rfl) fun w0 O0 => ?_
  refine c_seq (c_region ?_)
  refine o_step (s_box rfl (dd rfl) (fun b1 => ?_))
  refine oV vA ?_
  refine o_nil (c_seq ?_)
  refine c_held [BlkR b1 50 [.int .i64 c, .int .i64 ver, l, i, t, n], Sl ePr l pl, Sl (eInt .i64) i il, Sl eStr t tl, Sl eNt n nl] rfl ?_
  refine aT 0 rfl (vF 0 Tryz.underlying50 ti3) ?_
  refine aT 1 rfl (vL lone3) ?_
  refine aT 3 rfl (vF 1 Tryz.underlying50 ti3) ?_
  refine aT 4 rfl (vL lone3) ?_
  refine aT 7 rfl (vF 2 Tryz.underlying50 ti24) ?_
  refine aT 8 rfl (vL lone24) ?_
  refine aT 11 rfl (vF 3 Tryz.underlying50 ti22) ?_
  refine aT 12 rfl (vL lone22) ?_
  refine aT 15 rfl (vF 4 Tryz.underlying50 ti23) ?_
  refine aT 16 rfl (vL lone23) ?_
  refine aT 19 rfl (vF 5 Tryz.underlying50 ti48) ?_
  refine aT 20 rfl (vL lone48) ?_
  refine aT 21 rfl ((by first | exact v_len_form Tryz.underlying48 rfl | exact v_len_sl Tryz.underlying48 rfl (hX (by repeat constructor)))) ?_
  refine aO 2 rfl (s_callf_keep cl56 (numRef_con c) rfl (dd rfl) (rX (by repeat constructor)) (fun _ => sX) (fun _ _ => aK ?_))
  refine aO 5 rfl (s_callf_keep cl56 (numRef_con ver) rfl (dd rfl) (rX (by repeat constructor)) (fun _ => sX) (fun _ _ => aK ?_))
  refine aT 6 rfl (v_cat rfl rfl (by first | omega | (simp only [ByteArray.size_append]; omega))) ?_
  refine aO 9 rfl (s_callf_keep cl60 (primsRef_con l pl hp) rfl (dd rfl) (rX (by repeat constructor)) (fun _ => sX) (fun _ _ => aK ?_))
  refine aT 10 rfl (v_cat rfl rfl (by first | omega | (simp only [ByteArray.size_append]; omega))) ?_
  refine aO 13 rfl (s_callf_keep cl58 (rowRef_con i il hi) rfl (dd rfl) (rX (by repeat constructor)) (fun _ => sX) (fun _ _ => aK ?_))
  refine aT 14 rfl (v_cat rfl rfl (by first | omega | (simp only [ByteArray.size_append]; omega))) ?_
  refine aO 17 rfl (s_callf_keep cl59 (textsRef_con t tl ht) rfl (dd rfl) (rX (by repeat constructor)) (fun _ => sX) (fun _ _ => aK ?_))
  refine aT 18 rfl (v_cat rfl rfl (by first | omega | (simp only [ByteArray.size_append]; omega))) ?_
  refine aO 22 rfl (s_callf_keep cl56 (numRef_con nl.length) rfl (dd rfl) (rX (by repeat constructor)) (fun _ => sX) (fun _ _ => aK ?_))
  refine aT 23 rfl (v_cat rfl rfl (by first | omega | (simp only [ByteArray.size_append]; omega))) ?_
  refine aT 24 rfl vA ?_
  refine a_done (by kernel_rfl) ?_ _
  refine c_seq (c_seq (c_region ?_))
  refine oV vA ?_
  refine o_nil (c_block ?_)
  rw [show sB (numB c) ++ sB (numB ver) ++ sB (primsB pl) ++ sB (rowB il) ++ sB (textsB tl) ++ sB (numB nl.length) = sB (base ++ (numB nl.length ++ ((nl.take 0).map noteB).flatten)) by rw [hbase]; simp only [sB_app, List.take_zero, List.map_nil, List.flatten_nil, List.append_nil, List.append_assoc]]
  refine c_loopR (γ := Nat) [(1, _), (2, _)] (fun k => nl.length - k) (fun k => k ≤ nl.length) (fun k => [(4, .int .i64 k), (3, .string (sB (base ++ (numB nl.length ++ ((nl.take k).map noteB).flatten))))]) (fun _ => [Blk b1 50 [.int .i64 c, .int .i64 ver, l, i, t, n], Sl eNt n nl]) (0) (Nat.zero_le _) (by repeat (first | exact trivial | refine ⟨rfl, ?_⟩)) (eX (by repeat constructor)) ?_
  rintro k hk IH
  try dsimp only [List.cons_append, List.nil_append]
  refine c_seq (c_seq (c_region ?_))
  refine oV vM ?_
  refine oV (vF 5 Tryz.underlying50 ti48) ?_
  refine oV (vL lone48) ?_
  refine oV ((by first | exact v_len_form Tryz.underlying48 rfl | exact v_len_sl Tryz.underlying48 rfl (hX (by repeat constructor)))) ?_
  refine oV (v_lt rfl rfl) ?_
  refine o_nil ?_
  refine c_cond_p rfl (fun hlt => ?_) (fun hlt => ?_)
  · have hk' : k < nl.length := by omega
    have hnk := hnn _ (List.getElem_mem hk')
    have hz1 := sB_size (base ++ (numB nl.length ++ ((nl.take k).map noteB).flatten))
    have z2 := sB_size (numB nl[k].1)
    have z3 := sB_size (flagB nl[k].2.2)
    have z4 := sB_size (textsB nl[k].2.1)
    have m2 := numB_len nl[k].1
    have m3 := flagB_len nl[k].2.2
    have m4 := textsB_len hnk
    have hfl := flat_le (put := noteB) (m := 2000004000060) (l := nl.take k) fun x hx => noteB_len (hnn x (List.mem_of_mem_take hx))
    have hkl : (nl.take k).length ≤ 100000 := by rw [List.length_take]; omega
    have hm : (nl.take k).length * 2000004000060 ≤ 100000 * 2000004000060 := Nat.mul_le_mul_right _ hkl
    rw [List.length_append, List.length_append] at hz1
    have hnx : sB (base ++ (numB nl.length ++ ((nl.take k).map noteB).flatten)) ++ sB (numB nl[k].1) ++ sB (flagB nl[k].2.2) ++ sB (textsB nl[k].2.1) = sB (base ++ (numB nl.length ++ ((nl.take (k + 1)).map noteB).flatten)) := by
      rw [flat_next noteB hk']; unfold noteB; simp only [sB_app, List.append_assoc]
    refine c_skip (c_seq (c_block (c_seq (c_region ?_))))
    refine oV (vF 5 Tryz.underlying50 ti48) ?_
    refine oV (vL lone48) ?_
    refine oV vM ?_
    refine oV ((by first | exact v_indexAddrN Tryz.underlying48 ti121 rfl rfl (hX (by repeat constructor)) (by omega) | exact v_indexAddr Tryz.underlying48 ti121 rfl rfl (hX (by repeat constructor)) (by omega))) ?_
    refine o_step (s_load_shape ⟨_, Tryz.underlying121⟩ ti121 rfl (dd rfl) (by repeat (first|exact el1 (by omega)|exact el2 (by omega)|exact el3 (by omega)|apply Elem.there)) (nt_open) (fun g => ?_))
    refine o_step (s_alloc ti121 (dd rfl) (fun b5 => ?_))
    refine o_step (s_store_all ti121 rfl rfl (by first | exact CellsV.lit rfl | exact CellsV.one (by first | exact OneC.lit rfl | exact OneC.sl (hX (by repeat constructor)) )) (by repeat (first | exact OneAll.nil | (refine OneAll.cons ?_ ?_; · first | exact OneC.lit rfl | exact OneC.sl (hX (by repeat constructor)) ) | exact OneAll.rd (hX (by repeat constructor)))) rfl (pB (by repeat constructor)) rfl (?_))
    refine o_nil ?_
    refine c_held [BlkR b5 121 [.int .i64 nl[k].1, g, .bool nl[k].2.2], Sl eStr g nl[k].2.1] rfl ?_
    refine aT 0 rfl vM ?_
    refine aT 1 rfl (vF 0 Tryz.underlying121 ti3) ?_
    refine aT 2 rfl (vL lone3) ?_
    refine aT 5 rfl (vF 2 Tryz.underlying121 ti4) ?_
    refine aT 6 rfl (vL lone4) ?_
    refine aT 9 rfl (vF 1 Tryz.underlying121 ti23) ?_
    refine aT 10 rfl (vL lone23) ?_
    refine aO 3 rfl (s_callf_keep cl56 (numRef_con nl[k].1) rfl (dd rfl) (rX (by repeat constructor)) (fun _ => sX) (fun _ _ => aK ?_))
    refine aT 4 rfl (v_cat rfl rfl (by first | omega | (simp only [ByteArray.size_append]; omega))) ?_
    refine aO 7 rfl (s_callf_keep cl75 (flagRef_con nl[k].2.2) rfl (dd rfl) (rX (by repeat constructor)) (fun _ => sX) (fun _ _ => aK ?_))
    refine aT 8 rfl (v_cat rfl rfl (by first | omega | (simp only [ByteArray.size_append]; omega))) ?_
    refine aO 11 rfl (s_callf_keep cl59 (textsRef_con g nl[k].2.1 hnk) rfl (dd rfl) (rX (by repeat constructor)) (fun _ => sX) (fun _ _ => aK ?_))
    refine aT 12 rfl (v_cat rfl rfl (by first | omega | (simp only [ByteArray.size_append]; omega))) ?_
    refine aT 13 rfl vA ?_
    refine a_done (by kernel_rfl) ?_ _
    refine c_inBlock (c_region ?_)
    refine oV vM ?_
    refine oV ((by first | exact v_add64 rfl rfl (by omega) | exact v_add rfl rfl)) ?_
    refine oV vA ?_
    refine o_nil ?_
    rw [hnx]
    refine cU (IH (k + 1) (by first | omega | (dsimp only; omega)) (by omega))
  · have hke : k = nl.length := by omega
    have hall : base ++ (numB nl.length ++ ((nl.take k).map noteB).flatten) = resB (c, ver, pl, il, tl, nl) := by rw [hke, List.take_length, hfull]
    rw [hall]
    refine c_exit rfl ?_
    refine c_seq (c_region ?_)
    refine oV vM ?_
    refine oV vA ?_
    refine o_nil ?_
    refine c_ret1 Tryz.func28 rfl rfl fun w O hS => ?_
    exact ⟨(), rfl, trivial, trivial⟩
end Go.Proofs.YtlfehnnmpkohkaaGreatDoor
/- Chapter 16: a row of numbers, a request, a response, read of bytes: the document's way. -/
namespace Go.Proofs.YtlfehnnmpkohkaaGreatDoor
open Go Go.SL Go.Lib
theorem plc_end6 {B : ByteArray} {s : St9} (h : EndsB B s) : (s.2 = true ∨ (plc B s : Int) < B.size) ↔ ¬ s = ([], false) := by
  have h1 := h.at.1
  have h2 := h.at.2.2
  constructor
  · rintro (q | q) e
    · rw [e] at q; cases q
    · rw [e] at h2 q; simp only [List.length_nil] at h2; omega
  · intro q
    cases hb : s.2 with
    | true => exact .inl rfl
    | false =>
      right
      have : s.1 ≠ [] := fun e => q (Prod.ext e hb)
      have := List.length_pos_iff.2 this
      omega
theorem manyR9_goes {α : Type} {take : St9 → St9 × α} (hg : GoesP take) (m : Int) : GoesP (manyR9 take m) := fun s => by
  have h : (if (takeNum s).2 < 0 ∨ m < (takeNum s).2 then spoil9 (takeNum s).1 else (takeNum s).1).1 = (takeNum s).1.1 := by split <;> rfl
  obtain ⟨i, hi, ei⟩ := goes_num s
  obtain ⟨j, hj, ej⟩ := goes_many hg (takeNum s).2.toNat (if (takeNum s).2 < 0 ∨ m < (takeNum s).2 then spoil9 (takeNum s).1 else (takeNum s).1) []
  rw [h, ei] at ej hj
  rw [List.length_drop] at hj
  exact ⟨i + j, by omega, by unfold manyR9; rw [ej, List.drop_drop]⟩
theorem goes_rowR (m : Int) : GoesP (takeRowR m) := manyR9_goes goes_num m
attribute [local irreducible] Cfg Kont StepK Val Con Qops Any Sl Own Blk BlkR Rd Pu ExA AllA Has Pick Ent Elem Beside Callable TI Lone OwnO AndA
set_option maxRecDepth 100000 in
theorem takeRowRef_con (B : ByteArray) (s : St9) (most : Int) (hB : B.size ≤ 4611686018427387904) (h : EndsB B s) : Con Tryz.prog 71 [inS B s, .int .i64 most] [] (γ := Value)
    (fun g => .tuple #[inS B (takeRowR most s).1, g]) (fun _ => True) (fun g => [Sl (eInt .i64) g (takeRowR most s).2]) := by
  have hgn := h.goes goes_num
  have hfar := num_far (s := s)
  have hN := takeNumRef_con B s hB h
  obtain ⟨n, hn⟩ : ∃ n, n = (takeNum s).2 := ⟨_, rfl⟩
  obtain ⟨s1, hs1⟩ : ∃ s1, s1 = (takeNum s).1 := ⟨_, rfl⟩
  rw [← hn, ← hs1] at hN
  rw [← hn] at hfar
  rw [← hs1] at hgn
  unfold far9 at hfar
  unfold takeRowR
  rw [← hn, ← hs1]
  obtain ⟨s2, hs2⟩ : ∃ s2, s2 = (if n < 0 ∨ most < n then spoil9 s1 else s1) := ⟨_, rfl⟩
  have hE2 : EndsB B s2 := by rw [hs2]; split <;> exact hgn
  have hp2 : plc B s2 = plc B s1 := by rw [hs2]; split <;> rfl
  rw [← hs2]
  unfold inS inV at *
  refine con_of Tryz.func71 rfl (dd rfl) fun w0 O0 => ?_
  refine c_seq (c_region ?_)
  refine o_step (s_box rfl (dd rfl) (fun b2 => ?_))
  refine o_step (s_alloc ti110 (dd rfl) (fun b4 => ?_))
  refine oV vA ?_
  refine o_nil (c_seq (c_region ?_))
  refine oV (vW Tryz.underlying110 ti110) ?_
  refine oC cl69 (hN) fun _ _ => ?_
  refine oV vM ?_
  refine oV vE ?_
  refine oV vE ?_
  refine o_step (s_store_all ti110 rfl rfl (by first | exact CellsV.lit rfl | exact CellsV.one (by first | exact OneC.lit rfl | exact OneC.sl (hX (by repeat constructor)) )) (by repeat (first | exact OneAll.nil | (refine OneAll.cons ?_ ?_; · first | exact OneC.lit rfl | exact OneC.sl (hX (by repeat constructor)) ) | exact OneAll.rd (hX (by repeat constructor)))) rfl (pB (by repeat constructor)) rfl (?_))
  refine oV vA ?_
  refine o_nil (c_seq (c_seq ?_))
  refine c_env (env' := [(1, _), (2, _), (4, _), (5, _), (6, _)]) (by repeat (first | exact trivial | refine ⟨rfl, ?_⟩)) ?_
  refine c_joinb (d := 22) (decide (n < 0 ∨ most < n)) ?_ ?_
  rotate_left
  · intro J
    refine c_region ?_
    refine oV vM ?_
    refine oV (v_lt rfl rfl) ?_
    refine oV vM ?_
    first | refine o_guard_f rfl rfl (fun g18 => ?_) (fun g18 => ?_) | refine o_guard rfl rfl (fun g18 => ?_) (fun g18 => ?_)
    · refine oV vM ?_
      refine oN ?_
      refine oV vM ?_
      refine oN ?_
      refine oV (v_gt rfl rfl) ?_
      refine oV vQ ?_
      refine o_nil ?_
      exact cJ J rfl (by first | rfl | (simp_all; done) | (simp_all; omega) | (simp; omega))
    · refine oX ?_
      iterate 2 refine oX ?_
      refine oV vT ?_
      refine o_nil ?_
      exact cJ J rfl (by first | rfl | (simp_all; done) | (simp_all; omega) | (simp; omega))
  refine c_joinR (γ := Unit) [(2, _), (4, _), (5, _), (6, _)] (fun _ => True) (fun _ => []) (fun _ => [Blk b2 110 [.string B, .int .i64 (plc B s2), .bool s2.2], Blk b4 110 [.string ⟨#[]⟩, .int .i64 0, .bool false]]) (by repeat (first | exact trivial | refine ⟨rfl, ?_⟩)) ?_ ?_
  rotate_left
  · intro MEET
    skip
    refine c_cond_p rfl (fun hq => ?_) (fun hq => ?_)
    · have e2 : s2.2 = true := by rw [hs2, if_pos hq]; rfl
      rw [hp2, e2] at MEET
      refine c_region ?_
      refine oV (vF 2 Tryz.underlying110 ti4) ?_
      refine o_step (s_store1 ti4 rfl rfl (by first | exact OneC.lit rfl | exact OneC.sl (hX (by repeat constructor)) ) (pB (by repeat constructor)) (by first | decide | exact Nat.le_of_ble_eq_true rfl | simp) (by first | (dsimp only [List.set_cons_succ, List.set_cons_zero]; first | done | exact rfl) | rfl) (?_))
      refine o_nil ?_
      refine cU (MEET (()) (trivial))
    · have e2 : s2.2 = s1.2 := by rw [hs2, if_neg hq]
      rw [hp2, e2] at MEET
      refine c_skip ?_
      refine cU (MEET (()) (trivial))
  rintro ⟨⟩ -
  dsimp only [List.cons_append, List.nil_append]
  refine c_seq (c_region ?_)
  refine oV vA ?_
  refine o_nil (c_seq (c_seq (c_region ?_)))
  refine oV vA ?_
  refine o_nil (c_block ?_)
  refine c_loopR (γ := Nat × St9 × List Int × Value) [(2, _), (4, _), (5, _), (6, _)] (fun g => n.toNat - g.1) (fun g => g.1 ≤ n.toNat ∧ EndsB B g.2.1 ∧ g.2.2.1.length = g.1 ∧ takeMany takeNum (n.toNat - g.1) g.2.1 g.2.2.1 = takeMany takeNum n.toNat s2 []) (fun g => [(8, .int .i64 g.1), (7, g.2.2.2)]) (fun g => [Blk b2 110 [.string B, .int .i64 (plc B g.2.1), .bool g.2.1.2], Blk b4 110 [.string ⟨#[]⟩, .int .i64 0, .bool false], Own (eInt .i64) 3 g.2.2.2 g.2.2.1]) ((0, s2, [], .slice none 0 0)) (⟨Nat.zero_le _, hE2, rfl, rfl⟩) (by repeat (first | exact trivial | refine ⟨rfl, ?_⟩)) (eX (by repeat constructor)) ?_
  rintro ⟨k, sk, out, v⟩ ⟨hk, hEk, hlk, hTk⟩ IH
  dsimp only at hk hEk hlk hTk ⊢
  have hTT := takeNumRef_con B sk hB hEk
  unfold inS inV at hTT
  try dsimp only [List.cons_append, List.nil_append]
  refine c_seq (c_seq ?_)
  refine c_env (env' := [(2, _), (4, _), (5, _), (6, _), (7, _), (8, _)]) (by repeat (first | exact trivial | refine ⟨rfl, ?_⟩)) ?_
  refine c_joinb (d := 31) (decide ((k : Int) < n ∧ sk.2 = false)) ?_ ?_
  rotate_left
  · intro J
    refine c_region ?_
    iterate 2 refine oV vM ?_
    refine oV (v_lt rfl rfl) ?_
    refine oV vM ?_
    first | refine o_guard_t rfl rfl (fun g27 => ?_) (fun g27 => ?_) | refine o_guard rfl rfl (fun g27 => ?_) (fun g27 => ?_)
    · refine oV (vF 2 Tryz.underlying110 ti4) ?_
      refine oN ?_
      refine oV (vL lone4) ?_
      refine oN ?_
      refine oV (v_not rfl) ?_
      refine oV vT ?_
      refine o_nil ?_
      exact cJ J rfl (by first | rfl | (simp_all; done) | (simp_all; omega))
    · refine oX ?_
      iterate 2 refine oX ?_
      refine oV vQ ?_
      refine o_nil ?_
      exact cJ J rfl (by first | rfl | (simp_all; done) | (simp_all; omega))
  refine c_cond_p rfl (fun hlt => ?_) (fun hlt => ?_)
  · have hst := takeMany_step takeNum (n := n.toNat) (k := k) (out := out) (by omega) hlt.2
    refine c_skip (c_seq (c_block (c_seq (c_region ?_))))
    refine oV (vW Tryz.underlying110 ti110) ?_
    refine oC cl69 (hTT) fun _ _ => ?_
    refine oV vM ?_
    refine oV vE ?_
    refine oV vE ?_
    refine o_step (s_alloc ti110 (dd rfl) (fun b9 => ?_))
    refine o_step (s_store_all ti110 rfl rfl (by first | exact CellsV.lit rfl | exact CellsV.one (by first | exact OneC.lit rfl | exact OneC.sl (hX (by repeat constructor)) )) (by repeat (first | exact OneAll.nil | (refine OneAll.cons ?_ ?_; · first | exact OneC.lit rfl | exact OneC.sl (hX (by repeat constructor)) ) | exact OneAll.rd (hX (by repeat constructor)))) rfl (pB (by repeat constructor)) rfl (?_))
    refine oV vA ?_
    refine o_nil (c_seq (c_region ?_))
    refine oV (vW Tryz.underlying110 ti110) ?_
    refine o_step (s_store_all ti110 rfl rfl (by first | exact CellsV.lit rfl | exact CellsV.one (by first | exact OneC.lit rfl | exact OneC.sl (hX (by repeat constructor)) )) (by repeat (first | exact OneAll.nil | (refine OneAll.cons ?_ ?_; · first | exact OneC.lit rfl | exact OneC.sl (hX (by repeat constructor)) ) | exact OneAll.rd (hX (by repeat constructor)))) rfl (pB (by repeat constructor)) rfl (?_))
    refine o_nil (c_region ?_)
    iterate 2 refine oV vM ?_
    refine o_step (s_buildSlice Tryz.underlying22 ti3 rfl rfl rfl (by decide) (by decide) (beside_int .i64 [(takeNum sk).2]) rfl rfl (dd rfl) fun v1 => ?_)
    refine o_step (s_append Tryz.underlying22 ti3 rfl (by decide) rfl rfl (dd rfl) (pB (by repeat constructor)) (pX (by repeat constructor)) rfl (by (first | omega | (simp only [maxLen, List.length_append, List.length_drop, List.length_take, List.length_nil, List.length_cons]; omega))) (by (first | omega | (simp only [maxLen, List.length_append, List.length_drop, List.length_take, List.length_nil, List.length_cons]; omega))) fun v2 => ?_)
    refine oV vA ?_
    refine o_nil (c_inBlock (c_region ?_))
    refine oV vM ?_
    refine oV ((by first | exact v_add64 rfl rfl (by omega) | exact v_add rfl rfl)) ?_
    refine oV vA ?_
    refine o_nil ?_
    refine cU (IH ((k + 1, (takeNum sk).1, out ++ [(takeNum sk).2], v2)) (by first | omega | (dsimp only; omega)) (⟨by dsimp only; omega, hEk.goes goes_num, by simp [hlk], hst.symm.trans hTk⟩))
  · have hend : takeMany takeNum (n.toNat - k) sk out = (sk, out) := by
      cases hb : sk.2 with
      | true => exact takeMany_bad _ _ _ _ hb
      | false => exact takeMany_end _ (by have : ¬ (k : Int) < n := fun q => hlt ⟨q, hb⟩; omega)
    rw [hend] at hTk
    refine c_exit rfl ?_
    refine c_seq (c_region ?_)
    refine oV (vW Tryz.underlying110 ti110) ?_
    refine oV vM ?_
    refine o_step (s_store_all ti110 rfl rfl (by first | exact CellsV.lit rfl | exact CellsV.one (by first | exact OneC.lit rfl | exact OneC.sl (hX (by repeat constructor)) )) (by repeat (first | exact OneAll.nil | (refine OneAll.cons ?_ ?_; · first | exact OneC.lit rfl | exact OneC.sl (hX (by repeat constructor)) ) | exact OneAll.rd (hX (by repeat constructor)))) rfl (pB (by repeat constructor)) rfl (?_))
    refine oV vA ?_
    refine o_nil ?_
    refine c_ret_ct Tryz.func71 rfl ⟨_, Tryz.underlying110⟩ ti110 rfl rfl (hX (by repeat constructor)) fun w O hS => ?_
    exact ⟨v, by rw [← hTk]; rfl, trivial, by rw [← hTk]; exact Ent.get hS (eX (by repeat constructor))⟩
def parseQR (l : List UInt8) : Rq9 := (parseR l).getD (zeroQ 0)
def unpackRR (l : List UInt8) : Option Rq9 := if 3000 < l.length then none else parseR l
def unpackER (l : List UInt8) : Value := .int .i64 (if 3000 < l.length then 161 else if (parseR l).isSome then 0 else 160)
def unpackQR (l : List UInt8) : Rq9 := (unpackRR l).getD (zeroQ 0)
end Go.Proofs.YtlfehnnmpkohkaaGreatDoor
/- Chapter 16: a response read of bytes: the document's way. -/
namespace Go.Proofs.YtlfehnnmpkohkaaGreatDoor
open Go Go.SL Go.Lib
def resQR (l : List UInt8) : Rs9 := (resR l).getD zeroS
attribute [local irreducible] Cfg Kont StepK Val Con Qops Any Sl Own Blk BlkR Rd Pu ExA AllA Has Pick Ent Elem Beside Callable TI Lone OwnO AndA
set_option maxHeartbeats 1000000 in
set_option maxRecDepth 100000 in
theorem unpackResRef_con (B : ByteArray) (l : List UInt8) (hBl : B = sB l) (hl : l.length ≤ big9) : Con Tryz.prog 29 [.string B] [] (γ := Value × Value × Value × Value)
    (fun g => .tuple #[.agg (rsC (resQR l) g.1 g.2.1 g.2.2.1 g.2.2.2).toArray, errV 160 (resR l).isSome]) (fun _ => True) (fun g => [Sl ePr g.1 (resQR l).2.2.1, Sl (eInt .i64) g.2.1 (resQR l).2.2.2.1, Sl eStr g.2.2.1 (resQR l).2.2.2.2.1, Sl eNt g.2.2.2 (resQR l).2.2.2.2.2]) := by
  have hBs : B.size = l.length := by rw [hBl, sB_size]
  have hB : B.size ≤ 4611686018427387904 := by unfold big9 at hl; omega
  have hB9 : B.size ≤ big9 := by omega
  have hst : EndsB B (l, false) ∧ plc B (l, false) = 0 := by have := EndsB.start B false; rwa [show B.data.toList = l by rw [hBl, sB_list]] at this
  obtain ⟨e0, p0⟩ := hst
  have hP : resR l = if (rawRes (takeRowR 1000) (manyR9 takeNote 1000) (l, false)).1 = ([], false) then some (rawRes (takeRowR 1000) (manyR9 takeNote 1000) (l, false)).2 else none := rfl
  have c1 := takeNumRef_con B (l, false) hB e0
  have e1 := e0.goes goes_num
  obtain ⟨s1, c, h1⟩ : ∃ s1 k, takeNum (l, false) = (s1, k) := ⟨_, _, rfl⟩
  rw [h1] at c1 e1
  have c2 := takeNumRef_con B s1 hB e1
  have e2 := e1.goes goes_num
  obtain ⟨s2, ver, h2⟩ : ∃ s2 k, takeNum s1 = (s2, k) := ⟨_, _, rfl⟩
  rw [h2] at c2 e2
  have c3 := takePrimsRef_con B s2 1000 hB9 e2
  have e3 : EndsB B (takePrims 1000 s2).1 := e2.goes (goes_some goes_prim 1000)
  obtain ⟨s3, pl, h3⟩ : ∃ s3 k, takePrims 1000 s2 = (s3, k) := ⟨_, _, rfl⟩
  rw [h3] at c3 e3
  have c4 := takeRowRef_con B s3 1000 hB e3
  have e4 := e3.goes (goes_rowR 1000)
  obtain ⟨s4, il, h4⟩ : ∃ s4 k, takeRowR 1000 s3 = (s4, k) := ⟨_, _, rfl⟩
  rw [h4] at c4 e4
  have c5 := takeTextsRef_con B s4 1000 60 hB e4
  have e5 : EndsB B (takeTexts 1000 60 s4).1 := e4.goes (goes_some (goes_text 60) 1000)
  obtain ⟨s5, tl, h5⟩ : ∃ s5 k, takeTexts 1000 60 s4 = (s5, k) := ⟨_, _, rfl⟩
  rw [h5] at c5 e5
  have c6 := takeNumRef_con B s5 hB e5
  have e6 := e5.goes goes_num
  have hfar := num_far (s := s5)
  obtain ⟨s6, m, h6⟩ : ∃ s6 k, takeNum s5 = (s6, k) := ⟨_, _, rfl⟩
  rw [h6] at c6 e6 hfar
  dsimp only at hfar
  unfold far9 at hfar
  obtain ⟨s7, hs7⟩ : ∃ s7, s7 = (if m < 0 ∨ 1000 < m then spoil9 s6 else s6) := ⟨_, rfl⟩
  have hE7 : EndsB B s7 := by rw [hs7]; split <;> exact e6
  have hp7 : plc B s7 = plc B s6 := by rw [hs7]; split <;> rfl
  have hmany : manyR9 takeNote 1000 s5 = takeMany takeNote m.toNat s7 [] := by unfold manyR9; rw [h6, hs7]
  have hraw : rawRes (takeRowR 1000) (manyR9 takeNote 1000) (l, false) = ((takeMany takeNote m.toNat s7 []).1, (c, ver, pl, il, tl, (takeMany takeNote m.toNat s7 []).2)) := by unfold rawRes; simp only [h1, h2, h3, h4, h5, hmany]
  rw [hraw] at hP
  unfold inS inV at *
  dsimp only at c1 c2 c3 c4 c5 c6 hP
  rw [p0] at c1
  refine con_of Tryz.func29 rfl (dd rfl) fun w0 O0 => ?_
  refine c_seq (c_region ?_)
  refine o_step (s_alloc ti50 (dd rfl) (fun b2 => ?_))
  refine oV vA ?_
  refine o_nil (c_seq (c_region ?_))
  refine o_step (s_alloc ti50 (dd rfl) (fun b4 => ?_))
  refine o_nil (c_seq (c_region ?_))
  refine oV vM ?_
  refine oV (v_buildS (places := [(0, 1), (1, 1), (2, 1)]) (cells := [_, .int .i64 0, .bool false]) Tryz.underlying110 ti110 (by kernel_rfl) rfl (by repeat (first | exact PartsC.nil | (apply PartsC.one (by first | exact OneC.lit rfl | exact OneC.sl (hX (by repeat constructor)) )) | (apply PartsC.lit rfl))) rfl) ?_
  refine o_step (s_alloc ti110 (dd rfl) (fun b5 => ?_))
  refine o_step (s_store_all ti110 rfl rfl (by first | exact CellsV.lit rfl | exact CellsV.one (by first | exact OneC.lit rfl | exact OneC.sl (hX (by repeat constructor)) )) (by repeat (first | exact OneAll.nil | (refine OneAll.cons ?_ ?_; · first | exact OneC.lit rfl | exact OneC.sl (hX (by repeat constructor)) ) | exact OneAll.rd (hX (by repeat constructor)))) rfl (pB (by repeat constructor)) rfl (?_))
  refine o_nil (c_seq (c_region ?_))
  refine oV (vW Tryz.underlying110 ti110) ?_
  refine oC cl69 (c1) fun _ _ => ?_
  refine oV vM ?_
  refine oV vE ?_
  refine oV vE ?_
  refine o_step (s_store_all ti110 rfl rfl (by first | exact CellsV.lit rfl | exact CellsV.one (by first | exact OneC.lit rfl | exact OneC.sl (hX (by repeat constructor)) )) (by repeat (first | exact OneAll.nil | (refine OneAll.cons ?_ ?_; · first | exact OneC.lit rfl | exact OneC.sl (hX (by repeat constructor)) ) | exact OneAll.rd (hX (by repeat constructor)))) rfl (pB (by repeat constructor)) rfl (?_))
  refine oV (vF 0 Tryz.underlying50 ti3) ?_
  refine o_step (s_store1 ti3 rfl rfl (by first | exact OneC.lit rfl | exact OneC.sl (hX (by repeat constructor)) ) (pB (by repeat constructor)) (by first | decide | exact Nat.le_of_ble_eq_true rfl | simp) (by first | (dsimp only [List.set_cons_succ, List.set_cons_zero]; first | done | exact rfl) | rfl) (?_))
  refine o_nil (c_seq (c_region ?_))
  refine oV (vW Tryz.underlying110 ti110) ?_
  refine oC cl69 (c2) fun _ _ => ?_
  refine oV vM ?_
  refine oV vE ?_
  refine oV vE ?_
  refine o_step (s_store_all ti110 rfl rfl (by first | exact CellsV.lit rfl | exact CellsV.one (by first | exact OneC.lit rfl | exact OneC.sl (hX (by repeat constructor)) )) (by repeat (first | exact OneAll.nil | (refine OneAll.cons ?_ ?_; · first | exact OneC.lit rfl | exact OneC.sl (hX (by repeat constructor)) ) | exact OneAll.rd (hX (by repeat constructor)))) rfl (pB (by repeat constructor)) rfl (?_))
  refine oV (vF 1 Tryz.underlying50 ti3) ?_
  refine o_step (s_store1 ti3 rfl rfl (by first | exact OneC.lit rfl | exact OneC.sl (hX (by repeat constructor)) ) (pB (by repeat constructor)) (by first | decide | exact Nat.le_of_ble_eq_true rfl | simp) (by first | (dsimp only [List.set_cons_succ, List.set_cons_zero]; first | done | exact rfl) | rfl) (?_))
  refine o_nil (c_seq (c_region ?_))
  refine oV (vW Tryz.underlying110 ti110) ?_
  refine oC cl73 (c3) fun lv _ => ?_
  refine oV vM ?_
  refine oV vE ?_
  refine oV vE ?_
  refine o_step (s_store_all ti110 rfl rfl (by first | exact CellsV.lit rfl | exact CellsV.one (by first | exact OneC.lit rfl | exact OneC.sl (hX (by repeat constructor)) )) (by repeat (first | exact OneAll.nil | (refine OneAll.cons ?_ ?_; · first | exact OneC.lit rfl | exact OneC.sl (hX (by repeat constructor)) ) | exact OneAll.rd (hX (by repeat constructor)))) rfl (pB (by repeat constructor)) rfl (?_))
  refine oV (vF 2 Tryz.underlying50 ti24) ?_
  refine o_step (s_store1 ti24 rfl rfl (by first | exact OneC.lit rfl | exact OneC.sl (hX (by repeat constructor)) ) (pB (by repeat constructor)) (by first | decide | exact Nat.le_of_ble_eq_true rfl | simp) (by first | (dsimp only [List.set_cons_succ, List.set_cons_zero]; first | done | exact rfl) | rfl) (?_))
  refine o_nil (c_seq (c_region ?_))
  refine oV (vW Tryz.underlying110 ti110) ?_
  refine oC cl71 (c4) fun iv _ => ?_
  refine oV vM ?_
  refine oV vE ?_
  refine oV vE ?_
  refine o_step (s_store_all ti110 rfl rfl (by first | exact CellsV.lit rfl | exact CellsV.one (by first | exact OneC.lit rfl | exact OneC.sl (hX (by repeat constructor)) )) (by repeat (first | exact OneAll.nil | (refine OneAll.cons ?_ ?_; · first | exact OneC.lit rfl | exact OneC.sl (hX (by repeat constructor)) ) | exact OneAll.rd (hX (by repeat constructor)))) rfl (pB (by repeat constructor)) rfl (?_))
  refine oV (vF 3 Tryz.underlying50 ti22) ?_
  refine o_step (s_store1 ti22 rfl rfl (by first | exact OneC.lit rfl | exact OneC.sl (hX (by repeat constructor)) ) (pB (by repeat constructor)) (by first | decide | exact Nat.le_of_ble_eq_true rfl | simp) (by first | (dsimp only [List.set_cons_succ, List.set_cons_zero]; first | done | exact rfl) | rfl) (?_))
  refine o_nil (c_seq (c_region ?_))
  refine oV (vW Tryz.underlying110 ti110) ?_
  refine oC cl72 (c5) fun tv _ => ?_
  refine oV vM ?_
  refine oV vE ?_
  refine oV vE ?_
  refine o_step (s_store_all ti110 rfl rfl (by first | exact CellsV.lit rfl | exact CellsV.one (by first | exact OneC.lit rfl | exact OneC.sl (hX (by repeat constructor)) )) (by repeat (first | exact OneAll.nil | (refine OneAll.cons ?_ ?_; · first | exact OneC.lit rfl | exact OneC.sl (hX (by repeat constructor)) ) | exact OneAll.rd (hX (by repeat constructor)))) rfl (pB (by repeat constructor)) rfl (?_))
  refine oV (vF 4 Tryz.underlying50 ti23) ?_
  refine o_step (s_store1 ti23 rfl rfl (by first | exact OneC.lit rfl | exact OneC.sl (hX (by repeat constructor)) ) (pB (by repeat constructor)) (by first | decide | exact Nat.le_of_ble_eq_true rfl | simp) (by first | (dsimp only [List.set_cons_succ, List.set_cons_zero]; first | done | exact rfl) | rfl) (?_))
  refine o_nil (c_seq (c_region ?_))
  refine oV (vW Tryz.underlying110 ti110) ?_
  refine oC cl69 (c6) fun _ _ => ?_
  refine oV vM ?_
  refine oV vE ?_
  refine oV vE ?_
  refine o_step (s_store_all ti110 rfl rfl (by first | exact CellsV.lit rfl | exact CellsV.one (by first | exact OneC.lit rfl | exact OneC.sl (hX (by repeat constructor)) )) (by repeat (first | exact OneAll.nil | (refine OneAll.cons ?_ ?_; · first | exact OneC.lit rfl | exact OneC.sl (hX (by repeat constructor)) ) | exact OneAll.rd (hX (by repeat constructor)))) rfl (pB (by repeat constructor)) rfl (?_))
  refine oV vA ?_
  refine o_nil (c_seq (c_seq ?_))
  refine c_env (env' := [(0, _), (2, _), (3, _), (4, _), (5, _), (6, _)]) (by repeat (first | exact trivial | refine ⟨rfl, ?_⟩)) ?_
  refine c_joinb (d := 51) (decide (m < 0 ∨ 1000 < m)) ?_ ?_
  rotate_left
  · intro J
    refine c_region ?_
    refine oV vM ?_
    refine oV (v_lt rfl rfl) ?_
    refine oV vM ?_
    first | refine o_guard_f rfl rfl (fun g48 => ?_) (fun g48 => ?_) | refine o_guard rfl rfl (fun g48 => ?_) (fun g48 => ?_)
    · refine oV vM ?_
      refine oN ?_
      refine oV (v_gt rfl rfl) ?_
      refine oV vQ ?_
      refine o_nil ?_
      exact cJ J rfl (by first | rfl | (simp_all; done) | (simp_all; omega) | (simp; omega))
    · refine oX ?_
      refine oX ?_
      refine oV vT ?_
      refine o_nil ?_
      exact cJ J rfl (by first | rfl | (simp_all; done) | (simp_all; omega) | (simp; omega))
  refine c_joinR (γ := Unit) [(0, _), (2, _), (3, _), (4, _), (5, _), (6, _)] (fun _ => True) (fun _ => []) (fun _ => [Blk b5 110 [.string B, .int .i64 (plc B s7), .bool s7.2], Blk b4 50 [.int .i64 c, .int .i64 ver, lv, iv, tv, .slice none 0 0], Blk b2 50 [.int .i64 0, .int .i64 0, .slice none 0 0, .slice none 0 0, .slice none 0 0, .slice none 0 0], Sl ePr lv pl, Sl (eInt .i64) iv il, Sl eStr tv tl]) (by repeat (first | exact trivial | refine ⟨rfl, ?_⟩)) ?_ ?_
  rotate_left
  · intro MEET
    skip
    refine c_cond_p rfl (fun hq => ?_) (fun hq => ?_)
    · have e2 : s7.2 = true := by rw [hs7, if_pos hq]; rfl
      rw [hp7, e2] at MEET
      refine c_region ?_
      refine oV (vF 2 Tryz.underlying110 ti4) ?_
      refine o_step (s_store1 ti4 rfl rfl (by first | exact OneC.lit rfl | exact OneC.sl (hX (by repeat constructor)) ) (pB (by repeat constructor)) (by first | decide | exact Nat.le_of_ble_eq_true rfl | simp) (by first | (dsimp only [List.set_cons_succ, List.set_cons_zero]; first | done | exact rfl) | rfl) (?_))
      refine o_nil ?_
      refine cU (MEET (()) (trivial))
    · have e2 : s7.2 = s6.2 := by rw [hs7, if_neg hq]
      rw [hp7, e2] at MEET
      refine c_skip ?_
      refine cU (MEET (()) (trivial))
  rintro ⟨⟩ -
  dsimp only [List.cons_append, List.nil_append]
  refine c_seq (c_seq (c_region ?_))
  refine oV vA ?_
  refine o_nil (c_block ?_)
  refine c_loopR (γ := Nat × St9 × List Nt9 × Value) [(0, _), (2, _), (3, _), (4, _), (5, _), (6, _)] (fun j => m.toNat - j.1) (fun j => j.1 ≤ m.toNat ∧ EndsB B j.2.1 ∧ j.2.2.1.length = j.1 ∧ takeMany takeNote (m.toNat - j.1) j.2.1 j.2.2.1 = takeMany takeNote m.toNat s7 []) (fun j => [(7, .int .i64 j.1)]) (fun j => [Blk b5 110 [.string B, .int .i64 (plc B j.2.1), .bool j.2.1.2], Blk b4 50 [.int .i64 c, .int .i64 ver, lv, iv, tv, j.2.2.2], Own eNt 121 j.2.2.2 j.2.2.1, Blk b2 50 [.int .i64 0, .int .i64 0, .slice none 0 0, .slice none 0 0, .slice none 0 0, .slice none 0 0], Sl ePr lv pl, Sl (eInt .i64) iv il, Sl eStr tv tl]) ((0, s7, [], .slice none 0 0)) (⟨Nat.zero_le _, hE7, rfl, rfl⟩) (by repeat (first | exact trivial | refine ⟨rfl, ?_⟩)) (eX (by repeat constructor)) ?_
  rintro ⟨k, sk, out, nv⟩ ⟨hk, hEk, hlk, hTk⟩ IH
  dsimp only at hk hEk hlk hTk ⊢
  try dsimp only [List.cons_append, List.nil_append]
  refine c_seq (c_seq ?_)
  refine c_env (env' := [(0, _), (2, _), (3, _), (4, _), (5, _), (6, _), (7, _)]) (by repeat (first | exact trivial | refine ⟨rfl, ?_⟩)) ?_
  refine c_joinb (d := 60) (decide ((k : Int) < m ∧ sk.2 = false)) ?_ ?_
  rotate_left
  · intro J
    refine c_region ?_
    iterate 2 refine oV vM ?_
    refine oV (v_lt rfl rfl) ?_
    refine oV vM ?_
    first | refine o_guard_t rfl rfl (fun g56 => ?_) (fun g56 => ?_) | refine o_guard rfl rfl (fun g56 => ?_) (fun g56 => ?_)
    · refine oV (vF 2 Tryz.underlying110 ti4) ?_
      refine oN ?_
      refine oV (vL lone4) ?_
      refine oN ?_
      refine oV (v_not rfl) ?_
      refine oV vT ?_
      refine o_nil ?_
      exact cJ J rfl (by first | rfl | (simp_all; done) | (simp_all; omega))
    · refine oX ?_
      iterate 2 refine oX ?_
      refine oV vQ ?_
      refine o_nil ?_
      exact cJ J rfl (by first | rfl | (simp_all; done) | (simp_all; omega))
  refine c_cond_p rfl (fun hlt => ?_) (fun hlt => ?_)
  · have hst := takeMany_step takeNote (n := m.toNat) (k := k) (out := out) (by omega) hlt.2
    have d1 := takeNumRef_con B sk hB hEk
    have g1 := hEk.goes goes_num
    obtain ⟨t1, x1, f1⟩ : ∃ s k, takeNum sk = (s, k) := ⟨_, _, rfl⟩
    rw [f1] at d1 g1
    have d2 := takeFlagRef_con B t1 hB g1
    have g2 := g1.goes goes_flag
    obtain ⟨t2, x2, f2⟩ : ∃ s k, takeFlag t1 = (s, k) := ⟨_, _, rfl⟩
    rw [f2] at d2 g2
    have d3 := takeTextsRef_con B t2 1000 60 hB g2
    have g3 : EndsB B (takeTexts 1000 60 t2).1 := g2.goes (goes_some (goes_text 60) 1000)
    obtain ⟨t3, x3, f3⟩ : ∃ s k, takeTexts 1000 60 t2 = (s, k) := ⟨_, _, rfl⟩
    rw [f3] at d3 g3
    have hnote : takeNote sk = (t3, (x1, x3, x2)) := by unfold takeNote; simp only [f1, f2, f3]
    rw [hnote] at hst
    unfold inS inV at *
    dsimp only at d1 d2 d3 hst g3
    refine c_skip (c_seq (c_block (c_seq (c_region ?_))))
    refine o_step (s_alloc ti121 (dd rfl) (fun b8 => ?_))
    refine o_nil (c_seq (c_region ?_))
    refine oV (vW Tryz.underlying110 ti110) ?_
    refine oC cl69 (d1) fun _ _ => ?_
    refine oV vM ?_
    refine oV vE ?_
    refine oV vE ?_
    refine o_step (s_store_all ti110 rfl rfl (by first | exact CellsV.lit rfl | exact CellsV.one (by first | exact OneC.lit rfl | exact OneC.sl (hX (by repeat constructor)) )) (by repeat (first | exact OneAll.nil | (refine OneAll.cons ?_ ?_; · first | exact OneC.lit rfl | exact OneC.sl (hX (by repeat constructor)) ) | exact OneAll.rd (hX (by repeat constructor)))) rfl (pB (by repeat constructor)) rfl (?_))
    refine oV (vF 0 Tryz.underlying121 ti3) ?_
    refine o_step (s_store1 ti3 rfl rfl (by first | exact OneC.lit rfl | exact OneC.sl (hX (by repeat constructor)) ) (pB (by repeat constructor)) (by first | decide | exact Nat.le_of_ble_eq_true rfl | simp) (by first | (dsimp only [List.set_cons_succ, List.set_cons_zero]; first | done | exact rfl) | rfl) (?_))
    refine o_nil (c_seq (c_region ?_))
    refine oV (vW Tryz.underlying110 ti110) ?_
    refine oC cl76 (d2) fun _ _ => ?_
    refine oV vM ?_
    refine oV vE ?_
    refine oV vE ?_
    refine o_step (s_store_all ti110 rfl rfl (by first | exact CellsV.lit rfl | exact CellsV.one (by first | exact OneC.lit rfl | exact OneC.sl (hX (by repeat constructor)) )) (by repeat (first | exact OneAll.nil | (refine OneAll.cons ?_ ?_; · first | exact OneC.lit rfl | exact OneC.sl (hX (by repeat constructor)) ) | exact OneAll.rd (hX (by repeat constructor)))) rfl (pB (by repeat constructor)) rfl (?_))
    refine oV (vF 2 Tryz.underlying121 ti4) ?_
    refine o_step (s_store1 ti4 rfl rfl (by first | exact OneC.lit rfl | exact OneC.sl (hX (by repeat constructor)) ) (pB (by repeat constructor)) (by first | decide | exact Nat.le_of_ble_eq_true rfl | simp) (by first | (dsimp only [List.set_cons_succ, List.set_cons_zero]; first | done | exact rfl) | rfl) (?_))
    refine o_nil (c_seq (c_region ?_))
    refine oV (vW Tryz.underlying110 ti110) ?_
    refine oC cl72 (d3) fun gt _ => ?_
    refine oV vM ?_
    refine oV vE ?_
    refine oV vE ?_
    refine o_step (s_store_all ti110 rfl rfl (by first | exact CellsV.lit rfl | exact CellsV.one (by first | exact OneC.lit rfl | exact OneC.sl (hX (by repeat constructor)) )) (by repeat (first | exact OneAll.nil | (refine OneAll.cons ?_ ?_; · first | exact OneC.lit rfl | exact OneC.sl (hX (by repeat constructor)) ) | exact OneAll.rd (hX (by repeat constructor)))) rfl (pB (by repeat constructor)) rfl (?_))
    refine oV (vF 1 Tryz.underlying121 ti23) ?_
    refine o_step (s_store1 ti23 rfl rfl (by first | exact OneC.lit rfl | exact OneC.sl (hX (by repeat constructor)) ) (pB (by repeat constructor)) (by first | decide | exact Nat.le_of_ble_eq_true rfl | simp) (by first | (dsimp only [List.set_cons_succ, List.set_cons_zero]; first | done | exact rfl) | rfl) (?_))
    refine o_nil (c_region ?_)
    refine oV (vF 5 Tryz.underlying50 ti48) ?_
    refine oV (vL lone48) ?_
    refine oV (vW Tryz.underlying121 ti121) ?_
    refine o_step (s_buildSlice Tryz.underlying48 ti121 rfl rfl rfl (by decide) (by decide) (beside_agg1 (beside_of (Lp := [Sl eStr gt x3]) (pXs (by repeat constructor)) fun w O => nt_rd w O)) rfl rfl (dd rfl) fun v2 => ?_)
    refine o_step (s_append Tryz.underlying48 ti121 rfl (by decide) rfl rfl (dd rfl) (pB (by repeat constructor)) (pX (by repeat constructor)) rfl (by (first | omega | (simp only [maxLen, List.length_append, List.length_drop, List.length_take, List.length_nil, List.length_cons]; omega))) (by (first | omega | (simp only [maxLen, List.length_append, List.length_drop, List.length_take, List.length_nil, List.length_cons]; omega))) fun v3 => ?_)
    refine oV (vF 5 Tryz.underlying50 ti48) ?_
    refine o_step (s_store1 ti48 rfl rfl (by first | exact OneC.lit rfl | exact OneC.sl (hX (by repeat constructor)) ) (pB (by repeat constructor)) (by first | decide | exact Nat.le_of_ble_eq_true rfl | simp) (by first | (dsimp only [List.set_cons_succ, List.set_cons_zero]; first | done | exact rfl) | rfl) (?_))
    refine o_nil (c_inBlock (c_region ?_))
    refine oV vM ?_
    refine oV ((by first | exact v_add64 rfl rfl (by omega) | exact v_add rfl rfl)) ?_
    refine oV vA ?_
    refine o_nil ?_
    refine cU (IH ((k + 1, t3, out ++ [(x1, x3, x2)], v3)) (by first | omega | (dsimp only; omega)) (⟨by dsimp only; omega, g3, by simp [hlk], hst.symm.trans hTk⟩))
  · have hend : takeMany takeNote (m.toNat - k) sk out = (sk, out) := by
      cases hb : sk.2 with
      | true => exact takeMany_bad _ _ _ _ hb
      | false => exact takeMany_end _ (by have : ¬ (k : Int) < m := fun q => hlt ⟨q, hb⟩; omega)
    rw [hend] at hTk
    rw [← hTk] at hP
    dsimp only at hP
    have hpe := plc_end6 hEk
    refine c_exit rfl ?_
    refine c_seq (c_seq ?_)
    refine c_env (env' := [(0, _), (2, _), (3, _), (4, _), (5, _)]) (by repeat (first | exact trivial | refine ⟨rfl, ?_⟩)) ?_
    refine c_joinb (d := 95) (decide (sk.2 = true ∨ (plc B sk : Int) < B.size)) ?_ ?_
    rotate_left
    · intro J
      refine c_region ?_
      refine oV (vF 2 Tryz.underlying110 ti4) ?_
      refine oV (vL lone4) ?_
      refine oV vM ?_
      first | refine o_guard_f rfl rfl (fun g89 => ?_) (fun g89 => ?_) | refine o_guard rfl rfl (fun g89 => ?_) (fun g89 => ?_)
      · refine oV (vF 1 Tryz.underlying110 ti3) ?_
        refine oN ?_
        refine oV (vL lone3) ?_
        refine oN ?_
        refine oV vM ?_
        refine oN ?_
        refine oV (v_len_str Tryz.underlying9 rfl) ?_
        refine oN ?_
        refine oV (v_lt rfl rfl) ?_
        refine oV vQ ?_
        refine o_nil ?_
        exact cJ J rfl (by first | rfl | (simp_all; done) | (simp_all; omega) | (simp; omega))
      · refine oX ?_
        iterate 4 refine oX ?_
        refine oV vT ?_
        refine o_nil ?_
        exact cJ J rfl (by first | rfl | (simp_all; done) | (simp_all; omega) | (simp; omega))
    refine c_cond_p rfl (fun hz => ?_) (fun hz => ?_)
    · have hn : resR l = none := by rw [hP, if_neg (hpe.1 hz)]
      have hq0 : resQR l = zeroS := by unfold resQR; rw [hn]; rfl
      refine c_seq (c_region ?_)
      refine oV (v_buildS (places := [(0, 1), (1, 1), (2, 1), (3, 1), (4, 1), (5, 1)]) (cells := [.int .i64 0, .int .i64 0, .slice none 0 0, .slice none 0 0, .slice none 0 0, .slice none 0 0]) Tryz.underlying50 ti50 (by kernel_rfl) rfl (by repeat (first | exact PartsC.nil | (apply PartsC.one (by first | exact OneC.lit rfl | exact OneC.sl (hX (by repeat constructor)) )) | (apply PartsC.lit rfl))) rfl) ?_
      refine o_step (s_store_all ti50 rfl rfl (by first | exact CellsV.lit rfl | exact CellsV.one (by first | exact OneC.lit rfl | exact OneC.sl (hX (by repeat constructor)) )) (by repeat (first | exact OneAll.nil | (refine OneAll.cons ?_ ?_; · first | exact OneC.lit rfl | exact OneC.sl (hX (by repeat constructor)) ) | exact OneAll.rd (hX (by repeat constructor)))) rfl (pB (by repeat constructor)) rfl (?_))
      refine oV vA ?_
      refine o_nil ?_
      refine c_ret_ct Tryz.func29 rfl ⟨_, Tryz.underlying50⟩ ti50 rfl rfl (hX (by repeat constructor)) fun w O hS => ?_
      exact ⟨(.slice none 0 0, .slice none 0 0, .slice none 0 0, .slice none 0 0), by rw [hq0, hn]; rfl, trivial, by rw [hq0]; exact Ent.get hS (eX (by repeat constructor))⟩
    · have hy : resR l = some (c, ver, pl, il, tl, out) := by rw [hP, if_pos (Classical.byContradiction fun q => hz (hpe.2 q))]
      have hq1 : resQR l = (c, ver, pl, il, tl, out) := by unfold resQR; rw [hy]; rfl
      refine c_skip (c_seq (c_region ?_))
      refine oV (vW Tryz.underlying50 ti50) ?_
      refine o_step (s_store_all ti50 rfl rfl (by first | exact CellsV.lit rfl | exact CellsV.one (by first | exact OneC.lit rfl | exact OneC.sl (hX (by repeat constructor)) )) (by repeat (first | exact OneAll.nil | (refine OneAll.cons ?_ ?_; · first | exact OneC.lit rfl | exact OneC.sl (hX (by repeat constructor)) ) | exact OneAll.rd (hX (by repeat constructor)))) rfl (pB (by repeat constructor)) rfl (?_))
      refine oV vA ?_
      refine o_nil ?_
      refine c_ret_ct Tryz.func29 rfl ⟨_, Tryz.underlying50⟩ ti50 rfl rfl (hX (by repeat constructor)) fun w O hS => ?_
      exact ⟨(lv, iv, tv, nv), by rw [hq1, hy]; rfl, trivial, by rw [hq1]; exact Ent.get hS (eX (by repeat constructor))⟩
end Go.Proofs.YtlfehnnmpkohkaaGreatDoor
/- Chapter 09: changes and patches, as the document and as the program have them. -/
namespace Go.Proofs.YtlfehnnmpkohkaaGreatDoor
open Go Go.SL Go.Lib
attribute [local irreducible] Cfg Kont StepK Val Con Qops Any Sl Own Blk BlkR Rd Pu ExA AllA Has Pick Ent Elem Beside Callable TI Lone OwnO AndA
set_option maxRecDepth 100000 in
theorem oldPr_con (v : Value) (l : List Pr9) (hl : l.length ≤ 1000000) : Con Tryz.prog 61 [v] [Sl ePr v l] (γ := Value) (fun r => r) (fun _ => True) (fun r => [Own ePr 129 r l]) := by
  refine con_of Tryz.func61 rfl (dd rfl) fun w0 O0 => ?_
  refine c_seq (c_region ?_)
  refine oV vA ?_
  refine o_nil (c_seq (c_region ?_))
  refine oV vA ?_
  refine o_nil (c_seq (c_seq (c_region ?_)))
  refine oV vM ?_
  refine oV ((by first | exact v_len_form Tryz.underlying30 rfl | exact v_len_sl Tryz.underlying30 rfl (hX (by repeat constructor)))) ?_
  refine oV vM ?_
  refine o_nil (c_block ?_)
  refine c_loopR (γ := Nat × Value) [(2, _), (6, _), (7, _)] (fun g => l.length - g.1) (fun g => g.1 ≤ l.length) (fun g => [(8, .int .i64 g.1), (3, g.2)]) (fun g => [Sl ePr v l, Own ePr 129 g.2 (l.take g.1)]) ((0, .slice none 0 0)) (Nat.zero_le _) (by repeat (first | exact trivial | refine ⟨rfl, ?_⟩)) (eX (by repeat constructor)) ?_
  rintro ⟨k, r⟩ hk IH
  dsimp only at hk ⊢
  try dsimp only [List.cons_append, List.nil_append]
  refine c_seq (c_region ?_)
  refine oV (v_lt rfl rfl) ?_
  refine o_nil (c_seq ?_)
  refine c_cond_p rfl (fun hlt => ?_) (fun hlt => ?_)
  · have hk' : k < l.length := by omega
    refine c_skip (c_seq (c_block (c_seq (c_region ?_))))
    refine oV ((by first | exact v_indexAddrN Tryz.underlying30 ti74 rfl rfl (hX (by repeat constructor)) (by omega) | exact v_indexAddr Tryz.underlying30 ti74 rfl rfl (hX (by repeat constructor)) (by omega))) ?_
    refine o_step (s_load_shape ⟨_, Tryz.underlying74⟩ ti74 rfl (dd rfl) (by repeat (first|exact el1 (by omega)|exact el2 (by omega)|exact el3 (by omega)|apply Elem.there)) (pr_open) (fun g => ?_))
    refine o_step (s_alloc ti74 (dd rfl) (fun b5 => ?_))
    refine o_step (s_store_all ti74 rfl rfl (by first | exact CellsV.lit rfl | exact CellsV.one (by first | exact OneC.lit rfl | exact OneC.sl (hX (by repeat constructor)) )) (by repeat (first | exact OneAll.nil | (refine OneAll.cons ?_ ?_; · first | exact OneC.lit rfl | exact OneC.sl (hX (by repeat constructor)) ) | exact OneAll.rd (hX (by repeat constructor)))) rfl (pB (by repeat constructor)) rfl (?_))
    refine o_nil (c_region ?_)
    refine oV vM ?_
    refine oV (vW Tryz.underlying74 ti74) ?_
    refine o_step (s_buildSlice Tryz.underlying24 ti129 rfl rfl rfl (by decide) (by decide) (beside_agg1 (beside_of (Lp := [Sl eStr g.1 l[k].2.2.2.2.1, Sl eStr g.2 l[k].2.2.2.2.2]) (pXs (by repeat constructor)) fun w O => pr_close (z := l[k]) w O)) rfl rfl (dd rfl) fun v1 => ?_)
    refine o_step (s_append Tryz.underlying24 ti129 rfl (by decide) rfl rfl (dd rfl) (pB (by repeat constructor)) (pX (by repeat constructor)) rfl (by (first | omega | (simp only [maxLen, List.length_append, List.length_drop, List.length_take, List.length_nil, List.length_cons]; omega))) (by (first | omega | (simp only [maxLen, List.length_append, List.length_drop, List.length_take, List.length_nil, List.length_cons]; omega))) fun v2 => ?_)
    refine oV vA ?_
    refine o_nil (c_inBlock (c_region ?_))
    refine oV ((by first | exact v_add64 rfl rfl (by omega) | exact v_add rfl rfl)) ?_
    refine oV vM ?_
    refine o_nil ?_
    rw [← List.take_succ_eq_append_getElem hk']
    refine cU (IH ((k + 1, v2)) (by first | omega | (dsimp only; omega)) (by dsimp only; omega))
  · refine c_exit rfl ?_
    refine c_seq (c_region ?_)
    refine oV vM ?_
    refine oV vA ?_
    refine o_nil ?_
    refine c_ret1 Tryz.func61 rfl rfl fun w O hS => ?_
    exact ⟨r, rfl, trivial, by rw [List.take_of_length_le (by omega)] at hS; exact Ent.get hS (eX (by repeat constructor))⟩
set_option maxRecDepth 100000 in
theorem newPr_con (v : Value) (l : List Pr9) (hl : l.length ≤ 1000000) : Con Tryz.prog 40 [v] [Sl ePr v l] (γ := Value) (fun r => r) (fun _ => True) (fun r => [Own ePr 74 r l]) := by
  refine con_of Tryz.func40 rfl (dd rfl) fun w0 O0 => ?_
  refine c_seq (c_region ?_)
  refine oV vA ?_
  refine o_nil (c_seq (c_region ?_))
  refine oV vA ?_
  refine o_nil (c_seq (c_seq (c_region ?_)))
  refine oV vM ?_
  refine oV ((by first | exact v_len_form Tryz.underlying24 rfl | exact v_len_sl Tryz.underlying24 rfl (hX (by repeat constructor)))) ?_
  refine oV vM ?_
  refine o_nil (c_block ?_)
  refine c_loopR (γ := Nat × Value) [(2, _), (6, _), (7, _)] (fun g => l.length - g.1) (fun g => g.1 ≤ l.length) (fun g => [(8, .int .i64 g.1), (3, g.2)]) (fun g => [Sl ePr v l, Own ePr 74 g.2 (l.take g.1)]) ((0, .slice none 0 0)) (Nat.zero_le _) (by repeat (first | exact trivial | refine ⟨rfl, ?_⟩)) (eX (by repeat constructor)) ?_
  rintro ⟨k, r⟩ hk IH
  dsimp only at hk ⊢
  try dsimp only [List.cons_append, List.nil_append]
  refine c_seq (c_region ?_)
  refine oV (v_lt rfl rfl) ?_
  refine o_nil (c_seq ?_)
  refine c_cond_p rfl (fun hlt => ?_) (fun hlt => ?_)
  · have hk' : k < l.length := by omega
    refine c_skip (c_seq (c_block (c_seq (c_region ?_))))
    refine oV ((by first | exact v_indexAddrN Tryz.underlying24 ti129 rfl rfl (hX (by repeat constructor)) (by omega) | exact v_indexAddr Tryz.underlying24 ti129 rfl rfl (hX (by repeat constructor)) (by omega))) ?_
    refine o_step (s_load_shape ⟨_, Tryz.underlying129⟩ ti129 rfl (dd rfl) (by repeat (first|exact el1 (by omega)|exact el2 (by omega)|exact el3 (by omega)|apply Elem.there)) (pr_open) (fun g => ?_))
    refine o_step (s_alloc ti129 (dd rfl) (fun b5 => ?_))
    refine o_step (s_store_all ti129 rfl rfl (by first | exact CellsV.lit rfl | exact CellsV.one (by first | exact OneC.lit rfl | exact OneC.sl (hX (by repeat constructor)) )) (by repeat (first | exact OneAll.nil | (refine OneAll.cons ?_ ?_; · first | exact OneC.lit rfl | exact OneC.sl (hX (by repeat constructor)) ) | exact OneAll.rd (hX (by repeat constructor)))) rfl (pB (by repeat constructor)) rfl (?_))
    refine o_nil (c_region ?_)
    refine oV vM ?_
    refine oV (vW Tryz.underlying129 ti129) ?_
    refine o_step (s_buildSlice Tryz.underlying30 ti74 rfl rfl rfl (by decide) (by decide) (beside_agg1 (beside_of (Lp := [Sl eStr g.1 l[k].2.2.2.2.1, Sl eStr g.2 l[k].2.2.2.2.2]) (pXs (by repeat constructor)) fun w O => pr_close (z := l[k]) w O)) rfl rfl (dd rfl) fun v1 => ?_)
    refine o_step (s_append Tryz.underlying30 ti74 rfl (by decide) rfl rfl (dd rfl) (pB (by repeat constructor)) (pX (by repeat constructor)) rfl (by (first | omega | (simp only [maxLen, List.length_append, List.length_drop, List.length_take, List.length_nil, List.length_cons]; omega))) (by (first | omega | (simp only [maxLen, List.length_append, List.length_drop, List.length_take, List.length_nil, List.length_cons]; omega))) fun v2 => ?_)
    refine oV vA ?_
    refine o_nil (c_inBlock (c_region ?_))
    refine oV ((by first | exact v_add64 rfl rfl (by omega) | exact v_add rfl rfl)) ?_
    refine oV vM ?_
    refine o_nil ?_
    rw [← List.take_succ_eq_append_getElem hk']
    refine cU (IH ((k + 1, v2)) (by first | omega | (dsimp only; omega)) (by dsimp only; omega))
  · refine c_exit rfl ?_
    refine c_seq (c_region ?_)
    refine oV vM ?_
    refine oV vA ?_
    refine o_nil ?_
    refine c_ret1 Tryz.func40 rfl rfl fun w O hS => ?_
    exact ⟨r, rfl, trivial, by rw [List.take_of_length_le (by omega)] at hS; exact Ent.get hS (eX (by repeat constructor))⟩
end Go.Proofs.YtlfehnnmpkohkaaGreatDoor
/- Chapter 16: the law's own helpers. -/
namespace Go.Proofs.YtlfehnnmpkohkaaGreatDoor
open Go Go.SL Go.Lib
def manyQ (q : Rq9) : Nat := q.2.2.2.1.size + q.2.2.2.2.1.size + q.2.2.2.2.2.1.length + q.2.2.2.2.2.2.1.length + many3 q.2.2.2.2.2.2.2 + sumS q.2.2.2.2.2.2.1
def manyN (n : Nt9) : Nat := n.2.1.length + sumS n.2.1
def sizeS (s : Rs9) : Nat := many3 s.2.2.1 + s.2.2.2.1.length + s.2.2.2.2.1.length + s.2.2.2.2.2.length + sumS s.2.2.2.2.1 + (s.2.2.2.2.2.map manyN).sum
attribute [local irreducible] Cfg Kont StepK Val Con Qops Any Sl Own Blk BlkR Rd Pu ExA AllA Has Pick Ent Elem Beside Callable TI Lone OwnO AndA
set_option maxHeartbeats 1000000 in
set_option maxRecDepth 100000 in
theorem writes6_con (k : Int) : Con Tryz.prog 17 [.int .i64 k] [] (γ := Unit) (fun _ => .bool (decide (0 ≤ k ∧ k ≤ 6))) (fun _ => True) (fun _ => []) := by
  refine con_of Tryz.func17 rfl (dd rfl) fun w0 O0 => ?_
  refine c_seq (c_region ?_)
  refine oV vA ?_
  refine o_nil (c_seq (c_region ?_))
  refine oV vM ?_
  refine oV (v_ge rfl rfl) ?_
  refine oV vM ?_
  refine o_guard_t rfl rfl (fun g => ?_) (fun g => ?_)
  · refine oV vM ?_
    refine oN ?_
    refine oV (v_le rfl rfl) ?_
    refine oV vT ?_
    refine oV vA ?_
    refine o_nil ?_
    refine c_ret1 Tryz.func17 rfl rfl fun w O hS => ?_
    exact ⟨(), congrArg Value.bool (decide_eq_decide.2 ⟨fun h => ⟨g, h⟩, fun h => h.2⟩), trivial, trivial⟩
  · refine oX ?_
    refine oX ?_
    refine oV vQ ?_
    refine oV vA ?_
    refine o_nil ?_
    refine c_ret1 Tryz.func17 rfl rfl fun w O hS => ?_
    exact ⟨(), congrArg Value.bool (decide_eq_false fun h => g h.1).symm, trivial, trivial⟩
set_option maxHeartbeats 1000000 in
set_option maxRecDepth 100000 in
theorem oldN_con (v : Value) (l : List Nt9) (hl : l.length ≤ 1000000) : Con Tryz.prog 36 [v] [Sl eNt v l] (γ := Value) (fun r => r) (fun _ => True) (fun r => [Own eNt 121 r l]) := by
  refine con_of Tryz.func36 rfl (dd rfl) fun w0 O0 => ?_
  refine c_seq (c_region ?_)
  refine oV vA ?_
  refine o_nil (c_seq (c_region ?_))
  refine oV vA ?_
  refine o_nil (c_seq (c_seq (c_region ?_)))
  refine oV vM ?_
  refine oV ((by first | exact v_len_form Tryz.underlying53 rfl | exact v_len_sl Tryz.underlying53 rfl (hX (by repeat constructor)))) ?_
  refine oV vM ?_
  refine o_nil (c_block ?_)
  refine c_loopR (γ := Nat × Value) [(2, _), (6, _), (7, _)] (fun g => l.length - g.1) (fun g => g.1 ≤ l.length) (fun g => [(8, .int .i64 g.1), (3, g.2)]) (fun g => [Sl eNt v l, Own eNt 121 g.2 (l.take g.1)]) ((0, .slice none 0 0)) (Nat.zero_le _) (by repeat (first | exact trivial | refine ⟨rfl, ?_⟩)) (eX (by repeat constructor)) ?_
  rintro ⟨k, r⟩ hk IH
  dsimp only at hk ⊢
  try dsimp only [List.cons_append, List.nil_append]
  refine c_seq (c_region ?_)
  refine oV (v_lt rfl rfl) ?_
  refine o_nil (c_seq ?_)
  refine c_cond_p rfl (fun hlt => ?_) (fun hlt => ?_)
  · have hk' : k < l.length := by omega
    refine c_skip (c_seq (c_block (c_seq (c_region ?_))))
    refine oV ((by first | exact v_indexAddrN Tryz.underlying53 ti72 rfl rfl (hX (by repeat constructor)) (by omega) | exact v_indexAddr Tryz.underlying53 ti72 rfl rfl (hX (by repeat constructor)) (by omega))) ?_
    refine o_step (s_load_shape ⟨_, Tryz.underlying72⟩ ti72 rfl (dd rfl) (by repeat (first|exact el1 (by omega)|exact el2 (by omega)|exact el3 (by omega)|apply Elem.there)) (nt_open) (fun g => ?_))
    refine o_step (s_alloc ti72 (dd rfl) (fun b5 => ?_))
    refine o_step (s_store_all ti72 rfl rfl (by first | exact CellsV.lit rfl | exact CellsV.one (by first | exact OneC.lit rfl | exact OneC.sl (hX (by repeat constructor)) )) (by repeat (first | exact OneAll.nil | (refine OneAll.cons ?_ ?_; · first | exact OneC.lit rfl | exact OneC.sl (hX (by repeat constructor)) ) | exact OneAll.rd (hX (by repeat constructor)))) rfl (pB (by repeat constructor)) rfl (?_))
    refine o_nil (c_region ?_)
    refine oV vM ?_
    refine oV (vW Tryz.underlying72 ti72) ?_
    refine o_step (s_buildSlice Tryz.underlying48 ti121 rfl rfl rfl (by decide) (by decide) (beside_agg1 (beside_of (Lp := [Sl eStr g l[k].2.1]) (pXs (by repeat constructor)) fun w O => nt_rd w O)) rfl rfl (dd rfl) fun v1 => ?_)
    refine o_step (s_append Tryz.underlying48 ti121 rfl (by decide) rfl rfl (dd rfl) (pB (by repeat constructor)) (pX (by repeat constructor)) rfl (by (first | omega | (simp only [maxLen, List.length_append, List.length_drop, List.length_take, List.length_nil, List.length_cons]; omega))) (by (first | omega | (simp only [maxLen, List.length_append, List.length_drop, List.length_take, List.length_nil, List.length_cons]; omega))) fun v2 => ?_)
    refine oV vA ?_
    refine o_nil (c_inBlock (c_region ?_))
    refine oV ((by first | exact v_add64 rfl rfl (by omega) | exact v_add rfl rfl)) ?_
    refine oV vM ?_
    refine o_nil ?_
    rw [← List.take_succ_eq_append_getElem hk']
    refine cU (IH ((k + 1, v2)) (by first | omega | (dsimp only; omega)) (by dsimp only; omega))
  · refine c_exit rfl ?_
    refine c_seq (c_region ?_)
    refine oV vM ?_
    refine oV vA ?_
    refine o_nil ?_
    refine c_ret1 Tryz.func36 rfl rfl fun w O hS => ?_
    exact ⟨r, rfl, trivial, by rw [List.take_of_length_le (by omega)] at hS; exact Ent.get hS (eX (by repeat constructor))⟩
set_option maxHeartbeats 1000000 in
set_option maxRecDepth 100000 in
theorem oldS_con (s : Rs9) (l i t n : Value) (hl : s.2.2.1.length ≤ 1000000) (hn : s.2.2.2.2.2.length ≤ 1000000) : Con Tryz.prog 32 [.agg (rsC s l i t n).toArray] [Sl ePr l s.2.2.1, Sl (eInt .i64) i s.2.2.2.1, Sl eStr t s.2.2.2.2.1, Sl eNt n s.2.2.2.2.2] (γ := Value × Value) (fun r => .agg (rsC s r.1 i t r.2).toArray) (fun _ => True) (fun r => [Sl ePr r.1 s.2.2.1, Sl (eInt .i64) i s.2.2.2.1, Sl eStr t s.2.2.2.2.1, Sl eNt r.2 s.2.2.2.2.2]) := by
  have h := con_pu (oldPr_con l s.2.2.1 hl) fun _ _ _ h => form_of h
  have h' := con_pu (oldN_con n s.2.2.2.2.2 hn) fun _ _ _ h => form_of h
  dsimp only [rsC]
  refine con_of Tryz.func32 rfl (dd rfl) fun w0 O0 => ?_
  refine c_seq (c_region ?_)
  refine o_step (s_box rfl (dd rfl) (fun b1 => ?_))
  refine o_step (s_alloc ti50 (dd rfl) (fun b2 => ?_))
  refine o_nil (c_seq ?_)
  refine c_held [BlkR b1 55 [.int .i64 s.1, .int .i64 s.2.1, l, i, t, n], Sl ePr l s.2.2.1, Sl (eInt .i64) i s.2.2.2.1, Sl eStr t s.2.2.2.2.1, Sl eNt n s.2.2.2.2.2] rfl ?_
  refine aT 0 rfl (vF 0 Tryz.underlying55 ti3) ?_
  refine aT 1 rfl (vL lone3) ?_
  refine aT 2 rfl (vF 1 Tryz.underlying55 ti3) ?_
  refine aT 3 rfl (vL lone3) ?_
  refine aT 4 rfl (vF 2 Tryz.underlying55 ti30) ?_
  refine aT 5 rfl (vL lone30) ?_
  refine aT 7 rfl (vF 3 Tryz.underlying55 ti22) ?_
  refine aT 8 rfl (vL lone22) ?_
  refine aT 9 rfl (vF 4 Tryz.underlying55 ti23) ?_
  refine aT 10 rfl (vL lone23) ?_
  refine aT 11 rfl (vF 5 Tryz.underlying55 ti53) ?_
  refine aT 12 rfl (vL lone53) ?_
  refine aO 6 rfl (s_callf cl61 (h) rfl (dd rfl) (pXs (by repeat constructor)) (fun r hr => aK ?_))
  obtain ⟨-, a0, c0, rfl⟩ := hr
  refine aO 13 rfl (s_callf cl36 (h') rfl (dd rfl) (pXs (by repeat constructor)) (fun r' hr' => aK ?_))
  obtain ⟨-, a1, c1, rfl⟩ := hr'
  refine aT 14 rfl (v_buildS (places := [(0, 1), (1, 1), (2, 1), (3, 1), (4, 1), (5, 1)]) (cells := [_, _, _, _, _, _]) Tryz.underlying50 ti50 (by kernel_rfl) rfl (by repeat (first | exact PartsC.nil | (apply PartsC.one (by first | exact OneC.lit rfl | exact OneC.sl (hX (by repeat constructor)) )) | (apply PartsC.lit rfl))) rfl) ?_
  refine aS 15 rfl ti50 ?_
  refine a_done (by kernel_rfl) ?_ _
  refine c_ret_cell Tryz.func32 rfl ⟨_, Tryz.underlying50⟩ ti50 rfl (hX (by repeat constructor)) fun w O hS => ?_
  exact ⟨(.slice a0 s.2.2.1.length c0, .slice a1 s.2.2.2.2.2.length c1), rfl, trivial, Ent.get hS (eX (by repeat constructor))⟩
set_option maxHeartbeats 1000000 in
set_option maxRecDepth 100000 in
theorem newS_con (s : Rs9) (l i t n : Value) (hl : s.2.2.1.length ≤ 1000000) (hn : s.2.2.2.2.2.length ≤ 1000000) : Con Tryz.prog 27 [.agg (rsC s l i t n).toArray] [Sl ePr l s.2.2.1, Sl (eInt .i64) i s.2.2.2.1, Sl eStr t s.2.2.2.2.1, Sl eNt n s.2.2.2.2.2] (γ := Value × Value) (fun r => .agg (rsC s r.1 i t r.2).toArray) (fun _ => True) (fun r => [Sl ePr r.1 s.2.2.1, Sl (eInt .i64) i s.2.2.2.1, Sl eStr t s.2.2.2.2.1, Sl eNt r.2 s.2.2.2.2.2]) := by
  have h := con_pu (newPr_con l s.2.2.1 hl) fun _ _ _ h => form_of h
  dsimp only [rsC]
  refine con_of Tryz.func27 rfl (dd rfl) fun w0 O0 => ?_
  refine c_seq (c_region ?_)
  refine o_step (s_box rfl (dd rfl) (fun b1 => ?_))
  refine o_step (s_alloc ti55 (dd rfl) (fun b2 => ?_))
  refine o_nil (c_seq ?_)
  refine c_joinR (γ := Nat × Option Addr × Nat) [(1, _), (2, _)] (fun _ => True) (fun g => [(3, ptr g.1)]) (fun g => [Blk b1 50 [.int .i64 s.1, .int .i64 s.2.1, l, i, t, n], Blk b2 55 [.int .i64 0, .int .i64 0, .slice none 0 0, .slice none 0 0, .slice none 0 0, .slice none 0 0], Blk g.1 55 [.int .i64 s.1, .int .i64 s.2.1, .slice g.2.1 s.2.2.1.length g.2.2, i, t, .slice none 0 0], Sl ePr (.slice g.2.1 s.2.2.1.length g.2.2) s.2.2.1, Sl (eInt .i64) i s.2.2.2.1, Sl eStr t s.2.2.2.2.1, Sl eNt n s.2.2.2.2.2]) (by repeat (first | exact trivial | refine ⟨rfl, ?_⟩)) ?_ ?_
  rotate_left
  · intro MEET
    skip
    refine c_held [BlkR b1 50 [.int .i64 s.1, .int .i64 s.2.1, l, i, t, n], Sl ePr l s.2.2.1, Sl (eInt .i64) i s.2.2.2.1, Sl eStr t s.2.2.2.2.1, Sl eNt n s.2.2.2.2.2] rfl ?_
    refine aT 0 rfl (vF 0 Tryz.underlying50 ti3) ?_
    refine aT 1 rfl (vL lone3) ?_
    refine aT 2 rfl (vF 1 Tryz.underlying50 ti3) ?_
    refine aT 3 rfl (vL lone3) ?_
    refine aT 4 rfl (vF 2 Tryz.underlying50 ti24) ?_
    refine aT 5 rfl (vL lone24) ?_
    refine aT 7 rfl (vF 3 Tryz.underlying50 ti22) ?_
    refine aT 8 rfl (vL lone22) ?_
    refine aT 9 rfl (vF 4 Tryz.underlying50 ti23) ?_
    refine aT 10 rfl (vL lone23) ?_
    refine a_two 6 12 rfl rfl (by kernel_rfl) ?_ ?_
    · skip
      refine s_callf cl40 (h) rfl (dd rfl) (pXs (by repeat constructor)) (fun r hr => aK ?_)
      obtain ⟨-, a0, c0, rfl⟩ := hr
      refine aT 11 rfl (v_buildS (places := [(0, 1), (1, 1), (2, 1), (3, 1), (4, 1), (5, 1)]) (cells := [_, _, _, _, _, .slice none 0 0]) Tryz.underlying55 ti55 (by kernel_rfl) rfl (by repeat (first | exact PartsC.nil | (apply PartsC.one (by first | exact OneC.lit rfl | exact OneC.sl (hX (by repeat constructor)) )) | (apply PartsC.lit rfl))) rfl) ?_
      refine aO 12 rfl (s_alloc ti55 (dd rfl) (fun b3 => aK ?_))
      refine aS 13 rfl ti55 ?_
      refine a_done (by kernel_rfl) ?_ _
      refine cU (MEET ((b3, a0, c0)) (trivial))
    · skip
      refine s_alloc ti55 (dd rfl) (fun b3 => aK ?_)
      refine aO 6 rfl (s_callf cl40 (h) rfl (dd rfl) (pXs (by repeat constructor)) (fun r hr => aK ?_))
      obtain ⟨-, a0, c0, rfl⟩ := hr
      refine aT 11 rfl (v_buildS (places := [(0, 1), (1, 1), (2, 1), (3, 1), (4, 1), (5, 1)]) (cells := [_, _, _, _, _, .slice none 0 0]) Tryz.underlying55 ti55 (by kernel_rfl) rfl (by repeat (first | exact PartsC.nil | (apply PartsC.one (by first | exact OneC.lit rfl | exact OneC.sl (hX (by repeat constructor)) )) | (apply PartsC.lit rfl))) rfl) ?_
      refine aS 13 rfl ti55 ?_
      refine a_done (by kernel_rfl) ?_ _
      refine cU (MEET ((b3, a0, c0)) (trivial))
  rintro ⟨b3, a0, c0⟩ -
  dsimp only [List.cons_append, List.nil_append]
  refine c_seq (c_seq (c_region ?_))
  refine oV (vF 5 Tryz.underlying50 ti48) ?_
  refine oV (vL lone48) ?_
  refine oV ((by first | exact v_len_form Tryz.underlying48 rfl | exact v_len_sl Tryz.underlying48 rfl (hX (by repeat constructor)))) ?_
  refine oV vM ?_
  refine o_nil (c_block ?_)
  refine c_loopR (γ := Nat × Value) [(2, _), (3, _), (19, _), (20, _)] (fun g => s.2.2.2.2.2.length - g.1) (fun g => g.1 ≤ s.2.2.2.2.2.length) (fun g => [(21, .int .i64 g.1)]) (fun g => [Blk b2 55 [.int .i64 0, .int .i64 0, .slice none 0 0, .slice none 0 0, .slice none 0 0, .slice none 0 0], Blk b3 55 [.int .i64 s.1, .int .i64 s.2.1, .slice a0 s.2.2.1.length c0, i, t, g.2], Sl ePr (.slice a0 s.2.2.1.length c0) s.2.2.1, Sl (eInt .i64) i s.2.2.2.1, Sl eStr t s.2.2.2.2.1, Sl eNt n s.2.2.2.2.2, Own eNt 72 g.2 (s.2.2.2.2.2.take g.1)]) ((0, .slice none 0 0)) (Nat.zero_le _) (by repeat (first | exact trivial | refine ⟨rfl, ?_⟩)) (eX (by repeat constructor)) ?_
  rintro ⟨k, r⟩ hk IH
  dsimp only at hk ⊢
  try dsimp only [List.cons_append, List.nil_append]
  refine c_seq (c_region ?_)
  refine oV (v_lt rfl rfl) ?_
  refine o_nil (c_seq ?_)
  refine c_cond_p rfl (fun hlt => ?_) (fun hlt => ?_)
  · have hk' : k < s.2.2.2.2.2.length := by omega
    refine c_skip (c_seq (c_block (c_seq (c_region ?_))))
    refine oV ((by first | exact v_indexAddrN Tryz.underlying48 ti121 rfl rfl (hX (by repeat constructor)) (by omega) | exact v_indexAddr Tryz.underlying48 ti121 rfl rfl (hX (by repeat constructor)) (by omega))) ?_
    refine o_step (s_load_shape ⟨_, Tryz.underlying121⟩ ti121 rfl (dd rfl) (by repeat (first|exact el1 (by omega)|exact el2 (by omega)|exact el3 (by omega)|apply Elem.there)) (nt_open) (fun g => ?_))
    refine o_step (s_alloc ti121 (dd rfl) (fun b5 => ?_))
    refine o_step (s_store_all ti121 rfl rfl (by first | exact CellsV.lit rfl | exact CellsV.one (by first | exact OneC.lit rfl | exact OneC.sl (hX (by repeat constructor)) )) (by repeat (first | exact OneAll.nil | (refine OneAll.cons ?_ ?_; · first | exact OneC.lit rfl | exact OneC.sl (hX (by repeat constructor)) ) | exact OneAll.rd (hX (by repeat constructor)))) rfl (pB (by repeat constructor)) rfl (?_))
    refine o_nil (c_region ?_)
    refine oV (vF 5 Tryz.underlying55 ti53) ?_
    refine oV (vL lone53) ?_
    refine oV (vW Tryz.underlying121 ti121) ?_
    refine o_step (s_buildSlice Tryz.underlying53 ti72 rfl rfl rfl (by decide) (by decide) (beside_agg1 (beside_of (Lp := [Sl eStr g s.2.2.2.2.2[k].2.1]) (pXs (by repeat constructor)) fun w O => nt_rd w O)) rfl rfl (dd rfl) fun v1 => ?_)
    refine o_step (s_append Tryz.underlying53 ti72 rfl (by decide) rfl rfl (dd rfl) (pB (by repeat constructor)) (pX (by repeat constructor)) rfl (by (first | omega | (simp only [maxLen, List.length_append, List.length_drop, List.length_take, List.length_nil, List.length_cons]; omega))) (by (first | omega | (simp only [maxLen, List.length_append, List.length_drop, List.length_take, List.length_nil, List.length_cons]; omega))) fun v2 => ?_)
    refine oV (vF 5 Tryz.underlying55 ti53) ?_
    refine o_step (s_store1 ti53 rfl rfl (by first | exact OneC.lit rfl | exact OneC.sl (hX (by repeat constructor)) ) (pB (by repeat constructor)) (by first | decide | exact Nat.le_of_ble_eq_true rfl | simp) (by first | (dsimp only [List.set_cons_succ, List.set_cons_zero]; first | done | exact rfl) | rfl) (?_))
    refine o_nil (c_inBlock (c_region ?_))
    refine oV ((by first | exact v_add64 rfl rfl (by omega) | exact v_add rfl rfl)) ?_
    refine oV vM ?_
    refine o_nil ?_
    rw [← List.take_succ_eq_append_getElem hk']
    refine cU (IH ((k + 1, v2)) (by first | omega | (dsimp only; omega)) (by dsimp only; omega))
  · refine c_exit rfl ?_
    refine c_seq (c_region ?_)
    refine oV (vW Tryz.underlying55 ti55) ?_
    refine o_step (s_store_all ti55 rfl rfl (by first | exact CellsV.lit rfl | exact CellsV.one (by first | exact OneC.lit rfl | exact OneC.sl (hX (by repeat constructor)) )) (by repeat (first | exact OneAll.nil | (refine OneAll.cons ?_ ?_; · first | exact OneC.lit rfl | exact OneC.sl (hX (by repeat constructor)) ) | exact OneAll.rd (hX (by repeat constructor)))) rfl (pB (by repeat constructor)) rfl (?_))
    refine o_nil ?_
    refine c_ret_cell Tryz.func27 rfl ⟨_, Tryz.underlying55⟩ ti55 rfl (hX (by repeat constructor)) fun w O hS => ?_
    exact ⟨(.slice a0 s.2.2.1.length c0, r), rfl, trivial, by rw [List.take_of_length_le (by omega)] at hS; exact Ent.get hS (eX (by repeat constructor))⟩
end Go.Proofs.YtlfehnnmpkohkaaGreatDoor

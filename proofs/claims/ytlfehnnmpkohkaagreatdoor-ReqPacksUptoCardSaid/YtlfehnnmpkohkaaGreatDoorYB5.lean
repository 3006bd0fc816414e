/- The texts H7, H8, E7, H9, HA, HB, HC, HD, S4, HE, HF, E9, E8, QO, HG, KA, KB, KC, R4, U3, one behind the other. -/
import Derived.Test.YtlfehnnmpkohkaaGreatDoorYB4
import Derived.Laws.OwnMore
import Derived.Lib.SlBytesConst
import Derived.Test.YtlfehnnmpkohkaaGreatDoorRows
import Derived.Lay
import Derived.Stop.LaidErr
import Derived.Lib.LaidTab
import Derived.Deep.DeepHandedRow
import Derived.Deep.DeepWitnessRowRef
set_option linter.unusedVariables false
set_option linter.unusedSimpArgs false
/- Chapter 16: which requests may be: the document's walk. -/
namespace Go.Proofs.YtlfehnnmpkohkaaGreatDoor
open Go Go.SL Go.Lib
/-- Names that rise, as the document looks at them. -/
theorem files_at {f : List ByteArray} {k : Nat} {last : ByteArray} (hk : k < f.length) (hl : k = 0 ∧ last = ⟨#[]⟩ ∨ ∃ h : k - 1 < f.length, 0 < k ∧ last = f[k - 1]) : filesP last (f.drop k) = (!decide (¬ namedP f[k] = true ∨ (0 < k ∧ (Op.bytesLess f[k].data.toList (f[k - 1]'(by omega)).data.toList || decide (f[k] = f[k - 1]'(by omega))) = true)) && filesP f[k] (f.drop (k + 1))) := by
  rw [files_step hk]
  congr 1
  rcases hl with ⟨rfl, rfl⟩ | ⟨h1, h0, rfl⟩
  · cases hn : namedP f[0] with
    | false => simp
    | true =>
      have e1 : Op.bytesLess f[0].data.toList (⟨#[]⟩ : ByteArray).data.toList = false := by
        show Op.bytesLess f[0].data.toList [] = false
        cases f[0].data.toList <;> rfl
      have e2 : decide (f[0] = (⟨#[]⟩ : ByteArray)) = false := decide_eq_false fun e => by rw [e, named_nil] at hn; cases hn
      rw [e1, e2]; simp
  · rw [Bool.eq_iff_iff]
    simp only [Bool.not_eq_true', Bool.or_eq_false_iff, Bool.not_eq_false', decide_eq_false_iff_not, not_or, Classical.not_not, not_and, Bool.not_eq_true]
    constructor
    · rintro ⟨a, b⟩
      exact ⟨by rw [a]; decide, fun _ => b⟩
    · rintro ⟨a, b⟩
      exact ⟨by simpa using a, b h0⟩
attribute [local irreducible] Cfg Kont StepK Val Con Qops Any Sl Own Blk BlkR Rd Pu ExA AllA Has Pick Ent Elem Beside Callable TI Lone OwnO AndA
set_option maxHeartbeats 1000000 in
set_option maxRecDepth 100000 in
theorem reqRightR_con (q : Rq9) (d f l : Value) (hq : FineQ q) : Con Tryz.prog 14 [.agg #[.int .i64 q.1, .int .i64 q.2.1, .int .i64 q.2.2.1, .string q.2.2.2.1, .string q.2.2.2.2.1, d, f, l]] [Sl (eInt .i64) d q.2.2.2.2.2.1, Sl eStr f q.2.2.2.2.2.2.1, Sl ePr l q.2.2.2.2.2.2.2] (γ := Unit) (fun _ => .bool (decide (RightQ q))) (fun _ => True) (fun _ => []) := by
  have hfl := hq.files.2
  have hlen := hq.files.1
  have hdl := hq.deps
  have hL := rightsRef_con l q.2.2.2.2.2.2.2 hq.prims
  have hT := right_ref_con q.2.2.2.2.1 hq.note
  have hN := namedRef_con q.2.2.2.1 (Nat.le_trans hq.name (by decide))
  rw [right_line] at hT
  refine con_of Tryz.func14 rfl (dd rfl) fun w0 O0 => ?_
  refine c_seq (c_region ?_)
  refine o_step (s_box rfl (dd rfl) (fun b1 => ?_))
  refine oV vA ?_
  refine o_nil (c_seq (c_seq ?_))
  refine c_env (env' := [(1, _), (2, _)]) (by repeat (first | exact trivial | refine ⟨rfl, ?_⟩)) ?_
  refine c_joinb (d := 52) (decide (q.1 < 0 ∨ 12 < q.1 ∨ q.2.1 < 0 ∨ 1099511627776 < q.2.1 ∨ 24 < q.2.2.2.2.2.2.2.length ∨ ¬ q.2.2.2.2.2.2.2.all rightP = true ∨ ¬ lineP q.2.2.2.2.1 = true ∨ 8 < q.2.2.2.2.2.1.length ∨ 8 < q.2.2.2.2.2.2.1.length)) ?_ ?_
  rotate_left
  · intro J
    refine c_region ?_
    refine oV (vF 0 Tryz.underlying26 ti3) ?_
    refine oV (vL lone3) ?_
    refine oV (v_lt rfl rfl) ?_
    refine oV vM ?_
    first | refine o_guard_f rfl rfl (fun g8 => ?_) (fun g8 => ?_) | refine o_guard rfl rfl (fun g8 => ?_) (fun g8 => ?_)
    · refine oV (vF 0 Tryz.underlying26 ti3) ?_
      refine oN ?_
      refine oV (vL lone3) ?_
      refine oN ?_
      refine oV (v_gt rfl rfl) ?_
      refine oV vQ ?_
      refine oV vM ?_
      first | refine o_guard_f rfl rfl (fun g13 => ?_) (fun g13 => ?_) | refine o_guard rfl rfl (fun g13 => ?_) (fun g13 => ?_)
      · refine oV (vF 1 Tryz.underlying26 ti3) ?_
        refine oN ?_
        refine oV (vL lone3) ?_
        refine oN ?_
        refine oV (v_lt rfl rfl) ?_
        refine oV vQ ?_
        refine oV vM ?_
        first | refine o_guard_f rfl rfl (fun g18 => ?_) (fun g18 => ?_) | refine o_guard rfl rfl (fun g18 => ?_) (fun g18 => ?_)
        · refine oV (vF 1 Tryz.underlying26 ti3) ?_
          refine oN ?_
          refine oV (vL lone3) ?_
          refine oN ?_
          refine oV (v_gt rfl rfl) ?_
          refine oV vQ ?_
          refine oV vM ?_
          first | refine o_guard_f rfl rfl (fun g23 => ?_) (fun g23 => ?_) | refine o_guard rfl rfl (fun g23 => ?_) (fun g23 => ?_)
          · refine oV (vF 7 Tryz.underlying26 ti24) ?_
            refine oN ?_
            refine oV (vL lone24) ?_
            refine oN ?_
            refine oV ((by first | exact v_len_form Tryz.underlying24 rfl | exact v_len_sl Tryz.underlying24 rfl (hX (by repeat constructor)))) ?_
            refine oN ?_
            refine oV (v_gt rfl rfl) ?_
            refine oV vQ ?_
            refine oV vM ?_
            first | refine o_guard_f rfl rfl (fun g29 => ?_) (fun g29 => ?_) | refine o_guard rfl rfl (fun g29 => ?_) (fun g29 => ?_)
            · refine oV (vF 7 Tryz.underlying26 ti24) ?_
              refine oN ?_
              refine oV (vL lone24) ?_
              refine oN ?_
              refine o_step (s_callf_keep cl41 (hL) rfl (dd rfl) (rX (by repeat constructor)) (fun _ => sX) (fun _ _ => ?_))
              refine oN ?_
              refine oV (v_not rfl) ?_
              refine oV vQ ?_
              refine oV vM ?_
              first | refine o_guard_f rfl rfl (fun g35 => ?_) (fun g35 => ?_) | refine o_guard rfl rfl (fun g35 => ?_) (fun g35 => ?_)
              · refine oV (vF 4 Tryz.underlying26 ti9) ?_
                refine oN ?_
                refine oV (vL lone9) ?_
                refine oN ?_
                refine o_step (s_callf_keep cl42 (hT) rfl (dd rfl) (rX (by repeat constructor)) (fun _ => sX) (fun _ _ => ?_))
                refine oN ?_
                refine oV (v_not rfl) ?_
                refine oV vQ ?_
                refine oV vM ?_
                first | refine o_guard_f rfl rfl (fun g41 => ?_) (fun g41 => ?_) | refine o_guard rfl rfl (fun g41 => ?_) (fun g41 => ?_)
                · refine oV (vF 5 Tryz.underlying26 ti22) ?_
                  refine oN ?_
                  refine oV (vL lone22) ?_
                  refine oN ?_
                  refine oV ((by first | exact v_len_form Tryz.underlying22 rfl | exact v_len_sl Tryz.underlying22 rfl (hX (by repeat constructor)))) ?_
                  refine oN ?_
                  refine oV (v_gt rfl rfl) ?_
                  refine oV vQ ?_
                  refine oV vM ?_
                  first | refine o_guard_f rfl rfl (fun g47 => ?_) (fun g47 => ?_) | refine o_guard rfl rfl (fun g47 => ?_) (fun g47 => ?_)
                  · refine oV (vF 6 Tryz.underlying26 ti23) ?_
                    refine oN ?_
                    refine oV (vL lone23) ?_
                    refine oN ?_
                    refine oV ((by first | exact v_len_form Tryz.underlying23 rfl | exact v_len_sl Tryz.underlying23 rfl (hX (by repeat constructor)))) ?_
                    refine oN ?_
                    refine oV (v_gt rfl rfl) ?_
                    refine oV vQ ?_
                    refine o_nil ?_
                    exact cJ J rfl (by clear hfl hq hL hT hN; first | rfl | (simp_all; done) | (simp_all; omega) | exact decide_eq_decide.2 ⟨fun h => .inr (.inr (.inr (.inr (.inr (.inr (.inr (.inr (by omega)))))))), fun h => by rcases h with h | h | h | h | h | h | h | h | h <;> first | omega | (simp_all; done)⟩ | exact (decide_eq_true (by omega)).symm)
                  · refine oX ?_
                    iterate 3 refine oX ?_
                    refine oV vT ?_
                    refine o_nil ?_
                    exact cJ J rfl (by clear hfl hq hL hT hN; first | rfl | (simp_all; done) | (simp_all; omega) | exact decide_eq_decide.2 ⟨fun h => .inr (.inr (.inr (.inr (.inr (.inr (.inr (.inr (by omega)))))))), fun h => by rcases h with h | h | h | h | h | h | h | h | h <;> first | omega | (simp_all; done)⟩ | exact (decide_eq_true (by omega)).symm)
                · refine oX ?_
                  iterate 3 refine oX ?_
                  refine oV vT ?_
                  refine oV vM ?_
                  iterate 4 refine oX ?_
                  refine oV vT ?_
                  refine o_nil ?_
                  exact cJ J rfl (by clear hfl hq hL hT hN; first | rfl | (simp_all; done) | (simp_all; omega) | exact decide_eq_decide.2 ⟨fun h => .inr (.inr (.inr (.inr (.inr (.inr (.inr (.inr (by omega)))))))), fun h => by rcases h with h | h | h | h | h | h | h | h | h <;> first | omega | (simp_all; done)⟩ | exact (decide_eq_true (by omega)).symm)
              · refine oX ?_
                iterate 3 refine oX ?_
                refine oV vT ?_
                refine oV vM ?_
                iterate 4 refine oX ?_
                refine oV vT ?_
                refine oV vM ?_
                iterate 4 refine oX ?_
                refine oV vT ?_
                refine o_nil ?_
                exact cJ J rfl (by clear hfl hq hL hT hN; first | rfl | (simp_all; done) | (simp_all; omega) | exact decide_eq_decide.2 ⟨fun h => .inr (.inr (.inr (.inr (.inr (.inr (.inr (.inr (by omega)))))))), fun h => by rcases h with h | h | h | h | h | h | h | h | h <;> first | omega | (simp_all; done)⟩ | exact (decide_eq_true (by omega)).symm)
            · refine oX ?_
              iterate 3 refine oX ?_
              refine oV vT ?_
              refine oV vM ?_
              iterate 4 refine oX ?_
              refine oV vT ?_
              refine oV vM ?_
              iterate 4 refine oX ?_
              refine oV vT ?_
              refine oV vM ?_
              iterate 4 refine oX ?_
              refine oV vT ?_
              refine o_nil ?_
              exact cJ J rfl (by clear hfl hq hL hT hN; first | rfl | (simp_all; done) | (simp_all; omega) | exact decide_eq_decide.2 ⟨fun h => .inr (.inr (.inr (.inr (.inr (.inr (.inr (.inr (by omega)))))))), fun h => by rcases h with h | h | h | h | h | h | h | h | h <;> first | omega | (simp_all; done)⟩ | exact (decide_eq_true (by omega)).symm)
          · refine oX ?_
            iterate 3 refine oX ?_
            refine oV vT ?_
            refine oV vM ?_
            iterate 4 refine oX ?_
            refine oV vT ?_
            refine oV vM ?_
            iterate 4 refine oX ?_
            refine oV vT ?_
            refine oV vM ?_
            iterate 4 refine oX ?_
            refine oV vT ?_
            refine oV vM ?_
            iterate 4 refine oX ?_
            refine oV vT ?_
            refine o_nil ?_
            exact cJ J rfl (by clear hfl hq hL hT hN; first | rfl | (simp_all; done) | (simp_all; omega) | exact decide_eq_decide.2 ⟨fun h => .inr (.inr (.inr (.inr (.inr (.inr (.inr (.inr (by omega)))))))), fun h => by rcases h with h | h | h | h | h | h | h | h | h <;> first | omega | (simp_all; done)⟩ | exact (decide_eq_true (by omega)).symm)
        · refine oX ?_
          iterate 2 refine oX ?_
          refine oV vT ?_
          refine oV vM ?_
          iterate 4 refine oX ?_
          refine oV vT ?_
          refine oV vM ?_
          iterate 4 refine oX ?_
          refine oV vT ?_
          refine oV vM ?_
          iterate 4 refine oX ?_
          refine oV vT ?_
          refine oV vM ?_
          iterate 4 refine oX ?_
          refine oV vT ?_
          refine oV vM ?_
          iterate 4 refine oX ?_
          refine oV vT ?_
          refine o_nil ?_
          exact cJ J rfl (by clear hfl hq hL hT hN; first | rfl | (simp_all; done) | (simp_all; omega) | exact decide_eq_decide.2 ⟨fun h => .inr (.inr (.inr (.inr (.inr (.inr (.inr (.inr (by omega)))))))), fun h => by rcases h with h | h | h | h | h | h | h | h | h <;> first | omega | (simp_all; done)⟩ | exact (decide_eq_true (by omega)).symm)
      · refine oX ?_
        iterate 2 refine oX ?_
        refine oV vT ?_
        refine oV vM ?_
        iterate 3 refine oX ?_
        refine oV vT ?_
        refine oV vM ?_
        iterate 4 refine oX ?_
        refine oV vT ?_
        refine oV vM ?_
        iterate 4 refine oX ?_
        refine oV vT ?_
        refine oV vM ?_
        iterate 4 refine oX ?_
        refine oV vT ?_
        refine oV vM ?_
        iterate 4 refine oX ?_
        refine oV vT ?_
        refine oV vM ?_
        iterate 4 refine oX ?_
        refine oV vT ?_
        refine o_nil ?_
        exact cJ J rfl (by clear hfl hq hL hT hN; first | rfl | (simp_all; done) | (simp_all; omega) | exact decide_eq_decide.2 ⟨fun h => .inr (.inr (.inr (.inr (.inr (.inr (.inr (.inr (by omega)))))))), fun h => by rcases h with h | h | h | h | h | h | h | h | h <;> first | omega | (simp_all; done)⟩ | exact (decide_eq_true (by omega)).symm)
    · refine oX ?_
      iterate 2 refine oX ?_
      refine oV vT ?_
      refine oV vM ?_
      iterate 3 refine oX ?_
      refine oV vT ?_
      refine oV vM ?_
      iterate 3 refine oX ?_
      refine oV vT ?_
      refine oV vM ?_
      iterate 4 refine oX ?_
      refine oV vT ?_
      refine oV vM ?_
      iterate 4 refine oX ?_
      refine oV vT ?_
      refine oV vM ?_
      iterate 4 refine oX ?_
      refine oV vT ?_
      refine oV vM ?_
      iterate 4 refine oX ?_
      refine oV vT ?_
      refine oV vM ?_
      iterate 4 refine oX ?_
      refine oV vT ?_
      refine o_nil ?_
      exact cJ J rfl (by clear hfl hq hL hT hN; first | rfl | (simp_all; done) | (simp_all; omega) | exact decide_eq_decide.2 ⟨fun h => .inr (.inr (.inr (.inr (.inr (.inr (.inr (.inr (by omega)))))))), fun h => by rcases h with h | h | h | h | h | h | h | h | h <;> first | omega | (simp_all; done)⟩ | exact (decide_eq_true (by omega)).symm)
  refine c_cond_p rfl (fun h1 => ?_) (fun h1 => ?_)
  · refine c_seq (c_region ?_)
    refine oV vA ?_
    refine o_nil ?_
    refine c_ret1 Tryz.func14 rfl rfl fun w O hS => ?_
    exact ⟨(), congrArg Value.bool (decide_eq_false (right_bad1 h1)).symm, trivial, trivial⟩
  · have hdp := depsP0_iff q.2.2.1 q.2.2.2.2.2.1
    refine c_skip (c_seq (c_seq (c_region ?_)))
    refine oV vA ?_
    refine o_nil (c_block ?_)
    refine c_loopR (γ := Nat) [(1, _), (2, _)] (fun k => q.2.2.2.2.2.1.length - k) (fun k => k ≤ q.2.2.2.2.2.1.length ∧ ∀ j (h : j < q.2.2.2.2.2.1.length), j < k → 1 ≤ q.2.2.2.2.2.1[j] ∧ q.2.2.2.2.2.1[j] ≤ 1000000000 ∧ q.2.2.2.2.2.1[j] ≠ q.2.2.1 ∧ (j = 0 ∨ q.2.2.2.2.2.1[j - 1] < q.2.2.2.2.2.1[j])) (fun k => [(3, .int .i64 k)]) (fun _ => [Blk b1 26 [.int .i64 q.1, .int .i64 q.2.1, .int .i64 q.2.2.1, .string q.2.2.2.1, .string q.2.2.2.2.1, d, f, l], Sl (eInt .i64) d q.2.2.2.2.2.1, Sl eStr f q.2.2.2.2.2.2.1, Sl ePr l q.2.2.2.2.2.2.2]) (0) (⟨Nat.zero_le _, fun _ _ h => absurd h (Nat.not_lt_zero _)⟩) (by repeat (first | exact trivial | refine ⟨rfl, ?_⟩)) (eX (by repeat constructor)) ?_
    rintro k ⟨hk, hc⟩ IH
    try dsimp only [List.cons_append, List.nil_append]
    refine c_seq (c_seq (c_region ?_))
    refine oV vM ?_
    refine oV (vF 5 Tryz.underlying26 ti22) ?_
    refine oV (vL lone22) ?_
    refine oV ((by first | exact v_len_form Tryz.underlying22 rfl | exact v_len_sl Tryz.underlying22 rfl (hX (by repeat constructor)))) ?_
    refine oV (v_lt rfl rfl) ?_
    refine o_nil ?_
    refine c_cond_p rfl (fun hlt => ?_) (fun hlt => ?_)
    · have hk' : k < q.2.2.2.2.2.1.length := by omega
      refine c_skip (c_seq (c_block (c_seq ?_)))
      refine c_env (env' := [(1, _), (2, _), (3, _), (53, _), (54, _), (55, _), (56, _), (57, _)]) (by repeat (first | exact trivial | refine ⟨rfl, ?_⟩)) ?_
      refine c_joinb (d := 101) (decide (¬ (1 ≤ q.2.2.2.2.2.1[k] ∧ q.2.2.2.2.2.1[k] ≤ 1000000000 ∧ q.2.2.2.2.2.1[k] ≠ q.2.2.1 ∧ (k = 0 ∨ q.2.2.2.2.2.1[k - 1] < q.2.2.2.2.2.1[k])))) ?_ ?_
      rotate_left
      · intro J
        refine c_quiet rfl (by kernel_rfl) ?_
        refine qV (vF 5 Tryz.underlying26 ti22) ?_
        refine qV (vL lone22) ?_
        refine qV vM ?_
        refine qV ((by first | exact v_indexAddrN Tryz.underlying22 ti3 rfl rfl (hX (by repeat constructor)) (by omega) | exact v_indexAddr Tryz.underlying22 ti3 rfl rfl (hX (by repeat constructor)) (by omega))) ?_
        refine qV (v_load_int lone3 rfl (by repeat (first | exact Elem.sl (List.getElem?_eq_getElem (by omega)) | exact Elem.own (List.getElem?_eq_getElem (by omega)) | exact Elem.ownO (List.getElem?_eq_getElem (by omega)) | apply Elem.there))) ?_
        refine qV (v_lt rfl rfl) ?_
        refine qV vM ?_
        first | refine q_guard_f rfl rfl (fun g66 => ?_) (fun g66 => ?_) | refine q_guard rfl rfl (fun g66 => ?_) (fun g66 => ?_)
        · refine qV (vF 5 Tryz.underlying26 ti22) ?_
          refine qN ?_
          refine qV (vL lone22) ?_
          refine qN ?_
          refine qV vM ?_
          refine qN ?_
          refine qV ((by first | exact v_indexAddrN Tryz.underlying22 ti3 rfl rfl (hX (by repeat constructor)) (by omega) | exact v_indexAddr Tryz.underlying22 ti3 rfl rfl (hX (by repeat constructor)) (by omega))) ?_
          refine qN ?_
          refine qV (v_load_int lone3 rfl (by repeat (first | exact Elem.sl (List.getElem?_eq_getElem (by omega)) | exact Elem.own (List.getElem?_eq_getElem (by omega)) | exact Elem.ownO (List.getElem?_eq_getElem (by omega)) | apply Elem.there))) ?_
          refine qN ?_
          refine qV (v_gt rfl rfl) ?_
          refine qV vQ ?_
          refine qV vM ?_
          first | refine q_guard_f rfl rfl (fun g74 => ?_) (fun g74 => ?_) | refine q_guard rfl rfl (fun g74 => ?_) (fun g74 => ?_)
          · refine qV (vF 5 Tryz.underlying26 ti22) ?_
            refine qN ?_
            refine qV (vL lone22) ?_
            refine qN ?_
            refine qV vM ?_
            refine qN ?_
            refine qV ((by first | exact v_indexAddrN Tryz.underlying22 ti3 rfl rfl (hX (by repeat constructor)) (by omega) | exact v_indexAddr Tryz.underlying22 ti3 rfl rfl (hX (by repeat constructor)) (by omega))) ?_
            refine qN ?_
            refine qV (v_load_int lone3 rfl (by repeat (first | exact Elem.sl (List.getElem?_eq_getElem (by omega)) | exact Elem.own (List.getElem?_eq_getElem (by omega)) | exact Elem.ownO (List.getElem?_eq_getElem (by omega)) | apply Elem.there))) ?_
            refine qN ?_
            refine qV (vF 2 Tryz.underlying26 ti3) ?_
            refine qN ?_
            refine qV (vL lone3) ?_
            refine qN ?_
            refine qV (v_eq rfl rfl) ?_
            refine qV vQ ?_
            refine qV vM ?_
            first | refine q_guard_f rfl rfl (fun g84 => ?_) (fun g84 => ?_) | refine q_guard rfl rfl (fun g84 => ?_) (fun g84 => ?_)
            · refine qV vM ?_
              refine qN ?_
              refine qV (v_gt rfl rfl) ?_
              refine qN ?_
              refine qV vM ?_
              first | refine q_guard_t rfl rfl (fun g87 => ?_) (fun g87 => ?_) | refine q_guard rfl rfl (fun g87 => ?_) (fun g87 => ?_)
              · refine qV (vF 5 Tryz.underlying26 ti22) ?_
                refine qN ?_
                refine qV (vL lone22) ?_
                refine qN ?_
                refine qV vM ?_
                refine qN ?_
                refine qV ((by first | exact v_indexAddrN Tryz.underlying22 ti3 rfl rfl (hX (by repeat constructor)) (by omega) | exact v_indexAddr Tryz.underlying22 ti3 rfl rfl (hX (by repeat constructor)) (by omega))) ?_
                refine qN ?_
                refine qV (v_load_int lone3 rfl (by repeat (first | exact Elem.sl (List.getElem?_eq_getElem (by omega)) | exact Elem.own (List.getElem?_eq_getElem (by omega)) | exact Elem.ownO (List.getElem?_eq_getElem (by omega)) | apply Elem.there))) ?_
                refine qN ?_
                refine qV (vF 5 Tryz.underlying26 ti22) ?_
                refine qN ?_
                refine qV (vL lone22) ?_
                refine qN ?_
                refine qV vM ?_
                refine qN ?_
                refine qV ((by first | exact v_sub64 rfl rfl (by omega) | exact v_sub rfl rfl)) ?_
                refine qN ?_
                refine qV ((by first | exact v_indexAddrN Tryz.underlying22 ti3 rfl rfl (hX (by repeat constructor)) (by omega) | exact v_indexAddr Tryz.underlying22 ti3 rfl rfl (hX (by repeat constructor)) (by omega))) ?_
                refine qN ?_
                refine qV (v_load_int lone3 rfl (by repeat (first | exact Elem.sl (List.getElem?_eq_getElem (by omega)) | exact Elem.own (List.getElem?_eq_getElem (by omega)) | exact Elem.ownO (List.getElem?_eq_getElem (by omega)) | apply Elem.there))) ?_
                refine qN ?_
                refine qV (v_le rfl rfl) ?_
                refine qN ?_
                refine qV vT ?_
                refine qV vQ ?_
                refine q_nil ?_
                exact cJ J rfl (by clear IH hc hfl hq hL hT hN h1; first | rfl | (simp_all; done) | (simp_all; omega) | (rw [Bool.eq_iff_iff]; simp_all; done) | (rw [Bool.eq_iff_iff]; simp_all; omega))
              · refine qX ?_
                iterate 11 refine qX ?_
                refine qN ?_
                refine qV vQ ?_
                refine qV vQ ?_
                refine q_nil ?_
                exact cJ J rfl (by clear IH hc hfl hq hL hT hN h1; first | rfl | (simp_all; done) | (simp_all; omega) | (rw [Bool.eq_iff_iff]; simp_all; done) | (rw [Bool.eq_iff_iff]; simp_all; omega))
            · refine qX ?_
              iterate 2 refine qX ?_
              refine q_offu rfl rfl (dd rfl) ?_
              refine q_offu rfl rfl (dd rfl) ?_
              refine q_offu rfl rfl (dd rfl) ?_
              refine q_offu rfl rfl (dd rfl) ?_
              refine q_offu rfl rfl (dd rfl) ?_
              refine q_offu rfl rfl (dd rfl) ?_
              refine q_offu rfl rfl (dd rfl) ?_
              refine q_offu rfl rfl (dd rfl) ?_
              refine q_offu rfl rfl (dd rfl) ?_
              refine q_offu rfl rfl (dd rfl) ?_
              refine q_offu rfl rfl (dd rfl) ?_
              refine q_offu rfl rfl (dd rfl) ?_
              refine qX ?_
              refine qV vT ?_
              refine q_nil ?_
              exact cJ J rfl (by clear IH hc hfl hq hL hT hN h1; first | rfl | (simp_all; done) | (simp_all; omega) | (rw [Bool.eq_iff_iff]; simp_all; done) | (rw [Bool.eq_iff_iff]; simp_all; omega))
          · refine qX ?_
            iterate 7 refine qX ?_
            refine qV vT ?_
            refine qV vM ?_
            iterate 3 refine qX ?_
            refine q_offu rfl rfl (dd rfl) ?_
            refine q_offu rfl rfl (dd rfl) ?_
            refine q_offu rfl rfl (dd rfl) ?_
            refine q_offu rfl rfl (dd rfl) ?_
            refine q_offu rfl rfl (dd rfl) ?_
            refine q_offu rfl rfl (dd rfl) ?_
            refine q_offu rfl rfl (dd rfl) ?_
            refine q_offu rfl rfl (dd rfl) ?_
            refine q_offu rfl rfl (dd rfl) ?_
            refine q_offu rfl rfl (dd rfl) ?_
            refine q_offu rfl rfl (dd rfl) ?_
            refine q_offu rfl rfl (dd rfl) ?_
            refine qX ?_
            refine qV vT ?_
            refine q_nil ?_
            exact cJ J rfl (by clear IH hc hfl hq hL hT hN h1; first | rfl | (simp_all; done) | (simp_all; omega) | (rw [Bool.eq_iff_iff]; simp_all; done) | (rw [Bool.eq_iff_iff]; simp_all; omega))
        · refine qX ?_
          iterate 5 refine qX ?_
          refine qV vT ?_
          refine qV vM ?_
          iterate 8 refine qX ?_
          refine qV vT ?_
          refine qV vM ?_
          iterate 3 refine qX ?_
          refine q_offu rfl rfl (dd rfl) ?_
          refine q_offu rfl rfl (dd rfl) ?_
          refine q_offu rfl rfl (dd rfl) ?_
          refine q_offu rfl rfl (dd rfl) ?_
          refine q_offu rfl rfl (dd rfl) ?_
          refine q_offu rfl rfl (dd rfl) ?_
          refine q_offu rfl rfl (dd rfl) ?_
          refine q_offu rfl rfl (dd rfl) ?_
          refine q_offu rfl rfl (dd rfl) ?_
          refine q_offu rfl rfl (dd rfl) ?_
          refine q_offu rfl rfl (dd rfl) ?_
          refine q_offu rfl rfl (dd rfl) ?_
          refine qX ?_
          refine qV vT ?_
          refine q_nil ?_
          exact cJ J rfl (by clear IH hc hfl hq hL hT hN h1; first | rfl | (simp_all; done) | (simp_all; omega) | (rw [Bool.eq_iff_iff]; simp_all; done) | (rw [Bool.eq_iff_iff]; simp_all; omega))
      refine c_cond_p rfl (fun hbad => ?_) (fun hbad => ?_)
      · have hno : ¬ RightQ q := fun hr => hbad (hdp.1 (right_deps hr) k hk')
        refine c_seq (c_region ?_)
        refine oV vA ?_
        refine o_nil ?_
        refine c_ret1 Tryz.func14 rfl rfl fun w O hS => ?_
        exact ⟨(), congrArg Value.bool (decide_eq_false hno).symm, trivial, trivial⟩
      · refine c_skip (c_inBlock (c_region ?_))
        refine oV vM ?_
        refine oV ((by first | exact v_add64 rfl rfl (by omega) | exact v_add rfl rfl)) ?_
        refine oV vA ?_
        refine o_nil ?_
        refine cU (IH (k + 1) (by first | omega | (dsimp only; omega)) (⟨by omega, fun j h h1 => (Nat.lt_succ_iff_lt_or_eq.1 h1).elim (hc j h) fun q => by subst q; exact Classical.not_not.1 hbad⟩))
    · have gd := hdp.2 fun j hj => hc j hj (by omega)
      refine c_exit rfl ?_
      refine c_seq (c_seq (c_region ?_))
      refine oV vA ?_
      refine o_nil (c_block ?_)
      refine c_loopR (γ := Nat × ByteArray) [(1, _), (2, _)] (fun g => q.2.2.2.2.2.2.1.length - g.1) (fun g => g.1 ≤ q.2.2.2.2.2.2.1.length ∧ filesP ⟨#[]⟩ q.2.2.2.2.2.2.1 = filesP g.2 (q.2.2.2.2.2.2.1.drop g.1) ∧ (g.1 = 0 ∧ g.2 = ⟨#[]⟩ ∨ ∃ h : g.1 - 1 < q.2.2.2.2.2.2.1.length, 0 < g.1 ∧ g.2 = q.2.2.2.2.2.2.1[g.1 - 1])) (fun g => [(4, .int .i64 g.1)]) (fun _ => [Blk b1 26 [.int .i64 q.1, .int .i64 q.2.1, .int .i64 q.2.2.1, .string q.2.2.2.1, .string q.2.2.2.2.1, d, f, l], Sl eStr f q.2.2.2.2.2.2.1, Sl ePr l q.2.2.2.2.2.2.2, Sl (eInt .i64) d q.2.2.2.2.2.1]) ((0, ⟨#[]⟩)) (⟨Nat.zero_le _, rfl, .inl ⟨rfl, rfl⟩⟩) (by repeat (first | exact trivial | refine ⟨rfl, ?_⟩)) (eX (by repeat constructor)) ?_
      rintro ⟨j, last⟩ ⟨hj, hfp, hls⟩ IH2
      dsimp only at hj hfp hls ⊢
      try dsimp only [List.cons_append, List.nil_append]
      refine c_seq (c_seq (c_region ?_))
      refine oV vM ?_
      refine oV (vF 6 Tryz.underlying26 ti23) ?_
      refine oV (vL lone23) ?_
      refine oV ((by first | exact v_len_form Tryz.underlying23 rfl | exact v_len_sl Tryz.underlying23 rfl (hX (by repeat constructor)))) ?_
      refine oV (v_lt rfl rfl) ?_
      refine o_nil ?_
      refine c_cond_p rfl (fun hlj => ?_) (fun hlj => ?_)
      · have hj' : j < q.2.2.2.2.2.2.1.length := by omega
        have hst := files_at hj' hls
        have hNj := namedRef_con q.2.2.2.2.2.2.1[j] (Nat.le_trans (hfl _ (List.getElem_mem hj')) (by decide))
        refine c_skip (c_seq (c_block (c_seq ?_)))
        refine c_env (env' := [(1, _), (2, _), (4, _), (102, _), (103, _), (104, _), (105, _), (106, _)]) (by repeat (first | exact trivial | refine ⟨rfl, ?_⟩)) ?_
        refine c_joinb (d := 133) (decide (¬ namedP q.2.2.2.2.2.2.1[j] = true ∨ (0 < j ∧ (Op.bytesLess q.2.2.2.2.2.2.1[j].data.toList (q.2.2.2.2.2.2.1[j - 1]'(by omega)).data.toList || decide (q.2.2.2.2.2.2.1[j] = q.2.2.2.2.2.2.1[j - 1]'(by omega))) = true))) ?_ ?_
        rotate_left
        · intro J
          refine c_quiet rfl (by kernel_rfl) ?_
          refine qV (vF 6 Tryz.underlying26 ti23) ?_
          refine qV (vL lone23) ?_
          refine qV vM ?_
          refine qV ((by first | exact v_indexAddrN Tryz.underlying23 ti9 rfl rfl (hX (by repeat constructor)) (by omega) | exact v_indexAddr Tryz.underlying23 ti9 rfl rfl (hX (by repeat constructor)) (by omega))) ?_
          refine qV (v_load_str lone9 rfl (by repeat (first | exact Elem.sl (List.getElem?_eq_getElem (by omega)) | exact Elem.own (List.getElem?_eq_getElem (by omega)) | exact Elem.ownO (List.getElem?_eq_getElem (by omega)) | apply Elem.there))) ?_
          refine q_call_keep cl43 (hNj) rfl (first := []) (cap := []) (fun _ _ => rfl) rfl rfl (dd rfl) (rX (by repeat constructor)) ?_
          refine qV (v_not rfl) ?_
          refine qV vM ?_
          first | refine q_guard_f rfl rfl (fun g116 => ?_) (fun g116 => ?_) | refine q_guard rfl rfl (fun g116 => ?_) (fun g116 => ?_)
          · refine qV vM ?_
            refine qN ?_
            refine qV (v_gt rfl rfl) ?_
            refine qN ?_
            refine qV vM ?_
            first | refine q_guard_t rfl rfl (fun g119 => ?_) (fun g119 => ?_) | refine q_guard rfl rfl (fun g119 => ?_) (fun g119 => ?_)
            · refine qV (vF 6 Tryz.underlying26 ti23) ?_
              refine qN ?_
              refine qV (vL lone23) ?_
              refine qN ?_
              refine qV vM ?_
              refine qN ?_
              refine qV ((by first | exact v_indexAddrN Tryz.underlying23 ti9 rfl rfl (hX (by repeat constructor)) (by omega) | exact v_indexAddr Tryz.underlying23 ti9 rfl rfl (hX (by repeat constructor)) (by omega))) ?_
              refine qN ?_
              refine qV (v_load_str lone9 rfl (by repeat (first | exact Elem.sl (List.getElem?_eq_getElem (by omega)) | exact Elem.own (List.getElem?_eq_getElem (by omega)) | exact Elem.ownO (List.getElem?_eq_getElem (by omega)) | apply Elem.there))) ?_
              refine qN ?_
              refine qV (vF 6 Tryz.underlying26 ti23) ?_
              refine qN ?_
              refine qV (vL lone23) ?_
              refine qN ?_
              refine qV vM ?_
              refine qN ?_
              refine qV ((by first | exact v_sub64 rfl rfl (by omega) | exact v_sub rfl rfl)) ?_
              refine qN ?_
              refine qV ((by first | exact v_indexAddrN Tryz.underlying23 ti9 rfl rfl (hX (by repeat constructor)) (by omega) | exact v_indexAddr Tryz.underlying23 ti9 rfl rfl (hX (by repeat constructor)) (by omega))) ?_
              refine qN ?_
              refine qV (v_load_str lone9 rfl (by repeat (first | exact Elem.sl (List.getElem?_eq_getElem (by omega)) | exact Elem.own (List.getElem?_eq_getElem (by omega)) | exact Elem.ownO (List.getElem?_eq_getElem (by omega)) | apply Elem.there))) ?_
              refine qN ?_
              refine qV (v_sle rfl rfl) ?_
              refine qN ?_
              refine qV vT ?_
              refine qV vQ ?_
              refine q_nil ?_
              exact cJ J rfl (by clear IH IH2 hc hfl hq hL hT hN h1 hfp hls hst hNj; first | rfl | (simp_all; done) | (simp_all; omega) | (rw [Bool.eq_iff_iff]; simp_all; done) | (rw [Bool.eq_iff_iff]; simp_all; omega))
            · refine qX ?_
              iterate 11 refine qX ?_
              refine qN ?_
              refine qV vQ ?_
              refine qV vQ ?_
              refine q_nil ?_
              exact cJ J rfl (by clear IH IH2 hc hfl hq hL hT hN h1 hfp hls hst hNj; first | rfl | (simp_all; done) | (simp_all; omega) | (rw [Bool.eq_iff_iff]; simp_all; done) | (rw [Bool.eq_iff_iff]; simp_all; omega))
          · refine qX ?_
            iterate 2 refine qX ?_
            refine q_offu rfl rfl (dd rfl) ?_
            refine q_offu rfl rfl (dd rfl) ?_
            refine q_offu rfl rfl (dd rfl) ?_
            refine q_offu rfl rfl (dd rfl) ?_
            refine q_offu rfl rfl (dd rfl) ?_
            refine q_offu rfl rfl (dd rfl) ?_
            refine q_offu rfl rfl (dd rfl) ?_
            refine q_offu rfl rfl (dd rfl) ?_
            refine q_offu rfl rfl (dd rfl) ?_
            refine q_offu rfl rfl (dd rfl) ?_
            refine q_offu rfl rfl (dd rfl) ?_
            refine q_offu rfl rfl (dd rfl) ?_
            refine qX ?_
            refine qV vT ?_
            refine q_nil ?_
            exact cJ J rfl (by clear IH IH2 hc hfl hq hL hT hN h1 hfp hls hst hNj; first | rfl | (simp_all; done) | (simp_all; omega) | (rw [Bool.eq_iff_iff]; simp_all; done) | (rw [Bool.eq_iff_iff]; simp_all; omega))
        refine c_cond_p rfl (fun hbad => ?_) (fun hbad => ?_)
        · rw [hst, decide_eq_true hbad] at hfp
          have hno : ¬ RightQ q := fun hr => by have := right_files hr; rw [hfp] at this; cases this
          refine c_seq (c_region ?_)
          refine oV vA ?_
          refine o_nil ?_
          refine c_ret1 Tryz.func14 rfl rfl fun w O hS => ?_
          exact ⟨(), congrArg Value.bool (decide_eq_false hno).symm, trivial, trivial⟩
        · rw [hst, decide_eq_false hbad] at hfp
          refine c_skip (c_inBlock (c_region ?_))
          refine oV vM ?_
          refine oV ((by first | exact v_add64 rfl rfl (by omega) | exact v_add rfl rfl)) ?_
          refine oV vA ?_
          refine o_nil ?_
          refine cU (IH2 ((j + 1, q.2.2.2.2.2.2.1[j])) (by first | omega | (dsimp only; omega)) (⟨by dsimp only; omega, hfp, .inr ⟨by dsimp only; omega, Nat.succ_pos _, rfl⟩⟩))
      · have gf : filesP ⟨#[]⟩ q.2.2.2.2.2.2.1 = true := by rw [hfp, List.drop_of_length_le (by omega)]; rfl
        refine c_exit rfl ?_
        refine c_seq (c_seq ?_)
        refine c_env (env' := [(1, _), (2, _)]) (by repeat (first | exact trivial | refine ⟨rfl, ?_⟩)) ?_
        refine c_joinb (d := 142) (decide (bad2 q)) ?_ ?_
        rotate_left
        · intro J
          refine c_region ?_
          refine oV (vF 3 Tryz.underlying26 ti9) ?_
          refine oV (vL lone9) ?_
          refine oV (v_sne rfl rfl) ?_
          refine oV vM ?_
          first | refine o_guard_t rfl rfl (fun g137 => ?_) (fun g137 => ?_) | refine o_guard rfl rfl (fun g137 => ?_) (fun g137 => ?_)
          · refine oV (vF 3 Tryz.underlying26 ti9) ?_
            refine oN ?_
            refine oV (vL lone9) ?_
            refine oN ?_
            refine o_step (s_callf_keep cl43 (hN) rfl (dd rfl) (rX (by repeat constructor)) (fun _ => sX) (fun _ _ => ?_))
            refine oN ?_
            refine oV (v_not rfl) ?_
            refine oV vT ?_
            refine o_nil ?_
            exact cJ J rfl (by clear IH IH2 hc hfl hq hL hT hN h1 hfp hls; unfold bad2; first | rfl | (simp_all; done))
          · refine oX ?_
            iterate 3 refine oX ?_
            refine oV vQ ?_
            refine o_nil ?_
            exact cJ J rfl (by clear IH IH2 hc hfl hq hL hT hN h1 hfp hls; unfold bad2; first | rfl | (simp_all; done))
        refine c_cond_p rfl (fun h2 => ?_) (fun h2 => ?_)
        · refine c_seq (c_region ?_)
          refine oV vA ?_
          refine o_nil ?_
          refine c_ret1 Tryz.func14 rfl rfl fun w O hS => ?_
          exact ⟨(), congrArg Value.bool (decide_eq_false (right_bad2 h2)).symm, trivial, trivial⟩
        · refine c_skip (c_seq (c_seq ?_))
          refine c_env (env' := [(1, _), (2, _)]) (by repeat (first | exact trivial | refine ⟨rfl, ?_⟩)) ?_
          refine c_joinb (d := 184) (decide (bad3 q)) ?_ ?_
          rotate_left
          · intro J
            refine c_region ?_
            refine oV (vF 1 Tryz.underlying26 ti3) ?_
            refine oV (vL lone3) ?_
            refine oV (v_ne rfl rfl) ?_
            refine oV vM ?_
            first | refine o_guard_t rfl rfl (fun g146 => ?_) (fun g146 => ?_) | refine o_guard rfl rfl (fun g146 => ?_) (fun g146 => ?_)
            · refine oV (vF 0 Tryz.underlying26 ti3) ?_
              refine oN ?_
              refine oV (vL lone3) ?_
              refine oN ?_
              refine o_step (s_callf_keep cl44 (needs_con _ _) rfl (dd rfl) (rX (by repeat constructor)) (fun _ => sX) (fun _ _ => ?_))
              refine oN ?_
              refine oV (v_not rfl) ?_
              refine oV vT ?_
              refine oV vM ?_
              first | refine o_guard_f rfl rfl (fun g152 => ?_) (fun g152 => ?_) | refine o_guard rfl rfl (fun g152 => ?_) (fun g152 => ?_)
              · refine oV (vF 2 Tryz.underlying26 ti3) ?_
                refine oN ?_
                refine oV (vL lone3) ?_
                refine oN ?_
                refine oV (v_ne rfl rfl) ?_
                refine oN ?_
                refine oV vM ?_
                first | refine o_guard_t rfl rfl (fun g156 => ?_) (fun g156 => ?_) | refine o_guard rfl rfl (fun g156 => ?_) (fun g156 => ?_)
                · refine oV (vF 0 Tryz.underlying26 ti3) ?_
                  refine oN ?_
                  refine oV (vL lone3) ?_
                  refine oN ?_
                  refine o_step (s_callf_keep cl44 (needs_con _ _) rfl (dd rfl) (rX (by repeat constructor)) (fun _ => sX) (fun _ _ => ?_))
                  refine oN ?_
                  refine oV (v_not rfl) ?_
                  refine oN ?_
                  refine oV vT ?_
                  refine oV vQ ?_
                  refine oV vM ?_
                  first | refine o_guard_f rfl rfl (fun g163 => ?_) (fun g163 => ?_) | refine o_guard rfl rfl (fun g163 => ?_) (fun g163 => ?_)
                  · refine oV (vF 3 Tryz.underlying26 ti9) ?_
                    refine oN ?_
                    refine oV (vL lone9) ?_
                    refine oN ?_
                    refine oV (v_sne rfl rfl) ?_
                    refine oN ?_
                    refine oV vM ?_
                    first | refine o_guard_t rfl rfl (fun g167 => ?_) (fun g167 => ?_) | refine o_guard rfl rfl (fun g167 => ?_) (fun g167 => ?_)
                    · refine oV (vF 0 Tryz.underlying26 ti3) ?_
                      refine oN ?_
                      refine oV (vL lone3) ?_
                      refine oN ?_
                      refine o_step (s_callf_keep cl44 (needs_con _ _) rfl (dd rfl) (rX (by repeat constructor)) (fun _ => sX) (fun _ _ => ?_))
                      refine oN ?_
                      refine oV (v_not rfl) ?_
                      refine oN ?_
                      refine oV vT ?_
                      refine oV vQ ?_
                      refine oV vM ?_
                      first | refine o_guard_f rfl rfl (fun g174 => ?_) (fun g174 => ?_) | refine o_guard rfl rfl (fun g174 => ?_) (fun g174 => ?_)
                      · refine oV (vF 4 Tryz.underlying26 ti9) ?_
                        refine oN ?_
                        refine oV (vL lone9) ?_
                        refine oN ?_
                        refine oV (v_sne rfl rfl) ?_
                        refine oN ?_
                        refine oV vM ?_
                        first | refine o_guard_t rfl rfl (fun g178 => ?_) (fun g178 => ?_) | refine o_guard rfl rfl (fun g178 => ?_) (fun g178 => ?_)
                        · refine oV (vF 0 Tryz.underlying26 ti3) ?_
                          refine oN ?_
                          refine oV (vL lone3) ?_
                          refine oN ?_
                          refine o_step (s_callf_keep cl44 (needs_con _ _) rfl (dd rfl) (rX (by repeat constructor)) (fun _ => sX) (fun _ _ => ?_))
                          refine oN ?_
                          refine oV (v_not rfl) ?_
                          refine oN ?_
                          refine oV vT ?_
                          refine oV vQ ?_
                          refine o_nil ?_
                          exact cJ J rfl (by clear IH IH2 hc hfl hq hL hT hN h1 hfp hls h2; (try simp only [nd_base, nd_id, nd_name, nd_note] at *); unfold bad3; first | rfl | (simp_all; done))
                        · refine oX ?_
                          iterate 3 refine oX ?_
                          refine oN ?_
                          iterate 2 refine oV vQ ?_
                          refine o_nil ?_
                          exact cJ J rfl (by clear IH IH2 hc hfl hq hL hT hN h1 hfp hls h2; (try simp only [nd_base, nd_id, nd_name, nd_note] at *); unfold bad3; first | rfl | (simp_all; done))
                      · refine oX ?_
                        iterate 3 refine oX ?_
                        iterate 4 refine oU ?_
                        refine oX ?_
                        refine oV vT ?_
                        refine o_nil ?_
                        exact cJ J rfl (by clear IH IH2 hc hfl hq hL hT hN h1 hfp hls h2; (try simp only [nd_base, nd_id, nd_name, nd_note] at *); unfold bad3; first | rfl | (simp_all; done))
                    · refine oX ?_
                      iterate 3 refine oX ?_
                      refine oN ?_
                      iterate 2 refine oV vQ ?_
                      refine oV vM ?_
                      refine oN ?_
                      refine oV (vF 4 Tryz.underlying26 ti9) ?_
                      refine oN ?_
                      refine oV (vL lone9) ?_
                      refine oN ?_
                      refine oV (v_sne rfl rfl) ?_
                      refine oN ?_
                      refine oV vM ?_
                      first | refine o_guard_t rfl rfl (fun g178 => ?_) (fun g178 => ?_) | refine o_guard rfl rfl (fun g178 => ?_) (fun g178 => ?_)
                      · refine oV (vF 0 Tryz.underlying26 ti3) ?_
                        refine oN ?_
                        refine oV (vL lone3) ?_
                        refine oN ?_
                        refine o_step (s_callf_keep cl44 (needs_con _ _) rfl (dd rfl) (rX (by repeat constructor)) (fun _ => sX) (fun _ _ => ?_))
                        refine oN ?_
                        refine oV (v_not rfl) ?_
                        refine oN ?_
                        refine oV vT ?_
                        refine oV vQ ?_
                        refine o_nil ?_
                        exact cJ J rfl (by clear IH IH2 hc hfl hq hL hT hN h1 hfp hls h2; (try simp only [nd_base, nd_id, nd_name, nd_note] at *); unfold bad3; first | rfl | (simp_all; done))
                      · refine oX ?_
                        iterate 3 refine oX ?_
                        refine oN ?_
                        iterate 2 refine oV vQ ?_
                        refine o_nil ?_
                        exact cJ J rfl (by clear IH IH2 hc hfl hq hL hT hN h1 hfp hls h2; (try simp only [nd_base, nd_id, nd_name, nd_note] at *); unfold bad3; first | rfl | (simp_all; done))
                  · refine oX ?_
                    iterate 3 refine oX ?_
                    iterate 4 refine oU ?_
                    refine oX ?_
                    refine oV vT ?_
                    refine oV vM ?_
                    iterate 4 refine oX ?_
                    iterate 4 refine oU ?_
                    refine oX ?_
                    refine oV vT ?_
                    refine o_nil ?_
                    exact cJ J rfl (by clear IH IH2 hc hfl hq hL hT hN h1 hfp hls h2; (try simp only [nd_base, nd_id, nd_name, nd_note] at *); unfold bad3; first | rfl | (simp_all; done))
                · refine oX ?_
                  iterate 3 refine oX ?_
                  refine oN ?_
                  iterate 2 refine oV vQ ?_
                  refine oV vM ?_
                  refine oN ?_
                  refine oV (vF 3 Tryz.underlying26 ti9) ?_
                  refine oN ?_
                  refine oV (vL lone9) ?_
                  refine oN ?_
                  refine oV (v_sne rfl rfl) ?_
                  refine oN ?_
                  refine oV vM ?_
                  first | refine o_guard_t rfl rfl (fun g167 => ?_) (fun g167 => ?_) | refine o_guard rfl rfl (fun g167 => ?_) (fun g167 => ?_)
                  · refine oV (vF 0 Tryz.underlying26 ti3) ?_
                    refine oN ?_
                    refine oV (vL lone3) ?_
                    refine oN ?_
                    refine o_step (s_callf_keep cl44 (needs_con _ _) rfl (dd rfl) (rX (by repeat constructor)) (fun _ => sX) (fun _ _ => ?_))
                    refine oN ?_
                    refine oV (v_not rfl) ?_
                    refine oN ?_
                    refine oV vT ?_
                    refine oV vQ ?_
                    refine oV vM ?_
                    first | refine o_guard_f rfl rfl (fun g174 => ?_) (fun g174 => ?_) | refine o_guard rfl rfl (fun g174 => ?_) (fun g174 => ?_)
                    · refine oV (vF 4 Tryz.underlying26 ti9) ?_
                      refine oN ?_
                      refine oV (vL lone9) ?_
                      refine oN ?_
                      refine oV (v_sne rfl rfl) ?_
                      refine oN ?_
                      refine oV vM ?_
                      first | refine o_guard_t rfl rfl (fun g178 => ?_) (fun g178 => ?_) | refine o_guard rfl rfl (fun g178 => ?_) (fun g178 => ?_)
                      · refine oV (vF 0 Tryz.underlying26 ti3) ?_
                        refine oN ?_
                        refine oV (vL lone3) ?_
                        refine oN ?_
                        refine o_step (s_callf_keep cl44 (needs_con _ _) rfl (dd rfl) (rX (by repeat constructor)) (fun _ => sX) (fun _ _ => ?_))
                        refine oN ?_
                        refine oV (v_not rfl) ?_
                        refine oN ?_
                        refine oV vT ?_
                        refine oV vQ ?_
                        refine o_nil ?_
                        exact cJ J rfl (by clear IH IH2 hc hfl hq hL hT hN h1 hfp hls h2; (try simp only [nd_base, nd_id, nd_name, nd_note] at *); unfold bad3; first | rfl | (simp_all; done))
                      · refine oX ?_
                        iterate 3 refine oX ?_
                        refine oN ?_
                        iterate 2 refine oV vQ ?_
                        refine o_nil ?_
                        exact cJ J rfl (by clear IH IH2 hc hfl hq hL hT hN h1 hfp hls h2; (try simp only [nd_base, nd_id, nd_name, nd_note] at *); unfold bad3; first | rfl | (simp_all; done))
                    · refine oX ?_
                      iterate 3 refine oX ?_
                      iterate 4 refine oU ?_
                      refine oX ?_
                      refine oV vT ?_
                      refine o_nil ?_
                      exact cJ J rfl (by clear IH IH2 hc hfl hq hL hT hN h1 hfp hls h2; (try simp only [nd_base, nd_id, nd_name, nd_note] at *); unfold bad3; first | rfl | (simp_all; done))
                  · refine oX ?_
                    iterate 3 refine oX ?_
                    refine oN ?_
                    iterate 2 refine oV vQ ?_
                    refine oV vM ?_
                    refine oN ?_
                    refine oV (vF 4 Tryz.underlying26 ti9) ?_
                    refine oN ?_
                    refine oV (vL lone9) ?_
                    refine oN ?_
                    refine oV (v_sne rfl rfl) ?_
                    refine oN ?_
                    refine oV vM ?_
                    first | refine o_guard_t rfl rfl (fun g178 => ?_) (fun g178 => ?_) | refine o_guard rfl rfl (fun g178 => ?_) (fun g178 => ?_)
                    · refine oV (vF 0 Tryz.underlying26 ti3) ?_
                      refine oN ?_
                      refine oV (vL lone3) ?_
                      refine oN ?_
                      refine o_step (s_callf_keep cl44 (needs_con _ _) rfl (dd rfl) (rX (by repeat constructor)) (fun _ => sX) (fun _ _ => ?_))
                      refine oN ?_
                      refine oV (v_not rfl) ?_
                      refine oN ?_
                      refine oV vT ?_
                      refine oV vQ ?_
                      refine o_nil ?_
                      exact cJ J rfl (by clear IH IH2 hc hfl hq hL hT hN h1 hfp hls h2; (try simp only [nd_base, nd_id, nd_name, nd_note] at *); unfold bad3; first | rfl | (simp_all; done))
                    · refine oX ?_
                      iterate 3 refine oX ?_
                      refine oN ?_
                      iterate 2 refine oV vQ ?_
                      refine o_nil ?_
                      exact cJ J rfl (by clear IH IH2 hc hfl hq hL hT hN h1 hfp hls h2; (try simp only [nd_base, nd_id, nd_name, nd_note] at *); unfold bad3; first | rfl | (simp_all; done))
              · refine oX ?_
                iterate 3 refine oX ?_
                iterate 4 refine oU ?_
                refine oX ?_
                refine oV vT ?_
                refine oV vM ?_
                iterate 4 refine oX ?_
                iterate 4 refine oU ?_
                refine oX ?_
                refine oV vT ?_
                refine oV vM ?_
                iterate 4 refine oX ?_
                iterate 4 refine oU ?_
                refine oX ?_
                refine oV vT ?_
                refine o_nil ?_
                exact cJ J rfl (by clear IH IH2 hc hfl hq hL hT hN h1 hfp hls h2; (try simp only [nd_base, nd_id, nd_name, nd_note] at *); unfold bad3; first | rfl | (simp_all; done))
            · refine oX ?_
              iterate 3 refine oX ?_
              refine oV vQ ?_
              refine oV vM ?_
              refine oN ?_
              refine oV (vF 2 Tryz.underlying26 ti3) ?_
              refine oN ?_
              refine oV (vL lone3) ?_
              refine oN ?_
              refine oV (v_ne rfl rfl) ?_
              refine oN ?_
              refine oV vM ?_
              first | refine o_guard_t rfl rfl (fun g156 => ?_) (fun g156 => ?_) | refine o_guard rfl rfl (fun g156 => ?_) (fun g156 => ?_)
              · refine oV (vF 0 Tryz.underlying26 ti3) ?_
                refine oN ?_
                refine oV (vL lone3) ?_
                refine oN ?_
                refine o_step (s_callf_keep cl44 (needs_con _ _) rfl (dd rfl) (rX (by repeat constructor)) (fun _ => sX) (fun _ _ => ?_))
                refine oN ?_
                refine oV (v_not rfl) ?_
                refine oN ?_
                refine oV vT ?_
                refine oV vQ ?_
                refine oV vM ?_
                first | refine o_guard_f rfl rfl (fun g163 => ?_) (fun g163 => ?_) | refine o_guard rfl rfl (fun g163 => ?_) (fun g163 => ?_)
                · refine oV (vF 3 Tryz.underlying26 ti9) ?_
                  refine oN ?_
                  refine oV (vL lone9) ?_
                  refine oN ?_
                  refine oV (v_sne rfl rfl) ?_
                  refine oN ?_
                  refine oV vM ?_
                  first | refine o_guard_t rfl rfl (fun g167 => ?_) (fun g167 => ?_) | refine o_guard rfl rfl (fun g167 => ?_) (fun g167 => ?_)
                  · refine oV (vF 0 Tryz.underlying26 ti3) ?_
                    refine oN ?_
                    refine oV (vL lone3) ?_
                    refine oN ?_
                    refine o_step (s_callf_keep cl44 (needs_con _ _) rfl (dd rfl) (rX (by repeat constructor)) (fun _ => sX) (fun _ _ => ?_))
                    refine oN ?_
                    refine oV (v_not rfl) ?_
                    refine oN ?_
                    refine oV vT ?_
                    refine oV vQ ?_
                    refine oV vM ?_
                    first | refine o_guard_f rfl rfl (fun g174 => ?_) (fun g174 => ?_) | refine o_guard rfl rfl (fun g174 => ?_) (fun g174 => ?_)
                    · refine oV (vF 4 Tryz.underlying26 ti9) ?_
                      refine oN ?_
                      refine oV (vL lone9) ?_
                      refine oN ?_
                      refine oV (v_sne rfl rfl) ?_
                      refine oN ?_
                      refine oV vM ?_
                      first | refine o_guard_t rfl rfl (fun g178 => ?_) (fun g178 => ?_) | refine o_guard rfl rfl (fun g178 => ?_) (fun g178 => ?_)
                      · refine oV (vF 0 Tryz.underlying26 ti3) ?_
                        refine oN ?_
                        refine oV (vL lone3) ?_
                        refine oN ?_
                        refine o_step (s_callf_keep cl44 (needs_con _ _) rfl (dd rfl) (rX (by repeat constructor)) (fun _ => sX) (fun _ _ => ?_))
                        refine oN ?_
                        refine oV (v_not rfl) ?_
                        refine oN ?_
                        refine oV vT ?_
                        refine oV vQ ?_
                        refine o_nil ?_
                        exact cJ J rfl (by clear IH IH2 hc hfl hq hL hT hN h1 hfp hls h2; (try simp only [nd_base, nd_id, nd_name, nd_note] at *); unfold bad3; first | rfl | (simp_all; done))
                      · refine oX ?_
                        iterate 3 refine oX ?_
                        refine oN ?_
                        iterate 2 refine oV vQ ?_
                        refine o_nil ?_
                        exact cJ J rfl (by clear IH IH2 hc hfl hq hL hT hN h1 hfp hls h2; (try simp only [nd_base, nd_id, nd_name, nd_note] at *); unfold bad3; first | rfl | (simp_all; done))
                    · refine oX ?_
                      iterate 3 refine oX ?_
                      iterate 4 refine oU ?_
                      refine oX ?_
                      refine oV vT ?_
                      refine o_nil ?_
                      exact cJ J rfl (by clear IH IH2 hc hfl hq hL hT hN h1 hfp hls h2; (try simp only [nd_base, nd_id, nd_name, nd_note] at *); unfold bad3; first | rfl | (simp_all; done))
                  · refine oX ?_
                    iterate 3 refine oX ?_
                    refine oN ?_
                    iterate 2 refine oV vQ ?_
                    refine oV vM ?_
                    refine oN ?_
                    refine oV (vF 4 Tryz.underlying26 ti9) ?_
                    refine oN ?_
                    refine oV (vL lone9) ?_
                    refine oN ?_
                    refine oV (v_sne rfl rfl) ?_
                    refine oN ?_
                    refine oV vM ?_
                    first | refine o_guard_t rfl rfl (fun g178 => ?_) (fun g178 => ?_) | refine o_guard rfl rfl (fun g178 => ?_) (fun g178 => ?_)
                    · refine oV (vF 0 Tryz.underlying26 ti3) ?_
                      refine oN ?_
                      refine oV (vL lone3) ?_
                      refine oN ?_
                      refine o_step (s_callf_keep cl44 (needs_con _ _) rfl (dd rfl) (rX (by repeat constructor)) (fun _ => sX) (fun _ _ => ?_))
                      refine oN ?_
                      refine oV (v_not rfl) ?_
                      refine oN ?_
                      refine oV vT ?_
                      refine oV vQ ?_
                      refine o_nil ?_
                      exact cJ J rfl (by clear IH IH2 hc hfl hq hL hT hN h1 hfp hls h2; (try simp only [nd_base, nd_id, nd_name, nd_note] at *); unfold bad3; first | rfl | (simp_all; done))
                    · refine oX ?_
                      iterate 3 refine oX ?_
                      refine oN ?_
                      iterate 2 refine oV vQ ?_
                      refine o_nil ?_
                      exact cJ J rfl (by clear IH IH2 hc hfl hq hL hT hN h1 hfp hls h2; (try simp only [nd_base, nd_id, nd_name, nd_note] at *); unfold bad3; first | rfl | (simp_all; done))
                · refine oX ?_
                  iterate 3 refine oX ?_
                  iterate 4 refine oU ?_
                  refine oX ?_
                  refine oV vT ?_
                  refine oV vM ?_
                  iterate 4 refine oX ?_
                  iterate 4 refine oU ?_
                  refine oX ?_
                  refine oV vT ?_
                  refine o_nil ?_
                  exact cJ J rfl (by clear IH IH2 hc hfl hq hL hT hN h1 hfp hls h2; (try simp only [nd_base, nd_id, nd_name, nd_note] at *); unfold bad3; first | rfl | (simp_all; done))
              · refine oX ?_
                iterate 3 refine oX ?_
                refine oN ?_
                iterate 2 refine oV vQ ?_
                refine oV vM ?_
                refine oN ?_
                refine oV (vF 3 Tryz.underlying26 ti9) ?_
                refine oN ?_
                refine oV (vL lone9) ?_
                refine oN ?_
                refine oV (v_sne rfl rfl) ?_
                refine oN ?_
                refine oV vM ?_
                first | refine o_guard_t rfl rfl (fun g167 => ?_) (fun g167 => ?_) | refine o_guard rfl rfl (fun g167 => ?_) (fun g167 => ?_)
                · refine oV (vF 0 Tryz.underlying26 ti3) ?_
                  refine oN ?_
                  refine oV (vL lone3) ?_
                  refine oN ?_
                  refine o_step (s_callf_keep cl44 (needs_con _ _) rfl (dd rfl) (rX (by repeat constructor)) (fun _ => sX) (fun _ _ => ?_))
                  refine oN ?_
                  refine oV (v_not rfl) ?_
                  refine oN ?_
                  refine oV vT ?_
                  refine oV vQ ?_
                  refine oV vM ?_
                  first | refine o_guard_f rfl rfl (fun g174 => ?_) (fun g174 => ?_) | refine o_guard rfl rfl (fun g174 => ?_) (fun g174 => ?_)
                  · refine oV (vF 4 Tryz.underlying26 ti9) ?_
                    refine oN ?_
                    refine oV (vL lone9) ?_
                    refine oN ?_
                    refine oV (v_sne rfl rfl) ?_
                    refine oN ?_
                    refine oV vM ?_
                    first | refine o_guard_t rfl rfl (fun g178 => ?_) (fun g178 => ?_) | refine o_guard rfl rfl (fun g178 => ?_) (fun g178 => ?_)
                    · refine oV (vF 0 Tryz.underlying26 ti3) ?_
                      refine oN ?_
                      refine oV (vL lone3) ?_
                      refine oN ?_
                      refine o_step (s_callf_keep cl44 (needs_con _ _) rfl (dd rfl) (rX (by repeat constructor)) (fun _ => sX) (fun _ _ => ?_))
                      refine oN ?_
                      refine oV (v_not rfl) ?_
                      refine oN ?_
                      refine oV vT ?_
                      refine oV vQ ?_
                      refine o_nil ?_
                      exact cJ J rfl (by clear IH IH2 hc hfl hq hL hT hN h1 hfp hls h2; (try simp only [nd_base, nd_id, nd_name, nd_note] at *); unfold bad3; first | rfl | (simp_all; done))
                    · refine oX ?_
                      iterate 3 refine oX ?_
                      refine oN ?_
                      iterate 2 refine oV vQ ?_
                      refine o_nil ?_
                      exact cJ J rfl (by clear IH IH2 hc hfl hq hL hT hN h1 hfp hls h2; (try simp only [nd_base, nd_id, nd_name, nd_note] at *); unfold bad3; first | rfl | (simp_all; done))
                  · refine oX ?_
                    iterate 3 refine oX ?_
                    iterate 4 refine oU ?_
                    refine oX ?_
                    refine oV vT ?_
                    refine o_nil ?_
                    exact cJ J rfl (by clear IH IH2 hc hfl hq hL hT hN h1 hfp hls h2; (try simp only [nd_base, nd_id, nd_name, nd_note] at *); unfold bad3; first | rfl | (simp_all; done))
                · refine oX ?_
                  iterate 3 refine oX ?_
                  refine oN ?_
                  iterate 2 refine oV vQ ?_
                  refine oV vM ?_
                  refine oN ?_
                  refine oV (vF 4 Tryz.underlying26 ti9) ?_
                  refine oN ?_
                  refine oV (vL lone9) ?_
                  refine oN ?_
                  refine oV (v_sne rfl rfl) ?_
                  refine oN ?_
                  refine oV vM ?_
                  first | refine o_guard_t rfl rfl (fun g178 => ?_) (fun g178 => ?_) | refine o_guard rfl rfl (fun g178 => ?_) (fun g178 => ?_)
                  · refine oV (vF 0 Tryz.underlying26 ti3) ?_
                    refine oN ?_
                    refine oV (vL lone3) ?_
                    refine oN ?_
                    refine o_step (s_callf_keep cl44 (needs_con _ _) rfl (dd rfl) (rX (by repeat constructor)) (fun _ => sX) (fun _ _ => ?_))
                    refine oN ?_
                    refine oV (v_not rfl) ?_
                    refine oN ?_
                    refine oV vT ?_
                    refine oV vQ ?_
                    refine o_nil ?_
                    exact cJ J rfl (by clear IH IH2 hc hfl hq hL hT hN h1 hfp hls h2; (try simp only [nd_base, nd_id, nd_name, nd_note] at *); unfold bad3; first | rfl | (simp_all; done))
                  · refine oX ?_
                    iterate 3 refine oX ?_
                    refine oN ?_
                    iterate 2 refine oV vQ ?_
                    refine o_nil ?_
                    exact cJ J rfl (by clear IH IH2 hc hfl hq hL hT hN h1 hfp hls h2; (try simp only [nd_base, nd_id, nd_name, nd_note] at *); unfold bad3; first | rfl | (simp_all; done))
          refine c_cond_p rfl (fun h3 => ?_) (fun h3 => ?_)
          · refine c_seq (c_region ?_)
            refine oV vA ?_
            refine o_nil ?_
            refine c_ret1 Tryz.func14 rfl rfl fun w O hS => ?_
            exact ⟨(), congrArg Value.bool (decide_eq_false (right_bad3 h3)).symm, trivial, trivial⟩
          · refine c_skip (c_seq (c_seq ?_))
            refine c_env (env' := [(1, _), (2, _)]) (by repeat (first | exact trivial | refine ⟨rfl, ?_⟩)) ?_
            refine c_joinb (d := 216) (decide (bad4 q)) ?_ ?_
            rotate_left
            · intro J
              refine c_quiet rfl (by kernel_rfl) ?_
              refine qV (vF 5 Tryz.underlying26 ti22) ?_
              refine qV (vL lone22) ?_
              refine qV ((by first | exact v_len_form Tryz.underlying22 rfl | exact v_len_sl Tryz.underlying22 rfl (hX (by repeat constructor)))) ?_
              refine qV (v_gt rfl rfl) ?_
              refine qV vM ?_
              first | refine q_guard_t rfl rfl (fun g189 => ?_) (fun g189 => ?_) | refine q_guard rfl rfl (fun g189 => ?_) (fun g189 => ?_)
              · refine qV (vF 0 Tryz.underlying26 ti3) ?_
                refine qN ?_
                refine qV (vL lone3) ?_
                refine qN ?_
                refine q_call_keep cl44 (needs_con _ _) rfl (first := []) (cap := []) (fun _ _ => rfl) rfl rfl (dd rfl) (rX (by repeat constructor)) ?_
                refine qN ?_
                refine qV (v_not rfl) ?_
                refine qV vT ?_
                refine qV vM ?_
                first | refine q_guard_f rfl rfl (fun g195 => ?_) (fun g195 => ?_) | refine q_guard rfl rfl (fun g195 => ?_) (fun g195 => ?_)
                · refine qV (vF 6 Tryz.underlying26 ti23) ?_
                  refine qN ?_
                  refine qV (vL lone23) ?_
                  refine qN ?_
                  refine qV ((by first | exact v_len_form Tryz.underlying23 rfl | exact v_len_sl Tryz.underlying23 rfl (hX (by repeat constructor)))) ?_
                  refine qN ?_
                  refine qV (v_gt rfl rfl) ?_
                  refine qN ?_
                  refine qV vM ?_
                  first | refine q_guard_t rfl rfl (fun g200 => ?_) (fun g200 => ?_) | refine q_guard rfl rfl (fun g200 => ?_) (fun g200 => ?_)
                  · refine qV (vF 0 Tryz.underlying26 ti3) ?_
                    refine qN ?_
                    refine qV (vL lone3) ?_
                    refine qN ?_
                    refine q_call_keep cl44 (needs_con _ _) rfl (first := []) (cap := []) (fun _ _ => rfl) rfl rfl (dd rfl) (rX (by repeat constructor)) ?_
                    refine qN ?_
                    refine qV (v_not rfl) ?_
                    refine qN ?_
                    refine qV vT ?_
                    refine qV vQ ?_
                    refine qV vM ?_
                    first | refine q_guard_f rfl rfl (fun g207 => ?_) (fun g207 => ?_) | refine q_guard rfl rfl (fun g207 => ?_) (fun g207 => ?_)
                    · refine qV (vF 7 Tryz.underlying26 ti24) ?_
                      refine qN ?_
                      refine qV (vL lone24) ?_
                      refine qN ?_
                      refine qV ((by first | exact v_len_form Tryz.underlying24 rfl | exact v_len_sl Tryz.underlying24 rfl (hX (by repeat constructor)))) ?_
                      refine qN ?_
                      refine qV (v_gt rfl rfl) ?_
                      refine qN ?_
                      refine qV (vF 0 Tryz.underlying26 ti3) ?_
                      refine qN ?_
                      refine qV (vL lone3) ?_
                      refine qN ?_
                      refine q_call_keep cl44 (needs_con _ _) rfl (first := []) (cap := []) (fun _ _ => rfl) rfl rfl (dd rfl) (rX (by repeat constructor)) ?_
                      refine qN ?_
                      refine qV (v_bne Tryz.underlying4 rfl rfl) ?_
                      refine qV vQ ?_
                      refine q_nil ?_
                      exact cJ J rfl (by clear IH IH2 hc hfl hq hL hT hN h1 hfp hls h2 h3; (try simp only [nd_deps, nd_files, nd_l] at *); unfold bad4; first | rfl | (simp_all; done))
                    · refine qX ?_
                      iterate 7 refine qX ?_
                      refine qV vT ?_
                      refine q_nil ?_
                      exact cJ J rfl (by clear IH IH2 hc hfl hq hL hT hN h1 hfp hls h2 h3; (try simp only [nd_deps, nd_files, nd_l] at *); unfold bad4; first | rfl | (simp_all; done))
                  · refine qX ?_
                    iterate 3 refine qX ?_
                    refine qN ?_
                    refine qV vQ ?_
                    refine qV vQ ?_
                    refine qV vM ?_
                    refine qN ?_
                    refine qV (vF 7 Tryz.underlying26 ti24) ?_
                    refine qN ?_
                    refine qV (vL lone24) ?_
                    refine qN ?_
                    refine qV ((by first | exact v_len_form Tryz.underlying24 rfl | exact v_len_sl Tryz.underlying24 rfl (hX (by repeat constructor)))) ?_
                    refine qN ?_
                    refine qV (v_gt rfl rfl) ?_
                    refine qN ?_
                    refine qV (vF 0 Tryz.underlying26 ti3) ?_
                    refine qN ?_
                    refine qV (vL lone3) ?_
                    refine qN ?_
                    refine q_call_keep cl44 (needs_con _ _) rfl (first := []) (cap := []) (fun _ _ => rfl) rfl rfl (dd rfl) (rX (by repeat constructor)) ?_
                    refine qN ?_
                    refine qV (v_bne Tryz.underlying4 rfl rfl) ?_
                    refine qV vQ ?_
                    refine q_nil ?_
                    exact cJ J rfl (by clear IH IH2 hc hfl hq hL hT hN h1 hfp hls h2 h3; (try simp only [nd_deps, nd_files, nd_l] at *); unfold bad4; first | rfl | (simp_all; done))
                · refine qX ?_
                  iterate 4 refine qX ?_
                  refine q_offu rfl rfl (dd rfl) ?_
                  refine q_offu rfl rfl (dd rfl) ?_
                  refine q_offu rfl rfl (dd rfl) ?_
                  refine q_offu rfl rfl (dd rfl) ?_
                  refine qX ?_
                  refine qV vT ?_
                  refine qV vM ?_
                  iterate 8 refine qX ?_
                  refine qV vT ?_
                  refine q_nil ?_
                  exact cJ J rfl (by clear IH IH2 hc hfl hq hL hT hN h1 hfp hls h2 h3; (try simp only [nd_deps, nd_files, nd_l] at *); unfold bad4; first | rfl | (simp_all; done))
              · refine qX ?_
                iterate 3 refine qX ?_
                refine qV vQ ?_
                refine qV vM ?_
                refine qN ?_
                refine qV (vF 6 Tryz.underlying26 ti23) ?_
                refine qN ?_
                refine qV (vL lone23) ?_
                refine qN ?_
                refine qV ((by first | exact v_len_form Tryz.underlying23 rfl | exact v_len_sl Tryz.underlying23 rfl (hX (by repeat constructor)))) ?_
                refine qN ?_
                refine qV (v_gt rfl rfl) ?_
                refine qN ?_
                refine qV vM ?_
                first | refine q_guard_t rfl rfl (fun g200 => ?_) (fun g200 => ?_) | refine q_guard rfl rfl (fun g200 => ?_) (fun g200 => ?_)
                · refine qV (vF 0 Tryz.underlying26 ti3) ?_
                  refine qN ?_
                  refine qV (vL lone3) ?_
                  refine qN ?_
                  refine q_call_keep cl44 (needs_con _ _) rfl (first := []) (cap := []) (fun _ _ => rfl) rfl rfl (dd rfl) (rX (by repeat constructor)) ?_
                  refine qN ?_
                  refine qV (v_not rfl) ?_
                  refine qN ?_
                  refine qV vT ?_
                  refine qV vQ ?_
                  refine qV vM ?_
                  first | refine q_guard_f rfl rfl (fun g207 => ?_) (fun g207 => ?_) | refine q_guard rfl rfl (fun g207 => ?_) (fun g207 => ?_)
                  · refine qV (vF 7 Tryz.underlying26 ti24) ?_
                    refine qN ?_
                    refine qV (vL lone24) ?_
                    refine qN ?_
                    refine qV ((by first | exact v_len_form Tryz.underlying24 rfl | exact v_len_sl Tryz.underlying24 rfl (hX (by repeat constructor)))) ?_
                    refine qN ?_
                    refine qV (v_gt rfl rfl) ?_
                    refine qN ?_
                    refine qV (vF 0 Tryz.underlying26 ti3) ?_
                    refine qN ?_
                    refine qV (vL lone3) ?_
                    refine qN ?_
                    refine q_call_keep cl44 (needs_con _ _) rfl (first := []) (cap := []) (fun _ _ => rfl) rfl rfl (dd rfl) (rX (by repeat constructor)) ?_
                    refine qN ?_
                    refine qV (v_bne Tryz.underlying4 rfl rfl) ?_
                    refine qV vQ ?_
                    refine q_nil ?_
                    exact cJ J rfl (by clear IH IH2 hc hfl hq hL hT hN h1 hfp hls h2 h3; (try simp only [nd_deps, nd_files, nd_l] at *); unfold bad4; first | rfl | (simp_all; done))
                  · refine qX ?_
                    iterate 7 refine qX ?_
                    refine qV vT ?_
                    refine q_nil ?_
                    exact cJ J rfl (by clear IH IH2 hc hfl hq hL hT hN h1 hfp hls h2 h3; (try simp only [nd_deps, nd_files, nd_l] at *); unfold bad4; first | rfl | (simp_all; done))
                · refine qX ?_
                  iterate 3 refine qX ?_
                  refine qN ?_
                  refine qV vQ ?_
                  refine qV vQ ?_
                  refine qV vM ?_
                  refine qN ?_
                  refine qV (vF 7 Tryz.underlying26 ti24) ?_
                  refine qN ?_
                  refine qV (vL lone24) ?_
                  refine qN ?_
                  refine qV ((by first | exact v_len_form Tryz.underlying24 rfl | exact v_len_sl Tryz.underlying24 rfl (hX (by repeat constructor)))) ?_
                  refine qN ?_
                  refine qV (v_gt rfl rfl) ?_
                  refine qN ?_
                  refine qV (vF 0 Tryz.underlying26 ti3) ?_
                  refine qN ?_
                  refine qV (vL lone3) ?_
                  refine qN ?_
                  refine q_call_keep cl44 (needs_con _ _) rfl (first := []) (cap := []) (fun _ _ => rfl) rfl rfl (dd rfl) (rX (by repeat constructor)) ?_
                  refine qN ?_
                  refine qV (v_bne Tryz.underlying4 rfl rfl) ?_
                  refine qV vQ ?_
                  refine q_nil ?_
                  exact cJ J rfl (by clear IH IH2 hc hfl hq hL hT hN h1 hfp hls h2 h3; (try simp only [nd_deps, nd_files, nd_l] at *); unfold bad4; first | rfl | (simp_all; done))
            refine c_cond_p rfl (fun h4 => ?_) (fun h4 => ?_)
            · refine c_seq (c_region ?_)
              refine oV vA ?_
              refine o_nil ?_
              refine c_ret1 Tryz.func14 rfl rfl fun w O hS => ?_
              exact ⟨(), congrArg Value.bool (decide_eq_false (right_bad4 h4)).symm, trivial, trivial⟩
            · have hg := right_good h1 gd gf h2 h3 h4
              refine c_skip (c_seq (c_seq (c_region ?_)))
              refine oV (vF 0 Tryz.underlying26 ti3) ?_
              refine oV (vL lone3) ?_
              refine oV (v_eq rfl rfl) ?_
              refine o_nil ?_
              refine c_cond_p rfl (fun h12 => ?_) (fun h12 => ?_)
              · rw [if_pos h12] at hg
                refine c_seq ?_
                refine c_env (env' := [(1, _)]) (by repeat (first | exact trivial | refine ⟨rfl, ?_⟩)) ?_
                refine c_joinb (d := 2) (decide (0 ≤ q.2.2.1 ∧ q.2.2.1 ≤ 100)) ?_ ?_
                rotate_left
                · intro J
                  refine c_region ?_
                  refine oV (vF 2 Tryz.underlying26 ti3) ?_
                  refine oV (vL lone3) ?_
                  refine oV (v_ge rfl rfl) ?_
                  refine oV vM ?_
                  first | refine o_guard_t rfl rfl (fun g223 => ?_) (fun g223 => ?_) | refine o_guard rfl rfl (fun g223 => ?_) (fun g223 => ?_)
                  · refine oV (vF 2 Tryz.underlying26 ti3) ?_
                    refine oN ?_
                    refine oV (vL lone3) ?_
                    refine oN ?_
                    refine oV (v_le rfl rfl) ?_
                    refine oV vT ?_
                    refine oV vA ?_
                    refine o_nil ?_
                    exact cJ J rfl (by clear IH IH2 hc hfl hq hL hT hN h1 hfp hls h2 h3 h4 hg; first | rfl | (simp_all; done) | (simp_all; omega))
                  · refine oX ?_
                    iterate 2 refine oX ?_
                    refine oV vQ ?_
                    refine oV vA ?_
                    refine o_nil ?_
                    exact cJ J rfl (by clear IH IH2 hc hfl hq hL hT hN h1 hfp hls h2 h3 h4 hg; first | rfl | (simp_all; done) | (simp_all; omega))
                refine c_ret1 Tryz.func14 rfl rfl fun w O hS => ?_
                exact ⟨(), congrArg Value.bool (decide_eq_decide.2 hg.symm), trivial, trivial⟩
              · rw [if_neg h12] at hg
                refine c_skip (c_seq (c_seq ?_))
                refine c_env (env' := [(1, _), (2, _)]) (by repeat (first | exact trivial | refine ⟨rfl, ?_⟩)) ?_
                refine c_joinb (d := 240) (decide ((q.1 = 1 ∨ q.1 = 2 ∨ q.1 = 3 ∨ q.1 = 12) ∧ (q.2.2.1 < 1 ∨ 1000000000 < q.2.2.1))) ?_ ?_
                rotate_left
                · intro J
                  refine c_region ?_
                  refine oV (vF 0 Tryz.underlying26 ti3) ?_
                  refine oV (vL lone3) ?_
                  refine o_step (s_callf_keep cl44 (needs_con _ _) rfl (dd rfl) (rX (by repeat constructor)) (fun _ => sX) (fun _ _ => ?_))
                  refine oV vM ?_
                  first | refine o_guard_t rfl rfl (fun g231 => ?_) (fun g231 => ?_) | refine o_guard rfl rfl (fun g231 => ?_) (fun g231 => ?_)
                  · refine oV (vF 2 Tryz.underlying26 ti3) ?_
                    refine oN ?_
                    refine oV (vL lone3) ?_
                    refine oN ?_
                    refine oV (v_lt rfl rfl) ?_
                    refine oN ?_
                    refine oV vM ?_
                    first | refine o_guard_f rfl rfl (fun g235 => ?_) (fun g235 => ?_) | refine o_guard rfl rfl (fun g235 => ?_) (fun g235 => ?_)
                    · refine oV (vF 2 Tryz.underlying26 ti3) ?_
                      refine oN ?_
                      refine oV (vL lone3) ?_
                      refine oN ?_
                      refine oV (v_gt rfl rfl) ?_
                      refine oN ?_
                      refine oV vQ ?_
                      refine oV vT ?_
                      refine o_nil ?_
                      exact cJ J rfl (by clear IH IH2 hc hfl hq hL hT hN h1 hfp hls h2 h3 h4 hg hdp gd gf hj hlj hlt hk J hlen hdl h12; first | rfl | exact (decide_eq_false fun h => g231 h.1).symm | exact decide_eq_decide.2 ⟨fun h => ⟨g231, .inr h⟩, fun h => h.2.resolve_left g235⟩ | exact (decide_eq_true ⟨g231, .inl g235⟩).symm)
                    · refine oX ?_
                      iterate 2 refine oX ?_
                      refine oN ?_
                      iterate 2 refine oV vT ?_
                      refine o_nil ?_
                      exact cJ J rfl (by clear IH IH2 hc hfl hq hL hT hN h1 hfp hls h2 h3 h4 hg hdp gd gf hj hlj hlt hk J hlen hdl h12; first | rfl | exact (decide_eq_false fun h => g231 h.1).symm | exact decide_eq_decide.2 ⟨fun h => ⟨g231, .inr h⟩, fun h => h.2.resolve_left g235⟩ | exact (decide_eq_true ⟨g231, .inl g235⟩).symm)
                  · refine oX ?_
                    iterate 3 refine oX ?_
                    iterate 3 refine oU ?_
                    refine oX ?_
                    refine oV vQ ?_
                    refine o_nil ?_
                    exact cJ J rfl (by clear IH IH2 hc hfl hq hL hT hN h1 hfp hls h2 h3 h4 hg hdp gd gf hj hlj hlt hk J hlen hdl h12; first | rfl | exact (decide_eq_false fun h => g231 h.1).symm | exact decide_eq_decide.2 ⟨fun h => ⟨g231, .inr h⟩, fun h => h.2.resolve_left g235⟩ | exact (decide_eq_true ⟨g231, .inl g235⟩).symm)
                refine c_cond_p rfl (fun h5 => ?_) (fun h5 => ?_)
                · refine c_seq (c_region ?_)
                  refine oV vA ?_
                  refine o_nil ?_
                  refine c_ret1 Tryz.func14 rfl rfl fun w O hS => ?_
                  exact ⟨(), congrArg Value.bool (decide_eq_false fun h => (hg.1 h).1 ⟨decide_eq_true h5.1, h5.2⟩).symm, trivial, trivial⟩
                · refine c_skip (c_seq ?_)
                  refine c_env (env' := [(1, _)]) (by repeat (first | exact trivial | refine ⟨rfl, ?_⟩)) ?_
                  refine c_joinb (d := 2) (decide (q.2.2.2.1 ≠ ⟨#[]⟩ ∨ ¬ needN q.1 = true ∨ q.1 = 10)) ?_ ?_
                  rotate_left
                  · intro J
                    refine c_region ?_
                    refine oV (vF 3 Tryz.underlying26 ti9) ?_
                    refine oV (vL lone9) ?_
                    refine oV (v_sne rfl rfl) ?_
                    refine oV vM ?_
                    first | refine o_guard_f rfl rfl (fun g244 => ?_) (fun g244 => ?_) | refine o_guard rfl rfl (fun g244 => ?_) (fun g244 => ?_)
                    · refine oV (vF 0 Tryz.underlying26 ti3) ?_
                      refine oN ?_
                      refine oV (vL lone3) ?_
                      refine oN ?_
                      refine o_step (s_callf_keep cl44 (needs_con _ _) rfl (dd rfl) (rX (by repeat constructor)) (fun _ => sX) (fun _ _ => ?_))
                      refine oN ?_
                      refine oV (v_not rfl) ?_
                      refine oV vQ ?_
                      refine oV vM ?_
                      first | refine o_guard_f rfl rfl (fun g250 => ?_) (fun g250 => ?_) | refine o_guard rfl rfl (fun g250 => ?_) (fun g250 => ?_)
                      · refine oV (vF 0 Tryz.underlying26 ti3) ?_
                        refine oN ?_
                        refine oV (vL lone3) ?_
                        refine oN ?_
                        refine oV (v_eq rfl rfl) ?_
                        refine oV vQ ?_
                        refine oV vA ?_
                        refine o_nil ?_
                        exact cJ J rfl (by clear IH IH2 hc hfl hq hL hT hN h1 hfp hls h2 h3 h4 hg hdp gd gf hj hlj hlt hk J hlen hdl h12 h5; (try simp only [nd_name] at *); generalize needN q.1 = ni at *; first | rfl | (simp_all; done) | (simp_all; omega))
                      · refine oX ?_
                        iterate 2 refine oX ?_
                        refine oV vT ?_
                        refine oV vA ?_
                        refine o_nil ?_
                        exact cJ J rfl (by clear IH IH2 hc hfl hq hL hT hN h1 hfp hls h2 h3 h4 hg hdp gd gf hj hlj hlt hk J hlen hdl h12 h5; (try simp only [nd_name] at *); generalize needN q.1 = ni at *; first | rfl | (simp_all; done) | (simp_all; omega))
                    · refine oX ?_
                      iterate 3 refine oX ?_
                      refine oV vT ?_
                      refine oV vM ?_
                      iterate 3 refine oX ?_
                      refine oV vT ?_
                      refine oV vA ?_
                      refine o_nil ?_
                      exact cJ J rfl (by clear IH IH2 hc hfl hq hL hT hN h1 hfp hls h2 h3 h4 hg hdp gd gf hj hlj hlt hk J hlen hdl h12 h5; (try simp only [nd_name] at *); generalize needN q.1 = ni at *; first | rfl | (simp_all; done) | (simp_all; omega))
                  refine c_ret1 Tryz.func14 rfl rfl fun w O hS => ?_
                  exact ⟨(), congrArg Value.bool (decide_eq_decide.2 ⟨fun h => hg.2 ⟨fun x => h5 ⟨of_decide_eq_true x.1, x.2⟩, h⟩, fun h => (hg.1 h).2⟩), trivial, trivial⟩
end Go.Proofs.YtlfehnnmpkohkaaGreatDoor
/- Chapter 16: the bytes of requests and responses: the program's way. -/
namespace Go.Proofs.YtlfehnnmpkohkaaGreatDoor
open Go Go.SL Go.Lib
abbrev rqC (q : Rq9) (d f l : Value) : List Value := [.int .i64 q.1, .int .i64 q.2.1, .int .i64 q.2.2.1, .string q.2.2.2.1, .string q.2.2.2.2.1, d, f, l]
abbrev rsC (s : Rs9) (l i t n : Value) : List Value := [.int .i64 s.1, .int .i64 s.2.1, l, i, t, n]
def I64 (n : Int) : Prop := -9223372036854775808 ≤ n ∧ n ≤ 9223372036854775807
/-- Requests, and responses, that can be counted. -/
structure CountQ (q : Rq9) : Prop where
  kind : I64 q.1
  base : I64 q.2.1
  id : I64 q.2.2.1
  deps : q.2.2.2.2.2.1.length ≤ 1000000 ∧ ∀ n ∈ q.2.2.2.2.2.1, I64 n
  files : q.2.2.2.2.2.2.1.length ≤ 1000000
  prims : q.2.2.2.2.2.2.2.length ≤ 1000000 ∧ ∀ p ∈ q.2.2.2.2.2.2.2, CountP p
structure CountS (s : Rs9) : Prop where
  code : I64 s.1
  version : I64 s.2.1
  prims : s.2.2.1.length ≤ 1000000 ∧ ∀ p ∈ s.2.2.1, CountP p
  ids : s.2.2.2.1.length ≤ 1000000 ∧ ∀ n ∈ s.2.2.2.1, I64 n
  lines : s.2.2.2.2.1.length ≤ 1000000
  notes : s.2.2.2.2.2.length ≤ 1000000 ∧ ∀ n ∈ s.2.2.2.2.2, I64 n.1 ∧ n.2.1.length ≤ 1000000
attribute [local irreducible] Cfg Kont StepK Val Con Qops Any Sl Own Blk BlkR Rd Pu ExA AllA Has Pick Ent Elem Beside Callable TI Lone OwnO AndA
set_option maxRecDepth 100000 in
theorem numbers_con (b : Nat) (v u : Value) (l : List UInt8) (xs : List Int) (hx : xs.length ≤ 1000000) (hc : ∀ n ∈ xs, I64 n) (hl : l.length + (rowB xs).length ≤ 100000000000000) : Con Tryz.prog 52 [ptr b, u] [Blk b 89 [v], Own eByte 5 v l, G3, Sl (eInt .i64) u xs] (γ := Value) (fun _ => .tuple #[]) (fun _ => True) (fun g => [Blk b 89 [g], Own eByte 5 g (l ++ rowB xs)]) := by
  unfold rowB at *
  have hnum : (manyB numB xs).length = (numB xs.length).length + ((xs.map numB).flatten).length := by unfold manyB; simp
  refine con_of Tryz.func52 rfl (dd rfl) fun w0 O0 => ?_
  refine c_seq (c_region ?_)
  iterate 2 refine oV vM ?_
  refine oV ((by first | exact v_len_form Tryz.underlying22 rfl | exact v_len_sl Tryz.underlying22 rfl (hX (by repeat constructor)))) ?_
  refine oC cl50 (num_con b v l xs.length (by omega) (by omega)) fun v1 _ => ?_
  refine o_nil (c_seq (c_region ?_))
  refine oV vM ?_
  refine oV ((by first | exact v_len_form Tryz.underlying22 rfl | exact v_len_sl Tryz.underlying22 rfl (hX (by repeat constructor)))) ?_
  refine oV vM ?_
  refine o_nil (c_block ?_)
  rw [show l ++ numB xs.length = l ++ (numB xs.length ++ ((xs.take 0).map numB).flatten) by simp]
  refine c_loopR (γ := Nat × Value) [(0, _), (10, _), (11, _)] (fun g => xs.length - g.1) (fun g => g.1 ≤ xs.length) (fun g => [(12, .int .i64 g.1)]) (fun g => [Blk b 89 [g.2], Own eByte 5 g.2 (l ++ (numB xs.length ++ ((xs.take g.1).map numB).flatten)), G3, Sl (eInt .i64) u xs]) ((0, v1)) (Nat.zero_le _) (by repeat (first | exact trivial | refine ⟨rfl, ?_⟩)) (eX (by repeat constructor)) ?_
  rintro ⟨k, r⟩ hk IH
  dsimp only at hk ⊢
  try dsimp only [List.cons_append, List.nil_append]
  refine c_seq (c_region ?_)
  refine oV (v_lt rfl rfl) ?_
  refine o_nil (c_seq ?_)
  refine c_cond_p rfl (fun hlt => ?_) (fun hlt => ?_)
  · have hk' : k < xs.length := by omega
    have hfp := flat_part numB hk'
    refine c_skip (c_seq (c_block (c_seq (c_region ?_))))
    refine oV ((by first | exact v_indexAddrN Tryz.underlying22 ti3 rfl rfl (hX (by repeat constructor)) (by omega) | exact v_indexAddr Tryz.underlying22 ti3 rfl rfl (hX (by repeat constructor)) (by omega))) ?_
    refine oV (v_load_int lone3 rfl (by repeat (first | exact Elem.sl (List.getElem?_eq_getElem (by omega)) | exact Elem.own (List.getElem?_eq_getElem (by omega)) | exact Elem.ownO (List.getElem?_eq_getElem (by omega)) | apply Elem.there))) ?_
    refine oV vA ?_
    refine o_nil (c_region ?_)
    iterate 2 refine oV vM ?_
    refine oC cl50 (num_con b r (l ++ (numB xs.length ++ ((xs.take k).map numB).flatten)) xs[k] (hc _ (List.getElem_mem hk')) (by simp only [List.length_append]; omega)) fun v2 _ => ?_
    refine o_nil (c_inBlock (c_region ?_))
    refine oV ((by first | exact v_add64 rfl rfl (by omega) | exact v_add rfl rfl)) ?_
    refine oV vM ?_
    refine o_nil ?_
    rw [List.append_assoc, List.append_assoc, ← flat_next numB hk']
    refine cU (IH ((k + 1, v2)) (by first | omega | (dsimp only; omega)) (by dsimp only; omega))
  · have hke : k = xs.length := by omega
    refine c_exit rfl ?_
    refine c_end0 Tryz.func52 rfl fun w O hS => ?_
    exact ⟨r, rfl, trivial, by unfold manyB; rw [hke, List.take_length] at hS; exact Ent.get hS (eX (by repeat constructor))⟩
set_option maxRecDepth 100000 in
theorem pack_con (q : Rq9) (d f l : Value) (hq : CountQ q) (hl : (reqB q).length ≤ 100000000000000) : Con Tryz.prog 18 [.agg (rqC q d f l).toArray] [Sl (eInt .i64) d q.2.2.2.2.2.1, Sl eStr f q.2.2.2.2.2.2.1, Sl ePr l q.2.2.2.2.2.2.2, G3] (γ := Value) (fun g => g) (fun _ => True) (fun g => [Own eByte 5 g (reqB q)]) := by
  obtain ⟨k, bs, i, n, t, dl, fl, pl⟩ := q
  obtain ⟨h1, h2, h3, ⟨h4, h4'⟩, h5, h6, h6'⟩ := hq
  dsimp only [rqC] at h1 h2 h3 h4 h4' h5 h6 h6' ⊢
  unfold I64 at h1 h2 h3
  have hle : (reqB (k, bs, i, n, t, dl, fl, pl)).length = (numB k).length + (numB bs).length + (numB i).length + (textB n).length + (textB t).length + (rowB dl).length + (textsB fl).length + (primsB pl).length := by unfold reqB; simp only [List.length_append]
  have c1 := fun b => num_con b (.slice none 0 0) [] k h1 (by simp only [List.length_nil]; omega)
  rw [List.nil_append] at c1
  refine con_of Tryz.func18 rfl (dd rfl) fun w0 O0 => ?_
  refine c_seq (c_region ?_)
  refine o_step (s_box rfl (dd rfl) (fun b1 => ?_))
  refine oV vA ?_
  refine o_nil (c_seq (c_region ?_))
  refine o_step (s_alloc ti89 (dd rfl) (fun b3 => ?_))
  refine o_nil (c_seq (c_region ?_))
  refine oV (vF 0 Tryz.underlying32 ti3) ?_
  refine oV (vL lone3) ?_
  refine oC cl50 (c1 b3) fun v1 _ => ?_
  refine o_nil (c_seq (c_region ?_))
  refine oV (vF 1 Tryz.underlying32 ti3) ?_
  refine oV (vL lone3) ?_
  refine oC cl50 (num_con b3 v1 (numB k) bs h2 (by omega)) fun v2 _ => ?_
  refine o_nil (c_seq (c_region ?_))
  refine oV (vF 2 Tryz.underlying32 ti3) ?_
  refine oV (vL lone3) ?_
  refine oC cl50 (num_con b3 v2 (numB k ++ numB bs) i h3 (by simp only [List.length_append]; omega)) fun v3 _ => ?_
  refine o_nil (c_seq (c_region ?_))
  refine oV (vF 3 Tryz.underlying32 ti9) ?_
  refine oV (vL lone9) ?_
  refine oC cl51 (text_con b3 v3 (numB k ++ numB bs ++ numB i) n (by simp only [List.length_append]; omega)) fun v4 _ => ?_
  refine o_nil (c_seq (c_region ?_))
  refine oV (vF 4 Tryz.underlying32 ti9) ?_
  refine oV (vL lone9) ?_
  refine oC cl51 (text_con b3 v4 (numB k ++ numB bs ++ numB i ++ textB n) t (by simp only [List.length_append]; omega)) fun v5 _ => ?_
  refine o_nil (c_seq (c_region ?_))
  refine oV (vF 5 Tryz.underlying32 ti22) ?_
  refine oV (vL lone22) ?_
  refine oC cl52 (numbers_con b3 v5 d (numB k ++ numB bs ++ numB i ++ textB n ++ textB t) dl h4 h4' (by simp only [List.length_append]; omega)) fun v6 _ => ?_
  refine o_nil (c_seq (c_region ?_))
  refine oV (vF 6 Tryz.underlying32 ti23) ?_
  refine oV (vL lone23) ?_
  refine oC cl53 (texts_con b3 v6 f (numB k ++ numB bs ++ numB i ++ textB n ++ textB t ++ rowB dl) fl (by omega) (by simp only [List.length_append]; omega)) fun v7 _ => ?_
  refine o_nil (c_seq (c_region ?_))
  refine oV (vF 7 Tryz.underlying32 ti30) ?_
  refine oV (vL lone30) ?_
  refine oC cl54 (prims_con b3 v7 l (numB k ++ numB bs ++ numB i ++ textB n ++ textB t ++ rowB dl ++ textsB fl) pl (by omega) h6' (by simp only [List.length_append]; omega)) fun v8 _ => ?_
  refine o_nil (c_seq (c_region ?_))
  refine oC cl55 (bytes_con b3 v8 (reqB (k, bs, i, n, t, dl, fl, pl)) (by omega)) fun v9 _ => ?_
  refine oV vA ?_
  refine o_nil ?_
  refine c_ret1 Tryz.func18 rfl rfl fun w O hS => ?_
  exact ⟨v9, rfl, trivial, Ent.get hS (eX (by repeat constructor))⟩
theorem resB_len (s : Rs9) : (resB s).length = (numB s.1).length + (numB s.2.1).length + (primsB s.2.2.1).length + (rowB s.2.2.2.1).length + (textsB s.2.2.2.2.1).length + ((numB s.2.2.2.2.2.length).length + ((s.2.2.2.2.2.map noteB).flatten).length) := by unfold resB manyB; simp only [List.length_append]
set_option maxRecDepth 100000 in
theorem packRes_con (s : Rs9) (l i t n : Value) (hs : CountS s) (hl : (resB s).length ≤ 100000000000000) : Con Tryz.prog 26 [.agg (rsC s l i t n).toArray] [Sl ePr l s.2.2.1, Sl (eInt .i64) i s.2.2.2.1, Sl eStr t s.2.2.2.2.1, Sl eNt n s.2.2.2.2.2, G3] (γ := Value) (fun g => g) (fun _ => True) (fun g => [Own eByte 5 g (resB s)]) := by
  obtain ⟨c, ver, pl, il, tl, nl⟩ := s
  obtain ⟨h1, h2, ⟨h3, h3'⟩, ⟨h4, h4'⟩, h5, h6, h6'⟩ := hs
  have hle := resB_len (c, ver, pl, il, tl, nl)
  dsimp only [rsC] at h1 h2 h3 h3' h4 h4' h5 h6 h6' hle ⊢
  unfold I64 at h1 h2
  obtain ⟨base, hbase⟩ : ∃ base, base = numB c ++ numB ver ++ primsB pl ++ rowB il ++ textsB tl := ⟨_, rfl⟩
  have hbl : base.length = (numB c).length + (numB ver).length + (primsB pl).length + (rowB il).length + (textsB tl).length := by rw [hbase]; simp only [List.length_append]
  have hfull : resB (c, ver, pl, il, tl, nl) = base ++ (numB nl.length ++ (nl.map noteB).flatten) := by rw [hbase]; rfl
  have c1 := fun b => num_con b (.slice none 0 0) [] c h1 (by simp only [List.length_nil]; omega)
  rw [List.nil_append] at c1
  refine con_of Tryz.func26 rfl (dd rfl) fun w0 O0 => ?_
  refine c_seq (c_region ?_)
  refine o_step (s_box rfl (dd rfl) (fun b1 => ?_))
  refine oV vA ?_
  refine o_nil (c_seq (c_region ?_))
  refine o_step (s_alloc ti89 (dd rfl) (fun b3 => ?_))
  refine o_nil (c_seq (c_region ?_))
  refine oV (vF 0 Tryz.underlying55 ti3) ?_
  refine oV (vL lone3) ?_
  refine oC cl50 (c1 b3) fun v1 _ => ?_
  refine o_nil (c_seq (c_region ?_))
  refine oV (vF 1 Tryz.underlying55 ti3) ?_
  refine oV (vL lone3) ?_
  refine oC cl50 (num_con b3 v1 (numB c) ver h2 (by omega)) fun v2 _ => ?_
  refine o_nil (c_seq (c_region ?_))
  refine oV (vF 2 Tryz.underlying55 ti30) ?_
  refine oV (vL lone30) ?_
  refine oC cl54 (prims_con b3 v2 l (numB c ++ numB ver) pl (by omega) h3' (by simp only [List.length_append]; omega)) fun v3 _ => ?_
  refine o_nil (c_seq (c_region ?_))
  refine oV (vF 3 Tryz.underlying55 ti22) ?_
  refine oV (vL lone22) ?_
  refine oC cl52 (numbers_con b3 v3 i (numB c ++ numB ver ++ primsB pl) il h4 h4' (by simp only [List.length_append]; omega)) fun v4 _ => ?_
  refine o_nil (c_seq (c_region ?_))
  refine oV (vF 4 Tryz.underlying55 ti23) ?_
  refine oV (vL lone23) ?_
  refine oC cl53 (texts_con b3 v4 t (numB c ++ numB ver ++ primsB pl ++ rowB il) tl (by omega) (by simp only [List.length_append]; omega)) fun v5 _ => ?_
  refine o_nil (c_seq (c_region ?_))
  refine oV (vF 5 Tryz.underlying55 ti53) ?_
  refine oV (vL lone53) ?_
  refine oV ((by first | exact v_len_form Tryz.underlying53 rfl | exact v_len_sl Tryz.underlying53 rfl (hX (by repeat constructor)))) ?_
  rw [← hbase]
  refine oC cl50 (num_con b3 v5 base nl.length (by omega) (by omega)) fun v6 _ => ?_
  refine o_nil (c_seq (c_seq (c_region ?_)))
  refine oV (vF 5 Tryz.underlying55 ti53) ?_
  refine oV (vL lone53) ?_
  refine oV ((by first | exact v_len_form Tryz.underlying53 rfl | exact v_len_sl Tryz.underlying53 rfl (hX (by repeat constructor)))) ?_
  refine oV vM ?_
  refine o_nil (c_block ?_)
  rw [show base ++ numB nl.length = base ++ (numB nl.length ++ ((nl.take 0).map noteB).flatten) by simp]
  refine c_loopR (γ := Nat × Value) [(2, _), (3, _), (26, _), (27, _)] (fun g => nl.length - g.1) (fun g => g.1 ≤ nl.length) (fun g => [(28, .int .i64 g.1)]) (fun g => [Blk b3 89 [g.2], Own eByte 5 g.2 (base ++ (numB nl.length ++ ((nl.take g.1).map noteB).flatten)), G3, Sl eNt n nl]) ((0, v6)) (Nat.zero_le _) (by repeat (first | exact trivial | refine ⟨rfl, ?_⟩)) (eX (by repeat constructor)) ?_
  rintro ⟨k, r⟩ hk IH
  dsimp only at hk ⊢
  try dsimp only [List.cons_append, List.nil_append]
  refine c_seq (c_region ?_)
  refine oV (v_lt rfl rfl) ?_
  refine o_nil (c_seq ?_)
  refine c_cond_p rfl (fun hlt => ?_) (fun hlt => ?_)
  · have hk' : k < nl.length := by omega
    have hfp := flat_part noteB hk'
    obtain ⟨hn1, hn2⟩ := h6' _ (List.getElem_mem hk')
    have hnb : (noteB nl[k]).length = (numB nl[k].1).length + (flagB nl[k].2.2).length + (textsB nl[k].2.1).length := by unfold noteB; simp only [List.length_append]
    obtain ⟨pre, hpre⟩ : ∃ pre, pre = base ++ (numB nl.length ++ ((nl.take k).map noteB).flatten) := ⟨_, rfl⟩
    have hpl : pre.length = base.length + ((numB nl.length).length + ((nl.take k).map noteB).flatten.length) := by rw [hpre]; simp only [List.length_append]
    have hnx : pre ++ numB nl[k].1 ++ flagB nl[k].2.2 ++ textsB nl[k].2.1 = base ++ (numB nl.length ++ ((nl.take (k + 1)).map noteB).flatten) := by
      rw [flat_next noteB hk', hpre]; unfold noteB; simp only [List.append_assoc]
    rw [← hpre]
    refine c_skip (c_seq (c_block (c_seq (c_region ?_))))
    refine oV ((by first | exact v_indexAddrN Tryz.underlying53 ti72 rfl rfl (hX (by repeat constructor)) (by omega) | exact v_indexAddr Tryz.underlying53 ti72 rfl rfl (hX (by repeat constructor)) (by omega))) ?_
    refine o_step (s_load_shape ⟨_, Tryz.underlying72⟩ ti72 rfl (dd rfl) (by repeat (first|exact el1 (by omega)|exact el2 (by omega)|exact el3 (by omega)|apply Elem.there)) (nt_open) (fun g => ?_))
    refine o_step (s_alloc ti72 (dd rfl) (fun b5 => ?_))
    refine o_step (s_store_all ti72 rfl rfl (by first | exact CellsV.lit rfl | exact CellsV.one (by first | exact OneC.lit rfl | exact OneC.sl (hX (by repeat constructor)) )) (by repeat (first | exact OneAll.nil | (refine OneAll.cons ?_ ?_; · first | exact OneC.lit rfl | exact OneC.sl (hX (by repeat constructor)) ) | exact OneAll.rd (hX (by repeat constructor)))) rfl (pB (by repeat constructor)) rfl (?_))
    refine o_nil (c_seq (c_region ?_))
    refine oV (vF 0 Tryz.underlying72 ti3) ?_
    refine oV (vL lone3) ?_
    refine oC cl50 (num_con b3 r pre nl[k].1 hn1 (by omega)) fun r1 _ => ?_
    refine o_nil (c_seq (c_region ?_))
    refine oV (vF 2 Tryz.underlying72 ti4) ?_
    refine oV (vL lone4) ?_
    refine oC cl74 (flag_con b3 r1 (pre ++ numB nl[k].1) nl[k].2.2 (by simp only [List.length_append]; omega)) fun r2 _ => ?_
    refine o_nil (c_region ?_)
    refine oV (vF 1 Tryz.underlying72 ti23) ?_
    refine oV (vL lone23) ?_
    refine oC cl53 (texts_con b3 r2 g (pre ++ numB nl[k].1 ++ flagB nl[k].2.2) nl[k].2.1 (by omega) (by simp only [List.length_append]; omega)) fun r3 _ => ?_
    refine o_nil (c_inBlock (c_region ?_))
    refine oV ((by first | exact v_add64 rfl rfl (by omega) | exact v_add rfl rfl)) ?_
    refine oV vM ?_
    refine o_nil ?_
    rw [hnx]
    refine cU (IH ((k + 1, r3)) (by first | omega | (dsimp only; omega)) (by dsimp only; omega))
  · have hke : k = nl.length := by omega
    have hall : base ++ (numB nl.length ++ ((nl.take k).map noteB).flatten) = resB (c, ver, pl, il, tl, nl) := by rw [hke, List.take_length, hfull]
    rw [hall]
    refine c_exit rfl ?_
    refine c_seq (c_region ?_)
    refine oC cl55 (bytes_con b3 r (resB (c, ver, pl, il, tl, nl)) (by omega)) fun v9 _ => ?_
    refine oV vA ?_
    refine o_nil ?_
    refine c_ret1 Tryz.func26 rfl rfl fun w O hS => ?_
    exact ⟨v9, rfl, trivial, Ent.get hS (eX (by repeat constructor))⟩
end Go.Proofs.YtlfehnnmpkohkaaGreatDoor
/- Chapter 16: sizes of what is read. -/
namespace Go.Proofs.YtlfehnnmpkohkaaGreatDoor
open Go Go.Lib
theorem takeRep_step {n k : Nat} {s : St9} {out : List Int} (hk : k < n) : takeRep (n - k) s out = takeRep (n - (k + 1)) (takeNum s).1 (out ++ [(takeNum s).2]) := by
  rw [show n - k = (n - (k + 1)) + 1 by omega, takeRep]
theorem takeRep_end {n k : Nat} {s : St9} {out : List Int} (hk : n ≤ k) : takeRep (n - k) s out = (s, out) := by
  rw [show n - k = 0 by omega]; rfl
section
variable {α : Type} {take : St9 → St9 × α}
theorem repG_step {n k : Nat} {s : St9} {out : List α} (hk : k < n) : repG take (n - k) s out = repG take (n - (k + 1)) (take s).1 (out ++ [(take s).2]) := by
  rw [show n - k = (n - (k + 1)) + 1 by omega, repG]
theorem repG_end {n k : Nat} {s : St9} {out : List α} (hk : n ≤ k) : repG take (n - k) s out = (s, out) := by
  rw [show n - k = 0 by omega]; rfl
theorem repG_len : ∀ (k : Nat) (s : St9) (out : List α), (repG take k s out).2.length = out.length + k
  | 0, _, _ => rfl
  | k + 1, s, out => by rw [repG, repG_len k, List.length_append]; simp; omega
theorem repG_goes (hg : GoesP take) : ∀ (k : Nat) (s : St9) (out : List α), ∃ j, j ≤ s.1.length ∧ (repG take k s out).1.1 = s.1.drop j
  | 0, s, _ => ⟨0, Nat.zero_le _, rfl⟩
  | k + 1, s, out => by
    rw [repG]
    exact goes_trans (a := take s) (b := repG take k (take s).1 (out ++ [(take s).2])) (hg s) (repG_goes hg k _ _)
theorem repG_ok {ok : α → Prop} (hg : GoesP take) (ho : ∀ s, s.1.length ≤ big9 → ok (take s).2) : ∀ (k : Nat) (s : St9) (out : List α), s.1.length ≤ big9 → (∀ x ∈ out, ok x) → ∀ x ∈ (repG take k s out).2, ok x
  | 0, _, _, _, h => h
  | k + 1, s, out, hs, h => by
    rw [repG]
    refine repG_ok hg ho k _ _ (Nat.le_trans (goes_len hg s) hs) fun x hx => ?_
    rcases List.mem_append.1 hx with h1 | h1
    · exact h x h1
    · rw [List.mem_singleton.1 h1]; exact ho s hs
theorem manyP9_goes (hg : GoesP take) (m : Int) : GoesP (manyP9 take m) := fun s => goes_trans (a := takeNum s) (b := manyP9 take m s) (goes_num s) (repG_goes hg _ _ _)
theorem manyP9_len {m : Int} {n : Nat} {s : St9} (hm : m ≤ n) : (manyP9 take m s).2.length ≤ n := by
  unfold manyP9
  rw [repG_len]
  simp only [List.length_nil]
  omega
theorem manyP9_ok {ok : α → Prop} (hg : GoesP take) (ho : ∀ s, s.1.length ≤ big9 → ok (take s).2) {m : Int} {s : St9} (hs : s.1.length ≤ big9) : ∀ x ∈ (manyP9 take m s).2, ok x :=
  repG_ok hg ho _ _ _ (Nat.le_trans (goes_len goes_num s) hs) fun x hx => by cases hx
end
theorem goes_row (m : Int) : GoesP (takeRowP m) := fun s => by rw [rowP_G]; exact manyP9_goes goes_num m s
theorem row_len {m : Int} {n : Nat} {s : St9} (hm : m ≤ n) : (takeRowP m s).2.length ≤ n := by rw [rowP_G]; exact manyP9_len hm
theorem row_far {m : Int} {s : St9} (hs : s.1.length ≤ big9) : ∀ n ∈ (takeRowP m s).2, -far9 ≤ n ∧ n ≤ far9 := by
  rw [rowP_G]; exact manyP9_ok (ok := fun n : Int => -far9 ≤ n ∧ n ≤ far9) goes_num (fun s _ => num_far) hs
theorem goes_note : GoesP takeNote := fun s => by
  unfold takeNote
  exact goes_trans (b := takeTexts 1000 60 (takeFlag (takeNum s).1).1) (goes_trans (a := takeNum s) (b := takeFlag (takeNum s).1) (goes_num s) (goes_flag _)) (goes_some (goes_text 60) 1000 _)
theorem many_sum {α : Type} {put : α → List UInt8} {c : Nat} : ∀ {l : List α}, (∀ x ∈ l, (put x).length ≤ c) → ((l.map put).flatten).length ≤ l.length * c
  | [], _ => by simp
  | x :: l, h => by
    have h1 := h x (by simp)
    have h2 := many_sum (l := l) fun y hy => h y (by simp [hy])
    simp only [List.map_cons, List.flatten_cons, List.length_append, List.length_cons, Nat.add_mul]; omega
theorem manyB_le {α : Type} {put : α → List UInt8} {c n : Nat} {l : List α} (hn : l.length ≤ n) (h : ∀ x ∈ l, (put x).length ≤ c) : (manyB put l).length ≤ 40 + n * c := by
  have h1 := many_sum h
  have h2 := numB_len (l.length : Int)
  have h3 : l.length * c ≤ n * c := Nat.mul_le_mul_right c hn
  unfold manyB
  rw [List.length_append]
  omega
theorem rq_raw {s : St9} (h : s.1.length ≤ big9) : FineQ (rawReq (takeRowP 8) s).2 ∧ CountQ (rawReq (takeRowP 8) s).2 ∧ (reqB (rawReq (takeRowP 8) s).2).length ≤ 100000000 := by
  have h1 := Nat.le_trans (goes_len goes_num s) h
  have h2 := Nat.le_trans (goes_len goes_num (takeNum s).1) h1
  have h3 := Nat.le_trans (goes_len goes_num (takeNum (takeNum s).1).1) h2
  unfold rawReq
  dsimp only
  obtain ⟨s3, hs3⟩ : ∃ s3, s3 = (takeNum (takeNum (takeNum s).1).1).1 := ⟨_, rfl⟩
  rw [← hs3] at h3 ⊢
  have h4 := Nat.le_trans (goes_len (goes_text 24) s3) h3
  have h5 := Nat.le_trans (goes_len (goes_text 60) (takeText 24 s3).1) h4
  obtain ⟨s5, hs5⟩ : ∃ s5, s5 = (takeText 60 (takeText 24 s3).1).1 := ⟨_, rfl⟩
  rw [← hs5] at h5 ⊢
  have h6 := Nat.le_trans (goes_len (goes_row 8) s5) h5
  obtain ⟨s6, hs6⟩ : ∃ s6, s6 = (takeRowP 8 s5).1 := ⟨_, rfl⟩
  rw [← hs6] at h6 ⊢
  have h7 := Nat.le_trans (goes_len (goes_some (goes_text 24) 8) s6) h6
  have hfl : (takeTexts 8 24 s6).2.length ≤ 8 := some_len (by decide)
  have hft : ∀ x ∈ (takeTexts 8 24 s6).2, x.size ≤ big9 := some_ok (goes_text 24) (fun s hs => text_ok hs) h6
  have hpl : (takePrims 24 (takeTexts 8 24 s6).1).2.length ≤ 24 := some_len (by decide)
  have hps : ∀ p ∈ (takePrims 24 (takeTexts 8 24 s6).1).2, SizeP p := some_ok goes_prim (fun s hs => prim_ok hs) h7
  have hrl : (takeRowP 8 s5).2.length ≤ 8 := row_len (by decide)
  have hrf := row_far (m := 8) h5
  have n1 := numB_len (takeNum s).2
  have n2 := numB_len (takeNum (takeNum s).1).2
  have n3 := numB_len (takeNum (takeNum (takeNum s).1).1).2
  have t1 := text_len9 (m := 24) (s := s3)
  have t2 := text_len9 (m := 60) (s := (takeText 24 s3).1)
  have t3 := manyB_le (put := numB) (c := 40) hrl fun n _ => by have := numB_len n; omega
  have t4 := some_len9 (put := textB) (back_text 24) (m := 8) (s := s6)
  have t5 := some_len9 (put := primB) back_prim (m := 24) (s := (takeTexts 8 24 s6).1)
  refine ⟨⟨text_ok h3, text_ok h4, by dsimp only; omega, ⟨by dsimp only; omega, hft⟩, by dsimp only; omega, hps⟩, ⟨far_int num_far, far_int num_far, far_int num_far, ⟨by dsimp only; omega, fun n hn => far_int (hrf n hn)⟩, by dsimp only; omega, by dsimp only; omega, prims_count h7⟩, ?_⟩
  unfold reqB
  dsimp only
  simp only [List.length_append]
  unfold rowB textsB primsB
  unfold takeTexts takePrims at *
  have hb : big9 = 1000000 := rfl
  omega
theorem note_raw {s : St9} (h : s.1.length ≤ big9) : (-far9 ≤ (takeNote s).2.1 ∧ (takeNote s).2.1 ≤ far9) ∧ (takeNote s).2.2.1.length ≤ 1000 ∧ (noteB (takeNote s).2).length ≤ 1000200 := by
  have h1 := Nat.le_trans (goes_len goes_num s) h
  have h2 := Nat.le_trans (goes_len goes_flag (takeNum s).1) h1
  have n1 := numB_len (takeNum s).2
  have n2 : (flagB (takeFlag (takeNum s).1).2).length ≤ 40 := by cases (takeFlag (takeNum s).1).2 <;> decide +kernel
  have t1 := some_len9 (put := textB) (back_text 60) (m := 1000) (s := (takeFlag (takeNum s).1).1)
  unfold takeNote
  refine ⟨num_far, some_len (by decide), ?_⟩
  unfold noteB textsB takeTexts
  simp only [List.length_append]
  have hb : big9 = 1000000 := rfl
  omega
theorem rs_raw {s : St9} (h : s.1.length ≤ big9) : SizeS (rawRes (takeRowP 1000) (manyP9 takeNote 1000) s).2 ∧ CountS (rawRes (takeRowP 1000) (manyP9 takeNote 1000) s).2 ∧ (resB (rawRes (takeRowP 1000) (manyP9 takeNote 1000) s).2).length ≤ 10000000000 := by
  have h1 := Nat.le_trans (goes_len goes_num s) h
  have h2 := Nat.le_trans (goes_len goes_num (takeNum s).1) h1
  unfold rawRes
  dsimp only
  obtain ⟨s2, hs2⟩ : ∃ s2, s2 = (takeNum (takeNum s).1).1 := ⟨_, rfl⟩
  rw [← hs2] at h2 ⊢
  have h3 := Nat.le_trans (goes_len (goes_some goes_prim 1000) s2) h2
  obtain ⟨s3, hs3⟩ : ∃ s3, s3 = (takePrims 1000 s2).1 := ⟨_, rfl⟩
  have h3' : s3.1.length ≤ big9 := by rw [hs3]; exact h3
  rw [← hs3]
  have h4 := Nat.le_trans (goes_len (goes_row 1000) s3) h3'
  obtain ⟨s4, hs4⟩ : ∃ s4, s4 = (takeRowP 1000 s3).1 := ⟨_, rfl⟩
  rw [← hs4] at h4 ⊢
  have h5 := Nat.le_trans (goes_len (goes_some (goes_text 60) 1000) s4) h4
  obtain ⟨s5, hs5⟩ : ∃ s5, s5 = (takeTexts 1000 60 s4).1 := ⟨_, rfl⟩
  have h5' : s5.1.length ≤ big9 := by rw [hs5]; exact h5
  rw [← hs5]
  have hpl : (takePrims 1000 s2).2.length ≤ 1000 := some_len (by decide)
  have hps : ∀ p ∈ (takePrims 1000 s2).2, SizeP p := some_ok goes_prim (fun s hs => prim_ok hs) h2
  have hrl : (takeRowP 1000 s3).2.length ≤ 1000 := row_len (by decide)
  have hrf := row_far (m := 1000) h3'
  have htl : (takeTexts 1000 60 s4).2.length ≤ 1000 := some_len (by decide)
  have hnl : (manyP9 takeNote 1000 s5).2.length ≤ 1000 := manyP9_len (by decide)
  have hnn : ∀ n ∈ (manyP9 takeNote 1000 s5).2, (-far9 ≤ n.1 ∧ n.1 ≤ far9) ∧ n.2.1.length ≤ 1000 ∧ (noteB n).length ≤ 1000200 := manyP9_ok (ok := fun n : Nt9 => (-far9 ≤ n.1 ∧ n.1 ≤ far9) ∧ n.2.1.length ≤ 1000 ∧ (noteB n).length ≤ 1000200) goes_note (fun s hs => note_raw hs) h5'
  have n1 := numB_len (takeNum s).2
  have n2 := numB_len (takeNum (takeNum s).1).2
  have t1 := some_len9 (put := primB) back_prim (m := 1000) (s := s2)
  have t2 := manyB_le (put := numB) (c := 40) hrl fun n _ => by have := numB_len n; omega
  have t3 := some_len9 (put := textB) (back_text 60) (m := 1000) (s := s4)
  have t4 := manyB_le (put := noteB) (c := 1000200) hnl fun n hn => (hnn n hn).2.2
  refine ⟨⟨⟨by dsimp only; omega, fun p hp => ⟨(hps p hp).2.2.1.1, (hps p hp).2.2.2.1⟩⟩, by dsimp only; omega, by dsimp only; omega, by dsimp only; omega, fun n hn => by have := (hnn n hn).2.1; omega⟩, ⟨far_int num_far, far_int num_far, ⟨by dsimp only; omega, prims_count h2⟩, ⟨by dsimp only; omega, fun n hn => far_int (hrf n hn)⟩, by dsimp only; omega, by dsimp only; omega, fun n hn => ⟨far_int (hnn n hn).1, by have := (hnn n hn).2.1; omega⟩⟩, ?_⟩
  rw [resB_len]
  dsimp only
  have t5 : (numB (manyP9 takeNote 1000 s5).2.length).length + (((manyP9 takeNote 1000 s5).2.map noteB).flatten).length ≤ 40 + 1000 * 1000200 := by
    unfold manyB at t4
    rw [List.length_append] at t4
    exact t4
  unfold rowB textsB primsB
  unfold takeTexts takePrims at *
  have hb : big9 = 1000000 := rfl
  omega
end Go.Proofs.YtlfehnnmpkohkaaGreatDoor
/- Chapter 16: a row of numbers, a request, read of bytes: the program's way. -/
namespace Go.Proofs.YtlfehnnmpkohkaaGreatDoor
open Go Go.SL Go.Lib
attribute [local irreducible] Cfg Kont StepK Val Con Qops Any Sl Own Blk BlkR Rd Pu ExA AllA Has Pick Ent Elem Beside Callable TI Lone OwnO AndA
set_option maxRecDepth 100000 in
theorem take_con (i : Nat) (bv : Value) (s : St9) (many : Int) (hm : 0 ≤ many ∧ many ≤ 1000000) (te : TypeId) (pe : Value) : Con Tryz.prog 65 [ptr i, .int .i64 many] [Blk i 141 [bv, .bool s.2], Sl eByte bv s.1, G1 te pe, G3] (γ := Value × Value) (fun g => g.2) (fun _ => True) (fun g => [Blk i 141 [g.1, .bool (takeRowP many s).1.2], Sl eByte g.1 (takeRowP many s).1.1, Own (eInt .i64) 3 g.2 (takeRowP many s).2]) := by
  have hfar := num_far (s := s)
  have hN := inNum_con i bv s te pe
  unfold takeRowP
  obtain ⟨s1, n, hn⟩ : ∃ s1 n, takeNum s = (s1, n) := ⟨_, _, rfl⟩
  rw [hn] at hN hfar ⊢
  dsimp only at hN hfar ⊢
  unfold far9 at hfar
  obtain ⟨c, hc⟩ : ∃ c, c = (min (max n 0) many).toNat := ⟨_, rfl⟩
  have hcn : (c : Int) = min (max n 0) many := by omega
  rw [← hc]
  refine con_of Tryz.func65 rfl (dd rfl) fun w0 O0 => ?_
  refine c_seq (c_region ?_)
  refine oV vA ?_
  refine o_nil (c_seq (c_region ?_))
  refine oV vA ?_
  refine o_nil (c_seq (c_seq (c_region ?_)))
  refine oV vM ?_
  refine oC cl63 (hN) fun v1 _ => ?_
  refine oV (v_max rfl rfl) ?_
  refine oV vM ?_
  refine oV (v_min rfl rfl) ?_
  refine oV vM ?_
  refine o_nil (c_block ?_)
  rw [← hcn]
  refine c_loopR (γ := Nat × St9 × List Int × Value × Value) [(0, _), (4, _), (10, _)] (fun g => c - g.1) (fun g => g.1 ≤ c ∧ g.2.2.1.length = g.1 ∧ takeRep (c - g.1) g.2.1 g.2.2.1 = takeRep c s1 []) (fun g => [(11, .int .i64 g.1), (5, g.2.2.2.2)]) (fun g => [Blk i 141 [g.2.2.2.1, .bool g.2.1.2], Sl eByte g.2.2.2.1 g.2.1.1, Own (eInt .i64) 3 g.2.2.2.2 g.2.2.1, G1 te pe, G3]) ((0, s1, [], v1, .slice none 0 0)) (⟨Nat.zero_le _, rfl, rfl⟩) (by repeat (first | exact trivial | refine ⟨rfl, ?_⟩)) (eX (by repeat constructor)) ?_
  rintro ⟨k, sk, out, r, v⟩ ⟨hk, hlk, hTk⟩ IH
  dsimp only at hk hlk hTk ⊢
  try dsimp only [List.cons_append, List.nil_append]
  refine c_seq (c_region ?_)
  refine oV (v_lt rfl rfl) ?_
  refine o_nil (c_seq ?_)
  refine c_cond_p rfl (fun hlt => ?_) (fun hlt => ?_)
  · have hst := takeRep_step (n := c) (k := k) (s := sk) (out := out) (by omega)
    refine c_skip (c_seq (c_block (c_region ?_)))
    iterate 2 refine oV vM ?_
    refine oC cl63 (inNum_con i r sk te pe) fun w2 _ => ?_
    refine o_step (s_buildSlice Tryz.underlying22 ti3 rfl rfl rfl (by decide) (by decide) (beside_int .i64 [(takeNum sk).2]) rfl rfl (dd rfl) fun v2 => ?_)
    refine o_step (s_append Tryz.underlying22 ti3 rfl (by decide) rfl rfl (dd rfl) (pB (by repeat constructor)) (pX (by repeat constructor)) rfl (by (first | omega | (simp only [maxLen, List.length_append, List.length_drop, List.length_take, List.length_nil, List.length_cons]; omega))) (by (first | omega | (simp only [maxLen, List.length_append, List.length_drop, List.length_take, List.length_nil, List.length_cons]; omega))) fun v3 => ?_)
    refine oV vA ?_
    refine o_nil (c_inBlock (c_region ?_))
    refine oV ((by first | exact v_add64 rfl rfl (by omega) | exact v_add rfl rfl)) ?_
    refine oV vM ?_
    refine o_nil ?_
    refine cU (IH ((k + 1, (takeNum sk).1, out ++ [(takeNum sk).2], w2, v3)) (by first | omega | (dsimp only; omega)) (⟨by dsimp only; omega, by simp [hlk], hst.symm.trans hTk⟩))
  · have hend := takeRep_end (n := c) (k := k) (s := sk) (out := out) (by omega)
    rw [hend] at hTk
    refine c_exit rfl ?_
    refine c_seq (c_region ?_)
    refine oV vM ?_
    refine oV vA ?_
    refine o_nil ?_
    refine c_ret1 Tryz.func65 rfl rfl fun w O hS => ?_
    exact ⟨(r, v), rfl, trivial, by rw [← hTk]; exact Ent.get hS (eX (by repeat constructor))⟩
/-- What Parse, and UnpackRes, tell beside. -/
def errV (e : Int) (is : Bool) : Value := .int .i64 (if is then 0 else e)
def parseQ (l : List UInt8) : Rq9 := (parseP l).getD (zeroQ 0)
set_option maxRecDepth 100000 in
theorem parse_con (v : Value) (l : List UInt8) (hl : l.length ≤ big9) (te : TypeId) (pe : Value) : Con Tryz.prog 23 [v] [Sl eByte v l, G1 te pe, G3] (γ := Value × Value × Value)
    (fun g => .tuple #[.agg (rqC (parseQ l) g.1 g.2.1 g.2.2).toArray, errV 160 (parseP l).isSome]) (fun _ => True) (fun g => [Sl (eInt .i64) g.1 (parseQ l).2.2.2.2.2.1, Sl eStr g.2.1 (parseQ l).2.2.2.2.2.2.1, Sl ePr g.2.2 (parseQ l).2.2.2.2.2.2.2]) := by
  have hof := of_con v l (by unfold big9 at hl; omega)
  obtain ⟨hfine, hcount, hlen⟩ := rq_raw (s := (l, false)) hl
  have hP : parseP l = if (rawReq (takeRowP 8) (l, false)).1 = ([], false) ∧ RightQ (rawReq (takeRowP 8) (l, false)).2 ∧ reqB (rawReq (takeRowP 8) (l, false)).2 = l then some (rawReq (takeRowP 8) (l, false)).2 else none := rfl
  have c1 := fun i w => inNum_con i w (l, false) te pe
  obtain ⟨s1, k, h1⟩ : ∃ s1 k, takeNum (l, false) = (s1, k) := ⟨_, _, rfl⟩
  rw [h1] at c1
  have c2 := fun i w => inNum_con i w s1 te pe
  obtain ⟨s2, bs, h2⟩ : ∃ s2 k, takeNum s1 = (s2, k) := ⟨_, _, rfl⟩
  rw [h2] at c2
  have c3 := fun i w => inNum_con i w s2 te pe
  obtain ⟨s3, id, h3⟩ : ∃ s3 k, takeNum s2 = (s3, k) := ⟨_, _, rfl⟩
  rw [h3] at c3
  have c4 := fun i w => inText_con i w s3 24 te pe
  obtain ⟨s4, n, h4⟩ : ∃ s4 k, takeText 24 s3 = (s4, k) := ⟨_, _, rfl⟩
  rw [h4] at c4
  have c5 := fun i w => inText_con i w s4 60 te pe
  obtain ⟨s5, t, h5⟩ : ∃ s5 k, takeText 60 s4 = (s5, k) := ⟨_, _, rfl⟩
  rw [h5] at c5
  have c6 := fun i w => take_con i w s5 8 (by decide) te pe
  obtain ⟨s6, dl, h6⟩ : ∃ s6 k, takeRowP 8 s5 = (s6, k) := ⟨_, _, rfl⟩
  rw [h6] at c6
  have c7 := fun i w => inTexts_con i w s6 8 24 te pe
  obtain ⟨s7, fl, h7⟩ : ∃ s7 k, takeTexts 8 24 s6 = (s7, k) := ⟨_, _, rfl⟩
  rw [h7] at c7
  have l1 := Nat.le_trans (goes_len goes_num (l, false)) hl
  rw [h1] at l1
  have l2 := Nat.le_trans (goes_len goes_num s1) l1
  rw [h2] at l2
  have l3 := Nat.le_trans (goes_len goes_num s2) l2
  rw [h3] at l3
  have l4 := Nat.le_trans (goes_len (goes_text 24) s3) l3
  rw [h4] at l4
  have l5 := Nat.le_trans (goes_len (goes_text 60) s4) l4
  rw [h5] at l5
  have l6 := Nat.le_trans (goes_len (goes_row 8) s5) l5
  rw [h6] at l6
  have l7 := Nat.le_trans (goes_len (goes_some (goes_text 24) 8) s6) l6
  rw [show takeSome (takeText 24) 8 s6 = (s7, fl) from h7] at l7
  have c8 := fun i w => inPrims_con i w s7 24 l7 te pe
  obtain ⟨s8, pl, h8⟩ : ∃ s8 k, takePrims 24 s7 = (s8, k) := ⟨_, _, rfl⟩
  rw [h8] at c8
  have hraw : rawReq (takeRowP 8) (l, false) = (s8, (k, bs, id, n, t, dl, fl, pl)) := by unfold rawReq; simp only [h1, h2, h3, h4, h5, h6, h7, h8]
  rw [hraw] at hfine hcount hlen hP
  have hR := fun dv fv lv => reqRight_con (k, bs, id, n, t, dl, fl, pl) dv fv lv hfine
  have hK := fun dv fv lv => pack_con (k, bs, id, n, t, dl, fl, pl) dv fv lv hcount (Nat.le_trans hlen (by decide))
  have hdn := fun i w => done_con i w s8
  dsimp only [rqC] at c1 c2 c3 c4 c5 c6 c7 c8 hR hK hP
  refine con_of Tryz.func23 rfl (dd rfl) fun w0 O0 => ?_
  refine c_seq (c_region ?_)
  refine o_step (s_alloc ti32 (dd rfl) (fun b2 => ?_))
  refine oV vA ?_
  refine o_nil (c_seq (c_region ?_))
  refine oV vM ?_
  refine oC cl62 (hof) fun g _ => ?_
  refine oV vA ?_
  refine o_nil (c_seq (c_region ?_))
  refine oV vM ?_
  refine oC cl63 (c1 g.1 g.2) fun w1 _ => ?_
  refine oV vM ?_
  refine oC cl63 (c2 g.1 w1) fun w2 _ => ?_
  refine oV vM ?_
  refine oC cl63 (c3 g.1 w2) fun w3 _ => ?_
  refine oV vM ?_
  refine oC cl64 (c4 g.1 w3) fun w4 _ => ?_
  refine oV vM ?_
  refine oC cl64 (c5 g.1 w4) fun w5 _ => ?_
  refine oV (v_buildS (places := [(0, 1), (1, 1), (2, 1), (3, 1), (4, 1), (5, 1), (6, 1), (7, 1)]) (cells := [_, _, _, _, _, .slice none 0 0, .slice none 0 0, .slice none 0 0]) Tryz.underlying32 ti32 (by kernel_rfl) rfl (by repeat (first | exact PartsC.nil | (apply PartsC.one (by first | exact OneC.lit rfl | exact OneC.sl (hX (by repeat constructor)) )) | (apply PartsC.lit rfl))) rfl) ?_
  refine o_step (s_alloc ti32 (dd rfl) (fun b5 => ?_))
  refine o_step (s_store_all ti32 rfl rfl (by first | exact CellsV.lit rfl | exact CellsV.one (by first | exact OneC.lit rfl | exact OneC.sl (hX (by repeat constructor)) )) (by repeat (first | exact OneAll.nil | (refine OneAll.cons ?_ ?_; · first | exact OneC.lit rfl | exact OneC.sl (hX (by repeat constructor)) ) | exact OneAll.rd (hX (by repeat constructor)))) rfl (pB (by repeat constructor)) rfl (?_))
  refine o_nil (c_seq (c_region ?_))
  refine oV vM ?_
  refine oC cl65 (c6 g.1 w5) fun g6 _ => ?_
  refine oV (vF 5 Tryz.underlying32 ti22) ?_
  refine o_step (s_store1 ti22 rfl rfl (by first | exact OneC.lit rfl | exact OneC.sl (hX (by repeat constructor)) ) (pB (by repeat constructor)) (by first | decide | exact Nat.le_of_ble_eq_true rfl | simp) (by first | (dsimp only [List.set_cons_succ, List.set_cons_zero]; first | done | exact rfl) | rfl) (?_))
  refine o_nil (c_seq (c_region ?_))
  refine oV vM ?_
  refine oC cl66 (c7 g.1 g6.1) fun g7 _ => ?_
  refine oV (vF 6 Tryz.underlying32 ti23) ?_
  refine o_step (s_store1 ti23 rfl rfl (by first | exact OneC.lit rfl | exact OneC.sl (hX (by repeat constructor)) ) (pB (by repeat constructor)) (by first | decide | exact Nat.le_of_ble_eq_true rfl | simp) (by first | (dsimp only [List.set_cons_succ, List.set_cons_zero]; first | done | exact rfl) | rfl) (?_))
  refine o_nil (c_seq (c_region ?_))
  refine oV vM ?_
  refine oC cl67 (c8 g.1 g7.1) fun g8 _ => ?_
  refine oV (vF 7 Tryz.underlying32 ti30) ?_
  refine o_step (s_store1 ti30 rfl rfl (by first | exact OneC.lit rfl | exact OneC.sl (hX (by repeat constructor)) ) (pB (by repeat constructor)) (by first | decide | exact Nat.le_of_ble_eq_true rfl | simp) (by first | (dsimp only [List.set_cons_succ, List.set_cons_zero]; first | done | exact rfl) | rfl) (?_))
  refine o_nil (c_seq (c_seq ?_))
  by_cases hd : s8 = ([], false)
  · rw [decide_eq_true hd] at hdn
    by_cases hr : RightQ (k, bs, id, n, t, dl, fl, pl)
    · rw [decide_eq_true hr] at hR
      refine c_held [BlkR g.1 141 [g8.1, .bool s8.2], Sl eByte g8.1 s8.1, BlkR b5 32 [.int .i64 k, .int .i64 bs, .int .i64 id, .string n, .string t, g6.2, g7.2, g8.2], Sl (eInt .i64) g6.2 dl, Sl eStr g7.2 fl, Sl ePr g8.2 pl, Sl eByte v l, G3] rfl ?_
      refine aT 0 rfl vM ?_
      refine aO 1 rfl (s_callf_keep cl68 (hdn g.1 g8.1) rfl (dd rfl) (rX (by repeat constructor)) (fun _ => sX) (fun _ _ => aK ?_))
      refine aT 2 rfl (v_not rfl) ?_
      refine aT 3 rfl vM ?_
      refine a_know (s := 31) rfl (show _ = Value.bool false from rfl) ?_
      refine aN 4 rfl (vW Tryz.underlying32 ti32) ?_
      refine aP 5 rfl (s_callf_keep cl12 (hR g6.2 g7.2 g8.2) rfl (dd rfl) (rX (by repeat constructor)) (fun _ => sX) (fun _ _ => aK ?_))
      refine aN 6 rfl (v_not rfl) ?_
      refine aT 7 rfl vQ ?_
      refine aT 8 rfl vM ?_
      refine a_know (s := 36) rfl (show _ = Value.bool false from rfl) ?_
      refine aN 9 rfl (vW Tryz.underlying32 ti32) ?_
      refine aN 12 rfl vM ?_
      refine aN 13 rfl (v_conv_bytes Tryz.underlying38 Tryz.underlying5 Tryz.underlying9 rfl (hX (by repeat constructor))) ?_
      refine aP 10 rfl (s_callf_keep cl18 (hK g6.2 g7.2 g8.2) rfl (dd rfl) (rX (by repeat constructor)) (fun _ => sX) (fun r6 _ => aK ?_))
      refine aP 11 rfl (s_val (v_conv_bytes Tryz.underlying38 Tryz.underlying5 Tryz.underlying9 rfl (hX (by repeat constructor))) (dd rfl) (aK ?_))
      refine aN 14 rfl (v_sne rfl rfl) ?_
      refine aT 15 rfl vQ ?_
      refine a_done (by kernel_rfl) ?_ _
      refine c_cond_p rfl (fun hne => ?_) (fun hne => ?_)
      · have hn : parseP l = none := by rw [hP, if_neg (fun h => hne (congrArg sB h.2.2))]
        have hq0 : parseQ l = zeroQ 0 := by unfold parseQ; rw [hn]; rfl
        refine c_seq (c_region ?_)
        refine oV (v_buildS (places := [(0, 1), (1, 1), (2, 1), (3, 1), (4, 1), (5, 1), (6, 1), (7, 1)]) (cells := [.int .i64 0, .int .i64 0, .int .i64 0, .string ⟨#[]⟩, .string ⟨#[]⟩, .slice none 0 0, .slice none 0 0, .slice none 0 0]) Tryz.underlying32 ti32 (by kernel_rfl) rfl (by repeat (first | exact PartsC.nil | (apply PartsC.one (by first | exact OneC.lit rfl | exact OneC.sl (hX (by repeat constructor)) )) | (apply PartsC.lit rfl))) rfl) ?_
        refine o_step (s_store_all ti32 rfl rfl (by first | exact CellsV.lit rfl | exact CellsV.one (by first | exact OneC.lit rfl | exact OneC.sl (hX (by repeat constructor)) )) (by repeat (first | exact OneAll.nil | (refine OneAll.cons ?_ ?_; · first | exact OneC.lit rfl | exact OneC.sl (hX (by repeat constructor)) ) | exact OneAll.rd (hX (by repeat constructor)))) rfl (pB (by repeat constructor)) rfl (?_))
        refine oV vA ?_
        refine o_nil ?_
        refine c_ret_ct Tryz.func23 rfl ⟨_, Tryz.underlying32⟩ ti32 rfl rfl (hX (by repeat constructor)) fun w O hS => ?_
        exact ⟨(.slice none 0 0, .slice none 0 0, .slice none 0 0), by rw [hq0, hn]; rfl, trivial, by rw [hq0]; exact Ent.get hS (eX (by repeat constructor))⟩
      · have hy : parseP l = some (k, bs, id, n, t, dl, fl, pl) := by rw [hP, if_pos ⟨hd, hr, sB_inj (Classical.not_not.1 hne)⟩]
        have hq1 : parseQ l = (k, bs, id, n, t, dl, fl, pl) := by unfold parseQ; rw [hy]; rfl
        refine c_skip (c_seq (c_region ?_))
        refine oV (vW Tryz.underlying32 ti32) ?_
        refine o_step (s_store_all ti32 rfl rfl (by first | exact CellsV.lit rfl | exact CellsV.one (by first | exact OneC.lit rfl | exact OneC.sl (hX (by repeat constructor)) )) (by repeat (first | exact OneAll.nil | (refine OneAll.cons ?_ ?_; · first | exact OneC.lit rfl | exact OneC.sl (hX (by repeat constructor)) ) | exact OneAll.rd (hX (by repeat constructor)))) rfl (pB (by repeat constructor)) rfl (?_))
        refine oV vA ?_
        refine o_nil ?_
        refine c_ret_ct Tryz.func23 rfl ⟨_, Tryz.underlying32⟩ ti32 rfl rfl (hX (by repeat constructor)) fun w O hS => ?_
        exact ⟨(g6.2, g7.2, g8.2), by rw [hq1, hy]; rfl, trivial, by rw [hq1]; exact Ent.get hS (eX (by repeat constructor))⟩
    · rw [decide_eq_false hr] at hR
      have hn : parseP l = none := by rw [hP, if_neg (fun h => hr h.2.1)]
      have hq0 : parseQ l = zeroQ 0 := by unfold parseQ; rw [hn]; rfl
      refine c_held [BlkR g.1 141 [g8.1, .bool s8.2], Sl eByte g8.1 s8.1, BlkR b5 32 [.int .i64 k, .int .i64 bs, .int .i64 id, .string n, .string t, g6.2, g7.2, g8.2], Sl (eInt .i64) g6.2 dl, Sl eStr g7.2 fl, Sl ePr g8.2 pl, Sl eByte v l, G3] rfl ?_
      refine aT 0 rfl vM ?_
      refine aO 1 rfl (s_callf_keep cl68 (hdn g.1 g8.1) rfl (dd rfl) (rX (by repeat constructor)) (fun _ => sX) (fun _ _ => aK ?_))
      refine aT 2 rfl (v_not rfl) ?_
      refine aT 3 rfl vM ?_
      refine a_know (s := 31) rfl (show _ = Value.bool false from rfl) ?_
      refine aN 4 rfl (vW Tryz.underlying32 ti32) ?_
      refine aP 5 rfl (s_callf_keep cl12 (hR g6.2 g7.2 g8.2) rfl (dd rfl) (rX (by repeat constructor)) (fun _ => sX) (fun _ _ => aK ?_))
      refine aN 6 rfl (v_not rfl) ?_
      refine aT 7 rfl vQ ?_
      refine aT 8 rfl vM ?_
      refine a_know (s := 36) rfl (show _ = Value.bool true from rfl) ?_
      refine aX 9 rfl ?_
      refine aX 10 rfl ?_
      refine aX 11 rfl ?_
      refine aX 12 rfl ?_
      refine aX 13 rfl ?_
      refine aX 14 rfl ?_
      refine aT 15 rfl vT ?_
      refine a_done (by kernel_rfl) ?_ _
      refine c_cond_t rfl ?_
      refine c_seq (c_region ?_)
      refine oV (v_buildS (places := [(0, 1), (1, 1), (2, 1), (3, 1), (4, 1), (5, 1), (6, 1), (7, 1)]) (cells := [.int .i64 0, .int .i64 0, .int .i64 0, .string ⟨#[]⟩, .string ⟨#[]⟩, .slice none 0 0, .slice none 0 0, .slice none 0 0]) Tryz.underlying32 ti32 (by kernel_rfl) rfl (by repeat (first | exact PartsC.nil | (apply PartsC.one (by first | exact OneC.lit rfl | exact OneC.sl (hX (by repeat constructor)) )) | (apply PartsC.lit rfl))) rfl) ?_
      refine o_step (s_store_all ti32 rfl rfl (by first | exact CellsV.lit rfl | exact CellsV.one (by first | exact OneC.lit rfl | exact OneC.sl (hX (by repeat constructor)) )) (by repeat (first | exact OneAll.nil | (refine OneAll.cons ?_ ?_; · first | exact OneC.lit rfl | exact OneC.sl (hX (by repeat constructor)) ) | exact OneAll.rd (hX (by repeat constructor)))) rfl (pB (by repeat constructor)) rfl (?_))
      refine oV vA ?_
      refine o_nil ?_
      refine c_ret_ct Tryz.func23 rfl ⟨_, Tryz.underlying32⟩ ti32 rfl rfl (hX (by repeat constructor)) fun w O hS => ?_
      exact ⟨(.slice none 0 0, .slice none 0 0, .slice none 0 0), by rw [hq0, hn]; rfl, trivial, by rw [hq0]; exact Ent.get hS (eX (by repeat constructor))⟩
  · rw [decide_eq_false hd] at hdn
    have hn : parseP l = none := by rw [hP, if_neg (fun h => hd h.1)]
    have hq0 : parseQ l = zeroQ 0 := by unfold parseQ; rw [hn]; rfl
    refine c_held [BlkR g.1 141 [g8.1, .bool s8.2], Sl eByte g8.1 s8.1, BlkR b5 32 [.int .i64 k, .int .i64 bs, .int .i64 id, .string n, .string t, g6.2, g7.2, g8.2], Sl (eInt .i64) g6.2 dl, Sl eStr g7.2 fl, Sl ePr g8.2 pl, Sl eByte v l, G3] rfl ?_
    refine aT 0 rfl vM ?_
    refine aO 1 rfl (s_callf_keep cl68 (hdn g.1 g8.1) rfl (dd rfl) (rX (by repeat constructor)) (fun _ => sX) (fun _ _ => aK ?_))
    refine aT 2 rfl (v_not rfl) ?_
    refine aT 3 rfl vM ?_
    refine a_know (s := 31) rfl (show _ = Value.bool true from rfl) ?_
    refine aX 4 rfl ?_
    refine aX 5 rfl ?_
    refine aX 6 rfl ?_
    refine aT 7 rfl vT ?_
    refine aT 8 rfl vM ?_
    refine aX 9 rfl ?_
    refine aX 10 rfl ?_
    refine aX 11 rfl ?_
    refine aX 12 rfl ?_
    refine aX 13 rfl ?_
    refine aX 14 rfl ?_
    refine aT 15 rfl vT ?_
    refine a_done (by kernel_rfl) ?_ _
    refine c_cond_t rfl ?_
    refine c_seq (c_region ?_)
    refine oV (v_buildS (places := [(0, 1), (1, 1), (2, 1), (3, 1), (4, 1), (5, 1), (6, 1), (7, 1)]) (cells := [.int .i64 0, .int .i64 0, .int .i64 0, .string ⟨#[]⟩, .string ⟨#[]⟩, .slice none 0 0, .slice none 0 0, .slice none 0 0]) Tryz.underlying32 ti32 (by kernel_rfl) rfl (by repeat (first | exact PartsC.nil | (apply PartsC.one (by first | exact OneC.lit rfl | exact OneC.sl (hX (by repeat constructor)) )) | (apply PartsC.lit rfl))) rfl) ?_
    refine o_step (s_store_all ti32 rfl rfl (by first | exact CellsV.lit rfl | exact CellsV.one (by first | exact OneC.lit rfl | exact OneC.sl (hX (by repeat constructor)) )) (by repeat (first | exact OneAll.nil | (refine OneAll.cons ?_ ?_; · first | exact OneC.lit rfl | exact OneC.sl (hX (by repeat constructor)) ) | exact OneAll.rd (hX (by repeat constructor)))) rfl (pB (by repeat constructor)) rfl (?_))
    refine oV vA ?_
    refine o_nil ?_
    refine c_ret_ct Tryz.func23 rfl ⟨_, Tryz.underlying32⟩ ti32 rfl rfl (hX (by repeat constructor)) fun w O hS => ?_
    exact ⟨(.slice none 0 0, .slice none 0 0, .slice none 0 0), by rw [hq0, hn]; rfl, trivial, by rw [hq0]; exact Ent.get hS (eX (by repeat constructor))⟩
end Go.Proofs.YtlfehnnmpkohkaaGreatDoor
/- Chapter 16: requests of bytes that are not too many; responses of bytes: the program's way. -/
namespace Go.Proofs.YtlfehnnmpkohkaaGreatDoor
open Go Go.SL Go.Lib
/-- What Unpack tells. -/
def unpackP (l : List UInt8) : Option Rq9 := if 3000 < l.length then none else parseP l
def unpackE (l : List UInt8) : Value := .int .i64 (if 3000 < l.length then 161 else if (parseP l).isSome then 0 else 160)
def unpackQ (l : List UInt8) : Rq9 := (unpackP l).getD (zeroQ 0)
attribute [local irreducible] Cfg Kont StepK Val Con Qops Any Sl Own Blk BlkR Rd Pu ExA AllA Has Pick Ent Elem Beside Callable TI Lone OwnO AndA
set_option maxRecDepth 100000 in
theorem unpack_con (v : Value) (l : List UInt8) (hl : l.length ≤ big9) (te : TypeId) (pe : Value) : Con Tryz.prog 20 [v] [Sl eByte v l, G1 te pe, G3] (γ := Value × Value × Value)
    (fun g => .tuple #[.agg (rqC (unpackQ l) g.1 g.2.1 g.2.2).toArray, unpackE l]) (fun _ => True) (fun g => [Sl (eInt .i64) g.1 (unpackQ l).2.2.2.2.2.1, Sl eStr g.2.1 (unpackQ l).2.2.2.2.2.2.1, Sl ePr g.2.2 (unpackQ l).2.2.2.2.2.2.2]) := by
  have hP := parse_con v l hl te pe
  refine con_of Tryz.func20 rfl (dd rfl) fun w0 O0 => ?_
  refine c_seq (c_region ?_)
  refine o_step (s_alloc ti32 (dd rfl) (fun b2 => ?_))
  refine oV vA ?_
  refine o_nil (c_seq (c_seq (c_region ?_)))
  refine oV vM ?_
  refine oV ((by first | exact v_len_form Tryz.underlying38 rfl | exact v_len_sl Tryz.underlying38 rfl (hX (by repeat constructor)))) ?_
  refine oV (v_gt rfl rfl) ?_
  refine o_nil ?_
  refine c_cond_p rfl (fun h => ?_) (fun h => ?_)
  · have hq : unpackQ l = zeroQ 0 := by unfold unpackQ unpackP; rw [if_pos (by omega)]; rfl
    have he : unpackE l = .int .i64 161 := by unfold unpackE; rw [if_pos (by omega)]
    rw [hq, he]
    refine c_seq (c_region ?_)
    refine oV (v_buildS (places := [(0, 1), (1, 1), (2, 1), (3, 1), (4, 1), (5, 1), (6, 1), (7, 1)]) (cells := [.int .i64 0, .int .i64 0, .int .i64 0, .string ⟨#[]⟩, .string ⟨#[]⟩, .slice none 0 0, .slice none 0 0, .slice none 0 0]) Tryz.underlying32 ti32 (by kernel_rfl) rfl (by repeat (first | exact PartsC.nil | (apply PartsC.one (by first | exact OneC.lit rfl | exact OneC.sl (hX (by repeat constructor)) )) | (apply PartsC.lit rfl))) rfl) ?_
    refine o_step (s_store_all ti32 rfl rfl (by first | exact CellsV.lit rfl | exact CellsV.one (by first | exact OneC.lit rfl | exact OneC.sl (hX (by repeat constructor)) )) (by repeat (first | exact OneAll.nil | (refine OneAll.cons ?_ ?_; · first | exact OneC.lit rfl | exact OneC.sl (hX (by repeat constructor)) ) | exact OneAll.rd (hX (by repeat constructor)))) rfl (pB (by repeat constructor)) rfl (?_))
    refine oV vA ?_
    refine o_nil ?_
    refine c_ret_ct Tryz.func20 rfl ⟨_, Tryz.underlying32⟩ ti32 rfl rfl (hX (by repeat constructor)) fun w O hS => ?_
    exact ⟨(.slice none 0 0, .slice none 0 0, .slice none 0 0), rfl, trivial, Ent.get hS (eX (by repeat constructor))⟩
  · have hq : unpackQ l = parseQ l := by unfold unpackQ unpackP; rw [if_neg (by omega)]; rfl
    have he : unpackE l = errV 160 (parseP l).isSome := by unfold unpackE; rw [if_neg (by omega)]; rfl
    rw [hq, he]
    clear hq
    generalize parseQ l = q at hP ⊢
    obtain ⟨k, bs, id, n, t, dl, fl, pl⟩ := q
    dsimp only [rqC] at hP ⊢
    refine c_skip (c_seq (c_region ?_))
    refine oV vM ?_
    refine oC cl23 (hP) fun g _ => ?_
    refine oV vE ?_
    refine oV vE ?_
    refine o_step (s_store_all ti32 rfl rfl (by first | exact CellsV.lit rfl | exact CellsV.one (by first | exact OneC.lit rfl | exact OneC.sl (hX (by repeat constructor)) )) (by repeat (first | exact OneAll.nil | (refine OneAll.cons ?_ ?_; · first | exact OneC.lit rfl | exact OneC.sl (hX (by repeat constructor)) ) | exact OneAll.rd (hX (by repeat constructor)))) rfl (pB (by repeat constructor)) rfl (?_))
    refine oV vA ?_
    refine o_nil ?_
    refine c_ret_ct Tryz.func20 rfl ⟨_, Tryz.underlying32⟩ ti32 rfl rfl (hX (by repeat constructor)) fun w O hS => ?_
    exact ⟨g, rfl, trivial, Ent.get hS (eX (by repeat constructor))⟩
abbrev zeroS : Rs9 := (0, 0, [], [], [], [])
def resQ (l : List UInt8) : Rs9 := (resP l).getD zeroS
set_option maxRecDepth 100000 in
theorem unpackRes_con (v : Value) (l : List UInt8) (hl : l.length ≤ big9) (te : TypeId) (pe : Value) : Con Tryz.prog 30 [v] [Sl eByte v l, G1 te pe, G3] (γ := Value × Value × Value × Value)
    (fun g => .tuple #[.agg (rsC (resQ l) g.1 g.2.1 g.2.2.1 g.2.2.2).toArray, errV 160 (resP l).isSome]) (fun _ => True) (fun g => [Sl ePr g.1 (resQ l).2.2.1, Sl (eInt .i64) g.2.1 (resQ l).2.2.2.1, Sl eStr g.2.2.1 (resQ l).2.2.2.2.1, Sl eNt g.2.2.2 (resQ l).2.2.2.2.2]) := by
  have hof := of_con v l (by unfold big9 at hl; omega)
  obtain ⟨hsize, hcount, hlen⟩ := rs_raw (s := (l, false)) hl
  have hP : resP l = if (rawRes (takeRowP 1000) (manyP9 takeNote 1000) (l, false)).1 = ([], false) ∧ resB (rawRes (takeRowP 1000) (manyP9 takeNote 1000) (l, false)).2 = l then some (rawRes (takeRowP 1000) (manyP9 takeNote 1000) (l, false)).2 else none := rfl
  have c1 := fun i w => inNum_con i w (l, false) te pe
  obtain ⟨s1, c, h1⟩ : ∃ s1 k, takeNum (l, false) = (s1, k) := ⟨_, _, rfl⟩
  rw [h1] at c1
  have c2 := fun i w => inNum_con i w s1 te pe
  obtain ⟨s2, ver, h2⟩ : ∃ s2 k, takeNum s1 = (s2, k) := ⟨_, _, rfl⟩
  rw [h2] at c2
  have l1 := Nat.le_trans (goes_len goes_num (l, false)) hl
  rw [h1] at l1
  have l2 := Nat.le_trans (goes_len goes_num s1) l1
  rw [h2] at l2
  have c3 := fun i w => inPrims_con i w s2 1000 l2 te pe
  obtain ⟨s3, pl, h3⟩ : ∃ s3 k, takePrims 1000 s2 = (s3, k) := ⟨_, _, rfl⟩
  rw [h3] at c3
  have c4 := fun i w => take_con i w s3 1000 (by decide) te pe
  obtain ⟨s4, il, h4⟩ : ∃ s4 k, takeRowP 1000 s3 = (s4, k) := ⟨_, _, rfl⟩
  rw [h4] at c4
  have c5 := fun i w => inTexts_con i w s4 1000 60 te pe
  obtain ⟨s5, tl, h5⟩ : ∃ s5 k, takeTexts 1000 60 s4 = (s5, k) := ⟨_, _, rfl⟩
  rw [h5] at c5
  have c6 := fun i w => inNum_con i w s5 te pe
  obtain ⟨s6, m, h6⟩ : ∃ s6 k, takeNum s5 = (s6, k) := ⟨_, _, rfl⟩
  rw [h6] at c6
  obtain ⟨cn, hcn⟩ : ∃ cn, cn = (min (max m 0) 1000).toNat := ⟨_, rfl⟩
  have hcn' : (cn : Int) = min (max m 0) 1000 := by omega
  obtain ⟨s7, nl, h7⟩ : ∃ s7 k, manyP9 takeNote 1000 s5 = (s7, k) := ⟨_, _, rfl⟩
  have h7' : repG takeNote cn s6 [] = (s7, nl) := by
    rw [← h7]; unfold manyP9; rw [h6, hcn]
  have hraw : rawRes (takeRowP 1000) (manyP9 takeNote 1000) (l, false) = (s7, (c, ver, pl, il, tl, nl)) := by unfold rawRes; simp only [h1, h2, h3, h4, h5, h7]
  rw [hraw] at hcount hlen hP
  have hK := fun lv iv tv nv => packRes_con (c, ver, pl, il, tl, nl) lv iv tv nv hcount (Nat.le_trans hlen (by decide))
  have hdn := fun i w => done_con i w s7
  dsimp only [rsC] at c1 c2 c3 c4 c5 c6 hK hP
  refine con_of Tryz.func30 rfl (dd rfl) fun w0 O0 => ?_
  refine c_seq (c_region ?_)
  refine o_step (s_alloc ti55 (dd rfl) (fun b2 => ?_))
  refine oV vA ?_
  refine o_nil (c_seq (c_region ?_))
  refine oV vM ?_
  refine oC cl62 (hof) fun g _ => ?_
  refine oV vA ?_
  refine o_nil (c_seq (c_region ?_))
  refine oV vM ?_
  refine oC cl63 (c1 g.1 g.2) fun w1 _ => ?_
  refine oV vM ?_
  refine oC cl63 (c2 g.1 w1) fun w2 _ => ?_
  refine oV vM ?_
  refine oC cl67 (c3 g.1 w2) fun g3 _ => ?_
  refine oV (v_buildS (places := [(0, 1), (1, 1), (2, 1), (3, 1), (4, 1), (5, 1)]) (cells := [_, _, _, .slice none 0 0, .slice none 0 0, .slice none 0 0]) Tryz.underlying55 ti55 (by kernel_rfl) rfl (by repeat (first | exact PartsC.nil | (apply PartsC.one (by first | exact OneC.lit rfl | exact OneC.sl (hX (by repeat constructor)) )) | (apply PartsC.lit rfl))) rfl) ?_
  refine o_step (s_alloc ti55 (dd rfl) (fun b5 => ?_))
  refine o_step (s_store_all ti55 rfl rfl (by first | exact CellsV.lit rfl | exact CellsV.one (by first | exact OneC.lit rfl | exact OneC.sl (hX (by repeat constructor)) )) (by repeat (first | exact OneAll.nil | (refine OneAll.cons ?_ ?_; · first | exact OneC.lit rfl | exact OneC.sl (hX (by repeat constructor)) ) | exact OneAll.rd (hX (by repeat constructor)))) rfl (pB (by repeat constructor)) rfl (?_))
  refine o_nil (c_seq (c_region ?_))
  refine oV vM ?_
  refine oC cl65 (c4 g.1 g3.1) fun g4 _ => ?_
  refine oV (vF 3 Tryz.underlying55 ti22) ?_
  refine o_step (s_store1 ti22 rfl rfl (by first | exact OneC.lit rfl | exact OneC.sl (hX (by repeat constructor)) ) (pB (by repeat constructor)) (by first | decide | exact Nat.le_of_ble_eq_true rfl | simp) (by first | (dsimp only [List.set_cons_succ, List.set_cons_zero]; first | done | exact rfl) | rfl) (?_))
  refine o_nil (c_seq (c_region ?_))
  refine oV vM ?_
  refine oC cl66 (c5 g.1 g4.1) fun g5 _ => ?_
  refine oV (vF 4 Tryz.underlying55 ti23) ?_
  refine o_step (s_store1 ti23 rfl rfl (by first | exact OneC.lit rfl | exact OneC.sl (hX (by repeat constructor)) ) (pB (by repeat constructor)) (by first | decide | exact Nat.le_of_ble_eq_true rfl | simp) (by first | (dsimp only [List.set_cons_succ, List.set_cons_zero]; first | done | exact rfl) | rfl) (?_))
  refine o_nil (c_seq (c_seq (c_region ?_)))
  refine oV vM ?_
  refine oC cl63 (c6 g.1 g5.1) fun w6 _ => ?_
  refine oV (v_max rfl rfl) ?_
  refine oV (v_min rfl rfl) ?_
  refine oV vM ?_
  refine o_nil (c_block ?_)
  rw [← hcn']
  refine c_loopR (γ := Nat × St9 × List Nt9 × Value × Value) [(0, _), (2, _), (3, _), (4, _), (5, _), (25, _)] (fun j => cn - j.1) (fun j => j.1 ≤ cn ∧ j.2.2.1.length = j.1 ∧ repG takeNote (cn - j.1) j.2.1 j.2.2.1 = (s7, nl)) (fun j => [(26, .int .i64 j.1)]) (fun j => [Blk g.1 141 [j.2.2.2.1, .bool j.2.1.2], Sl eByte j.2.2.2.1 j.2.1.1, Blk b5 55 [.int .i64 c, .int .i64 ver, g3.2, g4.2, g5.2, j.2.2.2.2], Own eNt 72 j.2.2.2.2 j.2.2.1, Sl ePr g3.2 pl, Sl (eInt .i64) g4.2 il, Sl eStr g5.2 tl, Sl eByte v l, Blk b2 55 [.int .i64 0, .int .i64 0, .slice none 0 0, .slice none 0 0, .slice none 0 0, .slice none 0 0], G1 te pe, G3]) ((0, s6, [], w6, .slice none 0 0)) (⟨Nat.zero_le _, rfl, h7'⟩) (by repeat (first | exact trivial | refine ⟨rfl, ?_⟩)) (eX (by repeat constructor)) ?_
  rintro ⟨k, sk, out, r, nv⟩ ⟨hk, hlk, hTk⟩ IH
  dsimp only at hk hlk hTk ⊢
  try dsimp only [List.cons_append, List.nil_append]
  refine c_seq (c_region ?_)
  refine oV (v_lt rfl rfl) ?_
  refine o_nil (c_seq ?_)
  refine c_cond_p rfl (fun hlt => ?_) (fun hlt => ?_)
  · have hst := repG_step (take := takeNote) (n := cn) (k := k) (s := sk) (out := out) (by omega)
    have d1 := fun w => inNum_con g.1 w sk te pe
    obtain ⟨t1, x1, e1⟩ : ∃ s k, takeNum sk = (s, k) := ⟨_, _, rfl⟩
    rw [e1] at d1
    have d2 := fun w => inFlag_con g.1 w t1 te pe
    obtain ⟨t2, x2, e2⟩ : ∃ s k, takeFlag t1 = (s, k) := ⟨_, _, rfl⟩
    rw [e2] at d2
    have d3 := fun w => inTexts_con g.1 w t2 1000 60 te pe
    obtain ⟨t3, x3, e3⟩ : ∃ s k, takeTexts 1000 60 t2 = (s, k) := ⟨_, _, rfl⟩
    rw [e3] at d3
    have d3' := fun w => Con.post (L'' := fun q => [Blk g.1 141 [q.1, .bool t3.2], Sl eByte q.1 t3.1, Sl eStr q.2 x3]) (d3 w) fun q => (eX (by repeat constructor))
    have hnote : takeNote sk = (t3, (x1, x3, x2)) := by unfold takeNote; simp only [e1, e2, e3]
    rw [hnote] at hst
    dsimp only at d1 d2 hst
    refine c_skip (c_seq (c_block (c_seq (c_region ?_))))
    refine oV vM ?_
    refine oC cl63 (d1 r) fun r1 _ => ?_
    refine oV vM ?_
    refine oC cl77 (d2 r1) fun r2 _ => ?_
    refine oV (v_buildS (places := [(0, 1), (1, 1), (2, 1)]) (cells := [_, .slice none 0 0, _]) Tryz.underlying72 ti72 (by kernel_rfl) rfl (by repeat (first | exact PartsC.nil | (apply PartsC.one (by first | exact OneC.lit rfl | exact OneC.sl (hX (by repeat constructor)) )) | (apply PartsC.lit rfl))) rfl) ?_
    refine o_step (s_alloc ti72 (dd rfl) (fun b6 => ?_))
    refine o_step (s_store_all ti72 rfl rfl (by first | exact CellsV.lit rfl | exact CellsV.one (by first | exact OneC.lit rfl | exact OneC.sl (hX (by repeat constructor)) )) (by repeat (first | exact OneAll.nil | (refine OneAll.cons ?_ ?_; · first | exact OneC.lit rfl | exact OneC.sl (hX (by repeat constructor)) ) | exact OneAll.rd (hX (by repeat constructor)))) rfl (pB (by repeat constructor)) rfl (?_))
    refine o_nil (c_seq (c_region ?_))
    refine oV vM ?_
    refine oC cl66 (d3' r2) fun gt _ => ?_
    refine oV (vF 1 Tryz.underlying72 ti23) ?_
    refine o_step (s_store1 ti23 rfl rfl (by first | exact OneC.lit rfl | exact OneC.sl (hX (by repeat constructor)) ) (pB (by repeat constructor)) (by first | decide | exact Nat.le_of_ble_eq_true rfl | simp) (by first | (dsimp only [List.set_cons_succ, List.set_cons_zero]; first | done | exact rfl) | rfl) (?_))
    refine o_nil (c_region ?_)
    refine oV (vF 5 Tryz.underlying55 ti53) ?_
    refine oV (vL lone53) ?_
    refine oV (vW Tryz.underlying72 ti72) ?_
    refine o_step (s_buildSlice Tryz.underlying53 ti72 rfl rfl rfl (by decide) (by decide) (beside_agg1 (beside_of (Lp := [Sl eStr gt.2 x3]) (pXs (by repeat constructor)) fun w O => nt_rd w O)) rfl rfl (dd rfl) fun v2 => ?_)
    refine o_step (s_append Tryz.underlying53 ti72 rfl (by decide) rfl rfl (dd rfl) (pB (by repeat constructor)) (pX (by repeat constructor)) rfl (by (first | omega | (simp only [maxLen, List.length_append, List.length_drop, List.length_take, List.length_nil, List.length_cons]; omega))) (by (first | omega | (simp only [maxLen, List.length_append, List.length_drop, List.length_take, List.length_nil, List.length_cons]; omega))) fun v3 => ?_)
    refine oV (vF 5 Tryz.underlying55 ti53) ?_
    refine o_step (s_store1 ti53 rfl rfl (by first | exact OneC.lit rfl | exact OneC.sl (hX (by repeat constructor)) ) (pB (by repeat constructor)) (by first | decide | exact Nat.le_of_ble_eq_true rfl | simp) (by first | (dsimp only [List.set_cons_succ, List.set_cons_zero]; first | done | exact rfl) | rfl) (?_))
    refine o_nil (c_inBlock (c_region ?_))
    refine oV ((by first | exact v_add64 rfl rfl (by omega) | exact v_add rfl rfl)) ?_
    refine oV vM ?_
    refine o_nil ?_
    refine cU (IH ((k + 1, t3, out ++ [(x1, x3, x2)], gt.1, v3)) (by first | omega | (dsimp only; omega)) (⟨by dsimp only; omega, by simp [hlk], hst.symm.trans hTk⟩))
  · have hend := repG_end (take := takeNote) (n := cn) (k := k) (s := sk) (out := out) (by omega)
    rw [hend] at hTk
    cases hTk
    refine c_exit rfl ?_
    refine c_seq (c_seq ?_)
    by_cases hd : s7 = ([], false)
    · rw [decide_eq_true hd] at hdn
      refine c_held [BlkR g.1 141 [r, .bool s7.2], Sl eByte r s7.1, BlkR b5 55 [.int .i64 c, .int .i64 ver, g3.2, g4.2, g5.2, nv], Sl ePr g3.2 pl, Sl (eInt .i64) g4.2 il, Sl eStr g5.2 tl, Sl eNt nv nl, Sl eByte v l, G3] rfl ?_
      refine aT 0 rfl vM ?_
      refine aO 1 rfl (s_callf_keep cl68 (hdn g.1 r) rfl (dd rfl) (rX (by repeat constructor)) (fun _ => sX) (fun _ _ => aK ?_))
      refine aT 2 rfl (v_not rfl) ?_
      refine aT 3 rfl vM ?_
      refine a_know (s := 46) rfl (show _ = Value.bool false from rfl) ?_
      refine aN 4 rfl (vW Tryz.underlying55 ti55) ?_
      refine aN 7 rfl vM ?_
      refine aN 8 rfl (v_conv_bytes Tryz.underlying38 Tryz.underlying5 Tryz.underlying9 rfl (hX (by repeat constructor))) ?_
      refine aP 5 rfl (s_callf_keep cl26 (hK g3.2 g4.2 g5.2 nv) rfl (dd rfl) (rX (by repeat constructor)) (fun _ => sX) (fun r6 _ => aK ?_))
      refine aP 6 rfl (s_val (v_conv_bytes Tryz.underlying38 Tryz.underlying5 Tryz.underlying9 rfl (hX (by repeat constructor))) (dd rfl) (aK ?_))
      refine aN 9 rfl (v_sne rfl rfl) ?_
      refine aT 10 rfl vQ ?_
      refine a_done (by kernel_rfl) ?_ _
      refine c_cond_p rfl (fun hne => ?_) (fun hne => ?_)
      · have hn : resP l = none := by rw [hP, if_neg (fun h => hne (congrArg sB h.2))]
        have hq0 : resQ l = zeroS := by unfold resQ; rw [hn]; rfl
        refine c_seq (c_region ?_)
        refine oV (v_buildS (places := [(0, 1), (1, 1), (2, 1), (3, 1), (4, 1), (5, 1)]) (cells := [.int .i64 0, .int .i64 0, .slice none 0 0, .slice none 0 0, .slice none 0 0, .slice none 0 0]) Tryz.underlying55 ti55 (by kernel_rfl) rfl (by repeat (first | exact PartsC.nil | (apply PartsC.one (by first | exact OneC.lit rfl | exact OneC.sl (hX (by repeat constructor)) )) | (apply PartsC.lit rfl))) rfl) ?_
        refine o_step (s_store_all ti55 rfl rfl (by first | exact CellsV.lit rfl | exact CellsV.one (by first | exact OneC.lit rfl | exact OneC.sl (hX (by repeat constructor)) )) (by repeat (first | exact OneAll.nil | (refine OneAll.cons ?_ ?_; · first | exact OneC.lit rfl | exact OneC.sl (hX (by repeat constructor)) ) | exact OneAll.rd (hX (by repeat constructor)))) rfl (pB (by repeat constructor)) rfl (?_))
        refine oV vA ?_
        refine o_nil ?_
        refine c_ret_ct Tryz.func30 rfl ⟨_, Tryz.underlying55⟩ ti55 rfl rfl (hX (by repeat constructor)) fun w O hS => ?_
        exact ⟨(.slice none 0 0, .slice none 0 0, .slice none 0 0, .slice none 0 0), by rw [hq0, hn]; rfl, trivial, by rw [hq0]; exact Ent.get hS (eX (by repeat constructor))⟩
      · have hy : resP l = some (c, ver, pl, il, tl, nl) := by rw [hP, if_pos ⟨hd, sB_inj (Classical.not_not.1 hne)⟩]
        have hq1 : resQ l = (c, ver, pl, il, tl, nl) := by unfold resQ; rw [hy]; rfl
        refine c_skip (c_seq (c_region ?_))
        refine oV (vW Tryz.underlying55 ti55) ?_
        refine o_step (s_store_all ti55 rfl rfl (by first | exact CellsV.lit rfl | exact CellsV.one (by first | exact OneC.lit rfl | exact OneC.sl (hX (by repeat constructor)) )) (by repeat (first | exact OneAll.nil | (refine OneAll.cons ?_ ?_; · first | exact OneC.lit rfl | exact OneC.sl (hX (by repeat constructor)) ) | exact OneAll.rd (hX (by repeat constructor)))) rfl (pB (by repeat constructor)) rfl (?_))
        refine oV vA ?_
        refine o_nil ?_
        refine c_ret_ct Tryz.func30 rfl ⟨_, Tryz.underlying55⟩ ti55 rfl rfl (hX (by repeat constructor)) fun w O hS => ?_
        exact ⟨(g3.2, g4.2, g5.2, nv), by rw [hq1, hy]; rfl, trivial, by rw [hq1]; exact Ent.get hS (eX (by repeat constructor))⟩
    · rw [decide_eq_false hd] at hdn
      have hn : resP l = none := by rw [hP, if_neg (fun h => hd h.1)]
      have hq0 : resQ l = zeroS := by unfold resQ; rw [hn]; rfl
      refine c_held [BlkR g.1 141 [r, .bool s7.2], Sl eByte r s7.1] rfl ?_
      refine aT 0 rfl vM ?_
      refine aO 1 rfl (s_callf_keep cl68 (hdn g.1 r) rfl (dd rfl) (rX (by repeat constructor)) (fun _ => sX) (fun _ _ => aK ?_))
      refine aT 2 rfl (v_not rfl) ?_
      refine aT 3 rfl vM ?_
      refine a_know (s := 46) rfl (show _ = Value.bool true from rfl) ?_
      refine aX 4 rfl ?_
      refine aX 5 rfl ?_
      refine aX 6 rfl ?_
      refine aX 7 rfl ?_
      refine aX 8 rfl ?_
      refine aX 9 rfl ?_
      refine aT 10 rfl vT ?_
      refine a_done (by kernel_rfl) ?_ _
      refine c_cond_t rfl ?_
      refine c_seq (c_region ?_)
      refine oV (v_buildS (places := [(0, 1), (1, 1), (2, 1), (3, 1), (4, 1), (5, 1)]) (cells := [.int .i64 0, .int .i64 0, .slice none 0 0, .slice none 0 0, .slice none 0 0, .slice none 0 0]) Tryz.underlying55 ti55 (by kernel_rfl) rfl (by repeat (first | exact PartsC.nil | (apply PartsC.one (by first | exact OneC.lit rfl | exact OneC.sl (hX (by repeat constructor)) )) | (apply PartsC.lit rfl))) rfl) ?_
      refine o_step (s_store_all ti55 rfl rfl (by first | exact CellsV.lit rfl | exact CellsV.one (by first | exact OneC.lit rfl | exact OneC.sl (hX (by repeat constructor)) )) (by repeat (first | exact OneAll.nil | (refine OneAll.cons ?_ ?_; · first | exact OneC.lit rfl | exact OneC.sl (hX (by repeat constructor)) ) | exact OneAll.rd (hX (by repeat constructor)))) rfl (pB (by repeat constructor)) rfl (?_))
      refine oV vA ?_
      refine o_nil ?_
      refine c_ret_ct Tryz.func30 rfl ⟨_, Tryz.underlying55⟩ ti55 rfl rfl (hX (by repeat constructor)) fun w O hS => ?_
      exact ⟨(.slice none 0 0, .slice none 0 0, .slice none 0 0, .slice none 0 0), by rw [hq0, hn]; rfl, trivial, by rw [hq0]; exact Ent.get hS (eX (by repeat constructor))⟩
end Go.Proofs.YtlfehnnmpkohkaaGreatDoor
/- Chapter 16: the bytes of requests and responses: the document's way. -/
namespace Go.Proofs.YtlfehnnmpkohkaaGreatDoor
open Go Go.SL Go.Lib
/-- Sizes of what is written. -/
structure FitQ (q : Rq9) : Prop where
  name : q.2.2.2.1.size ≤ 1000000
  note : q.2.2.2.2.1.size ≤ 1000000
  deps : q.2.2.2.2.2.1.length ≤ 1000000
  files : TextsFit q.2.2.2.2.2.2.1
  prims : PrsFit q.2.2.2.2.2.2.2
structure FitS (s : Rs9) : Prop where
  prims : PrsFit s.2.2.1
  ids : s.2.2.2.1.length ≤ 1000000
  lines : TextsFit s.2.2.2.2.1
  notes : s.2.2.2.2.2.length ≤ 100000 ∧ ∀ n ∈ s.2.2.2.2.2, TextsFit n.2.1
theorem rowB_len {l : List Int} (h : l.length ≤ 1000000) : (rowB l).length ≤ 15000015 := by
  have h1 := flat_le (put := numB) (m := 15) (l := l) fun x _ => numB_len x
  have h2 := numB_len l.length
  have h3 : l.length * 15 ≤ 1000000 * 15 := Nat.mul_le_mul_right _ h
  unfold rowB manyB
  rw [List.length_append]
  omega
attribute [local irreducible] Cfg Kont StepK Val Con Qops Any Sl Own Blk BlkR Rd Pu ExA AllA Has Pick Ent Elem Beside Callable TI Lone OwnO AndA
set_option maxRecDepth 100000 in
theorem rowRef_con (v : Value) (l : List Int) (hl : l.length ≤ 1000000) : Con Tryz.prog 58 [v] [Sl (eInt .i64) v l] (γ := Unit) (fun _ => .string (sB (rowB l))) (fun _ => True) (fun _ => []) := by
  refine con_of Tryz.func58 rfl (dd rfl) fun w0 O0 => ?_
  refine c_seq (c_region ?_)
  refine oV vA ?_
  refine o_nil (c_seq (c_region ?_))
  refine oV vM ?_
  refine oV ((by first | exact v_len_form Tryz.underlying22 rfl | exact v_len_sl Tryz.underlying22 rfl (hX (by repeat constructor)))) ?_
  refine o_step (s_callf_keep cl56 (numRef_con (l.length : Int)) rfl (dd rfl) (rX (by repeat constructor)) (fun _ => sX) (fun _ _ => ?_))
  refine oV vA ?_
  refine o_nil (c_seq (c_seq (c_region ?_)))
  refine oV vA ?_
  refine o_nil (c_block ?_)
  rw [show sB (numB l.length) = sB (numB l.length ++ ((l.take 0).map numB).flatten) by simp]
  refine c_loopR (γ := Nat) [(0, _), (2, _)] (fun k => l.length - k) (fun k => k ≤ l.length) (fun k => [(4, .int .i64 k), (3, .string (sB (numB l.length ++ ((l.take k).map numB).flatten)))]) (fun _ => [Sl (eInt .i64) v l]) (0) (Nat.zero_le _) (by repeat (first | exact trivial | refine ⟨rfl, ?_⟩)) (eX (by repeat constructor)) ?_
  rintro k hk IH
  try dsimp only [List.cons_append, List.nil_append]
  refine c_seq (c_seq (c_region ?_))
  iterate 2 refine oV vM ?_
  refine oV ((by first | exact v_len_form Tryz.underlying22 rfl | exact v_len_sl Tryz.underlying22 rfl (hX (by repeat constructor)))) ?_
  refine oV (v_lt rfl rfl) ?_
  refine o_nil ?_
  refine c_cond_p rfl (fun hlt => ?_) (fun hlt => ?_)
  · have hk' : k < l.length := by omega
    have ht := numB_len (l[k]'hk')
    have hz1 := sB_size (numB l.length ++ ((l.take k).map numB).flatten)
    have hz2 := sB_size (numB (l[k]'hk'))
    have hn := numB_len l.length
    have hfl := flat_le (put := numB) (m := 15) (l := l.take k) fun x _ => numB_len x
    have hkl : (l.take k).length ≤ 1000000 := by rw [List.length_take]; omega
    have hm : (l.take k).length * 15 ≤ 1000000 * 15 := Nat.mul_le_mul_right _ hkl
    rw [List.length_append] at hz1
    refine c_skip (c_seq (c_block (c_region ?_)))
    iterate 3 refine oV vM ?_
    refine oV ((by first | exact v_indexAddrN Tryz.underlying22 ti3 rfl rfl (hX (by repeat constructor)) (by omega) | exact v_indexAddr Tryz.underlying22 ti3 rfl rfl (hX (by repeat constructor)) (by omega))) ?_
    refine oV (v_load_int lone3 rfl (by repeat (first | exact Elem.sl (List.getElem?_eq_getElem (by omega)) | exact Elem.own (List.getElem?_eq_getElem (by omega)) | exact Elem.ownO (List.getElem?_eq_getElem (by omega)) | apply Elem.there))) ?_
    refine o_step (s_callf_keep cl56 (numRef_con (l[k]'hk')) rfl (dd rfl) (rX (by repeat constructor)) (fun _ => sX) (fun _ _ => ?_))
    refine oV (v_cat rfl rfl (by first | omega | (simp only [ByteArray.size_append]; omega))) ?_
    refine oV vA ?_
    refine o_nil (c_inBlock (c_region ?_))
    refine oV vM ?_
    refine oV ((by first | exact v_add64 rfl rfl (by omega) | exact v_add rfl rfl)) ?_
    refine oV vA ?_
    refine o_nil ?_
    rw [sB_app, List.append_assoc, ← flat_next numB hk']
    refine cU (IH (k + 1) (by first | omega | (dsimp only; omega)) (by omega))
  · have hke : k = l.length := by omega
    refine c_exit rfl ?_
    refine c_seq (c_region ?_)
    refine oV vM ?_
    refine oV vA ?_
    refine o_nil ?_
    refine c_ret1 Tryz.func58 rfl rfl fun w O hS => ?_
    exact ⟨(), by rw [hke, List.take_length]; rfl, trivial, trivial⟩
set_option maxRecDepth 100000 in
theorem packRef_con (q : Rq9) (d f l : Value) (hq : FitQ q) : Con Tryz.prog 19 [.agg (rqC q d f l).toArray] [Sl (eInt .i64) d q.2.2.2.2.2.1, Sl eStr f q.2.2.2.2.2.2.1, Sl ePr l q.2.2.2.2.2.2.2] (γ := Unit) (fun _ => .string (sB (reqB q))) (fun _ => True) (fun _ => []) := by
  obtain ⟨k, bs, i, n, t, dl, fl, pl⟩ := q
  obtain ⟨hn, ht, hd, hf, hp⟩ := hq
  dsimp only [rqC] at hn ht hd hf hp ⊢
  have s1 := sB_size (numB k)
  have s2 := sB_size (numB bs)
  have s3 := sB_size (numB i)
  have s4 := sB_size (textB n)
  have s5 := sB_size (textB t)
  have s6 := sB_size (rowB dl)
  have s7 := sB_size (textsB fl)
  have s8 := sB_size (primsB pl)
  have l1 := numB_len k
  have l2 := numB_len bs
  have l3 := numB_len i
  have l4 := textB_len n
  have l5 := textB_len t
  have l6 := rowB_len hd
  have l7 := textsB_len hf
  have l8 := primsB_len hp
  refine con_of Tryz.func19 rfl (dd rfl) fun w0 O0 => ?_
  refine c_seq (c_region ?_)
  refine o_step (s_box rfl (dd rfl) (fun b1 => ?_))
  refine oV vA ?_
  refine o_nil (c_seq ?_)
  refine c_held [BlkR b1 26 [.int .i64 k, .int .i64 bs, .int .i64 i, .string n, .string t, d, f, l], Sl (eInt .i64) d dl, Sl eStr f fl, Sl ePr l pl] rfl ?_
  refine aT 0 rfl (vF 0 Tryz.underlying26 ti3) ?_
  refine aT 1 rfl (vL lone3) ?_
  refine aT 3 rfl (vF 1 Tryz.underlying26 ti3) ?_
  refine aT 4 rfl (vL lone3) ?_
  refine aT 7 rfl (vF 2 Tryz.underlying26 ti3) ?_
  refine aT 8 rfl (vL lone3) ?_
  refine aT 11 rfl (vF 3 Tryz.underlying26 ti9) ?_
  refine aT 12 rfl (vL lone9) ?_
  refine aT 15 rfl (vF 4 Tryz.underlying26 ti9) ?_
  refine aT 16 rfl (vL lone9) ?_
  refine aT 19 rfl (vF 5 Tryz.underlying26 ti22) ?_
  refine aT 20 rfl (vL lone22) ?_
  refine aT 23 rfl (vF 6 Tryz.underlying26 ti23) ?_
  refine aT 24 rfl (vL lone23) ?_
  refine aT 27 rfl (vF 7 Tryz.underlying26 ti24) ?_
  refine aT 28 rfl (vL lone24) ?_
  refine aO 2 rfl (s_callf_keep cl56 (numRef_con k) rfl (dd rfl) (rX (by repeat constructor)) (fun _ => sX) (fun _ _ => aK ?_))
  refine aO 5 rfl (s_callf_keep cl56 (numRef_con bs) rfl (dd rfl) (rX (by repeat constructor)) (fun _ => sX) (fun _ _ => aK ?_))
  refine aT 6 rfl (v_cat rfl rfl (by first | omega | (simp only [ByteArray.size_append]; omega))) ?_
  refine aO 9 rfl (s_callf_keep cl56 (numRef_con i) rfl (dd rfl) (rX (by repeat constructor)) (fun _ => sX) (fun _ _ => aK ?_))
  refine aT 10 rfl (v_cat rfl rfl (by first | omega | (simp only [ByteArray.size_append]; omega))) ?_
  refine aO 13 rfl (s_callf_keep cl57 (textRef_con n (by omega)) rfl (dd rfl) (rX (by repeat constructor)) (fun _ => sX) (fun _ _ => aK ?_))
  refine aT 14 rfl (v_cat rfl rfl (by first | omega | (simp only [ByteArray.size_append]; omega))) ?_
  refine aO 17 rfl (s_callf_keep cl57 (textRef_con t (by omega)) rfl (dd rfl) (rX (by repeat constructor)) (fun _ => sX) (fun _ _ => aK ?_))
  refine aT 18 rfl (v_cat rfl rfl (by first | omega | (simp only [ByteArray.size_append]; omega))) ?_
  refine aO 21 rfl (s_callf_keep cl58 (rowRef_con d dl hd) rfl (dd rfl) (rX (by repeat constructor)) (fun _ => sX) (fun _ _ => aK ?_))
  refine aT 22 rfl (v_cat rfl rfl (by first | omega | (simp only [ByteArray.size_append]; omega))) ?_
  refine aO 25 rfl (s_callf_keep cl59 (textsRef_con f fl hf) rfl (dd rfl) (rX (by repeat constructor)) (fun _ => sX) (fun _ _ => aK ?_))
  refine aT 26 rfl (v_cat rfl rfl (by first | omega | (simp only [ByteArray.size_append]; omega))) ?_
  refine aO 29 rfl (s_callf_keep cl60 (primsRef_con l pl hp) rfl (dd rfl) (rX (by repeat constructor)) (fun _ => sX) (fun _ _ => aK ?_))
  refine aT 30 rfl (v_cat rfl rfl (by first | omega | (simp only [ByteArray.size_append]; omega))) ?_
  refine aT 31 rfl vA ?_
  refine a_done (by kernel_rfl) ?_ _
  refine c_ret1 Tryz.func19 rfl rfl fun w O hS => ?_
  exact ⟨(), by unfold reqB; simp only [← sB_app], trivial, trivial⟩
end Go.Proofs.YtlfehnnmpkohkaaGreatDoor
/- Chapter 16: a row of numbers, a request, a response, read of bytes: the document's way. -/
namespace Go.Proofs.YtlfehnnmpkohkaaGreatDoor
open Go Go.SL Go.Lib
attribute [local irreducible] Cfg Kont StepK Val Con Qops Any Sl Own Blk BlkR Rd Pu ExA AllA Has Pick Ent Elem Beside Callable TI Lone OwnO AndA
def parseQR (l : List UInt8) : Rq9 := (parseR l).getD (zeroQ 0)
def unpackRR (l : List UInt8) : Option Rq9 := if 3000 < l.length then none else parseR l
def unpackER (l : List UInt8) : Value := .int .i64 (if 3000 < l.length then 161 else if (parseR l).isSome then 0 else 160)
def unpackQR (l : List UInt8) : Rq9 := (unpackRR l).getD (zeroQ 0)
end Go.Proofs.YtlfehnnmpkohkaaGreatDoor
/- Chapter 16: a response read of bytes: the document's way. -/
namespace Go.Proofs.YtlfehnnmpkohkaaGreatDoor
open Go Go.SL Go.Lib
def resQR (l : List UInt8) : Rs9 := (resR l).getD zeroS
attribute [local irreducible] Cfg Kont StepK Val Con Qops Any Sl Own Blk BlkR Rd Pu ExA AllA Has Pick Ent Elem Beside Callable TI Lone OwnO AndA
end Go.Proofs.YtlfehnnmpkohkaaGreatDoor
/- Chapter 09: changes and patches, as the document and as the program have them. -/
namespace Go.Proofs.YtlfehnnmpkohkaaGreatDoor
open Go Go.SL Go.Lib
attribute [local irreducible] Cfg Kont StepK Val Con Qops Any Sl Own Blk BlkR Rd Pu ExA AllA Has Pick Ent Elem Beside Callable TI Lone OwnO AndA
set_option maxRecDepth 100000 in
theorem oldPr_con (v : Value) (l : List Pr9) (hl : l.length ≤ 1000000) : Con Tryz.prog 61 [v] [Sl ePr v l] (γ := Value) (fun r => r) (fun _ => True) (fun r => [Own ePr 129 r l]) := by
  refine con_of Tryz.func61 rfl (dd rfl) fun w0 O0 => ?_
  refine c_seq (c_region ?_)
  refine oV vA ?_
  refine o_nil (c_seq (c_region ?_))
  refine oV vA ?_
  refine o_nil (c_seq (c_seq (c_region ?_)))
  refine oV vM ?_
  refine oV ((by first | exact v_len_form Tryz.underlying30 rfl | exact v_len_sl Tryz.underlying30 rfl (hX (by repeat constructor)))) ?_
  refine oV vM ?_
  refine o_nil (c_block ?_)
  refine c_loopR (γ := Nat × Value) [(2, _), (6, _), (7, _)] (fun g => l.length - g.1) (fun g => g.1 ≤ l.length) (fun g => [(8, .int .i64 g.1), (3, g.2)]) (fun g => [Sl ePr v l, Own ePr 129 g.2 (l.take g.1)]) ((0, .slice none 0 0)) (Nat.zero_le _) (by repeat (first | exact trivial | refine ⟨rfl, ?_⟩)) (eX (by repeat constructor)) ?_
  rintro ⟨k, r⟩ hk IH
  dsimp only at hk ⊢
  try dsimp only [List.cons_append, List.nil_append]
  refine c_seq (c_region ?_)
  refine oV (v_lt rfl rfl) ?_
  refine o_nil (c_seq ?_)
  refine c_cond_p rfl (fun hlt => ?_) (fun hlt => ?_)
  · have hk' : k < l.length := by omega
    refine c_skip (c_seq (c_block (c_seq (c_region ?_))))
    refine oV ((by first | exact v_indexAddrN Tryz.underlying30 ti74 rfl rfl (hX (by repeat constructor)) (by omega) | exact v_indexAddr Tryz.underlying30 ti74 rfl rfl (hX (by repeat constructor)) (by omega))) ?_
    refine o_step (s_load_shape ⟨_, Tryz.underlying74⟩ ti74 rfl (dd rfl) (by repeat (first|exact el1 (by omega)|exact el2 (by omega)|exact el3 (by omega)|apply Elem.there)) (pr_open) (fun g => ?_))
    refine o_step (s_alloc ti74 (dd rfl) (fun b5 => ?_))
    refine o_step (s_store_all ti74 rfl rfl (by first | exact CellsV.lit rfl | exact CellsV.one (by first | exact OneC.lit rfl | exact OneC.sl (hX (by repeat constructor)) )) (by repeat (first | exact OneAll.nil | (refine OneAll.cons ?_ ?_; · first | exact OneC.lit rfl | exact OneC.sl (hX (by repeat constructor)) ) | exact OneAll.rd (hX (by repeat constructor)))) rfl (pB (by repeat constructor)) rfl (?_))
    refine o_nil (c_region ?_)
    refine oV vM ?_
    refine oV (vW Tryz.underlying74 ti74) ?_
    refine o_step (s_buildSlice Tryz.underlying24 ti129 rfl rfl rfl (by decide) (by decide) (beside_agg1 (beside_of (Lp := [Sl eStr g.1 l[k].2.2.2.2.1, Sl eStr g.2 l[k].2.2.2.2.2]) (pXs (by repeat constructor)) fun w O => pr_close (z := l[k]) w O)) rfl rfl (dd rfl) fun v1 => ?_)
    refine o_step (s_append Tryz.underlying24 ti129 rfl (by decide) rfl rfl (dd rfl) (pB (by repeat constructor)) (pX (by repeat constructor)) rfl (by (first | omega | (simp only [maxLen, List.length_append, List.length_drop, List.length_take, List.length_nil, List.length_cons]; omega))) (by (first | omega | (simp only [maxLen, List.length_append, List.length_drop, List.length_take, List.length_nil, List.length_cons]; omega))) fun v2 => ?_)
    refine oV vA ?_
    refine o_nil (c_inBlock (c_region ?_))
    refine oV ((by first | exact v_add64 rfl rfl (by omega) | exact v_add rfl rfl)) ?_
    refine oV vM ?_
    refine o_nil ?_
    rw [← List.take_succ_eq_append_getElem hk']
    refine cU (IH ((k + 1, v2)) (by first | omega | (dsimp only; omega)) (by dsimp only; omega))
  · refine c_exit rfl ?_
    refine c_seq (c_region ?_)
    refine oV vM ?_
    refine oV vA ?_
    refine o_nil ?_
    refine c_ret1 Tryz.func61 rfl rfl fun w O hS => ?_
    exact ⟨r, rfl, trivial, by rw [List.take_of_length_le (by omega)] at hS; exact Ent.get hS (eX (by repeat constructor))⟩
set_option maxRecDepth 100000 in
theorem newPr_con (v : Value) (l : List Pr9) (hl : l.length ≤ 1000000) : Con Tryz.prog 40 [v] [Sl ePr v l] (γ := Value) (fun r => r) (fun _ => True) (fun r => [Own ePr 74 r l]) := by
  refine con_of Tryz.func40 rfl (dd rfl) fun w0 O0 => ?_
  refine c_seq (c_region ?_)
  refine oV vA ?_
  refine o_nil (c_seq (c_region ?_))
  refine oV vA ?_
  refine o_nil (c_seq (c_seq (c_region ?_)))
  refine oV vM ?_
  refine oV ((by first | exact v_len_form Tryz.underlying24 rfl | exact v_len_sl Tryz.underlying24 rfl (hX (by repeat constructor)))) ?_
  refine oV vM ?_
  refine o_nil (c_block ?_)
  refine c_loopR (γ := Nat × Value) [(2, _), (6, _), (7, _)] (fun g => l.length - g.1) (fun g => g.1 ≤ l.length) (fun g => [(8, .int .i64 g.1), (3, g.2)]) (fun g => [Sl ePr v l, Own ePr 74 g.2 (l.take g.1)]) ((0, .slice none 0 0)) (Nat.zero_le _) (by repeat (first | exact trivial | refine ⟨rfl, ?_⟩)) (eX (by repeat constructor)) ?_
  rintro ⟨k, r⟩ hk IH
  dsimp only at hk ⊢
  try dsimp only [List.cons_append, List.nil_append]
  refine c_seq (c_region ?_)
  refine oV (v_lt rfl rfl) ?_
  refine o_nil (c_seq ?_)
  refine c_cond_p rfl (fun hlt => ?_) (fun hlt => ?_)
  · have hk' : k < l.length := by omega
    refine c_skip (c_seq (c_block (c_seq (c_region ?_))))
    refine oV ((by first | exact v_indexAddrN Tryz.underlying24 ti129 rfl rfl (hX (by repeat constructor)) (by omega) | exact v_indexAddr Tryz.underlying24 ti129 rfl rfl (hX (by repeat constructor)) (by omega))) ?_
    refine o_step (s_load_shape ⟨_, Tryz.underlying129⟩ ti129 rfl (dd rfl) (by repeat (first|exact el1 (by omega)|exact el2 (by omega)|exact el3 (by omega)|apply Elem.there)) (pr_open) (fun g => ?_))
    refine o_step (s_alloc ti129 (dd rfl) (fun b5 => ?_))
    refine o_step (s_store_all ti129 rfl rfl (by first | exact CellsV.lit rfl | exact CellsV.one (by first | exact OneC.lit rfl | exact OneC.sl (hX (by repeat constructor)) )) (by repeat (first | exact OneAll.nil | (refine OneAll.cons ?_ ?_; · first | exact OneC.lit rfl | exact OneC.sl (hX (by repeat constructor)) ) | exact OneAll.rd (hX (by repeat constructor)))) rfl (pB (by repeat constructor)) rfl (?_))
    refine o_nil (c_region ?_)
    refine oV vM ?_
    refine oV (vW Tryz.underlying129 ti129) ?_
    refine o_step (s_buildSlice Tryz.underlying30 ti74 rfl rfl rfl (by decide) (by decide) (beside_agg1 (beside_of (Lp := [Sl eStr g.1 l[k].2.2.2.2.1, Sl eStr g.2 l[k].2.2.2.2.2]) (pXs (by repeat constructor)) fun w O => pr_close (z := l[k]) w O)) rfl rfl (dd rfl) fun v1 => ?_)
    refine o_step (s_append Tryz.underlying30 ti74 rfl (by decide) rfl rfl (dd rfl) (pB (by repeat constructor)) (pX (by repeat constructor)) rfl (by (first | omega | (simp only [maxLen, List.length_append, List.length_drop, List.length_take, List.length_nil, List.length_cons]; omega))) (by (first | omega | (simp only [maxLen, List.length_append, List.length_drop, List.length_take, List.length_nil, List.length_cons]; omega))) fun v2 => ?_)
    refine oV vA ?_
    refine o_nil (c_inBlock (c_region ?_))
    refine oV ((by first | exact v_add64 rfl rfl (by omega) | exact v_add rfl rfl)) ?_
    refine oV vM ?_
    refine o_nil ?_
    rw [← List.take_succ_eq_append_getElem hk']
    refine cU (IH ((k + 1, v2)) (by first | omega | (dsimp only; omega)) (by dsimp only; omega))
  · refine c_exit rfl ?_
    refine c_seq (c_region ?_)
    refine oV vM ?_
    refine oV vA ?_
    refine o_nil ?_
    refine c_ret1 Tryz.func40 rfl rfl fun w O hS => ?_
    exact ⟨r, rfl, trivial, by rw [List.take_of_length_le (by omega)] at hS; exact Ent.get hS (eX (by repeat constructor))⟩
end Go.Proofs.YtlfehnnmpkohkaaGreatDoor
/- Chapter 16: the law's own helpers. -/
namespace Go.Proofs.YtlfehnnmpkohkaaGreatDoor
open Go Go.SL Go.Lib
def manyQ (q : Rq9) : Nat := q.2.2.2.1.size + q.2.2.2.2.1.size + q.2.2.2.2.2.1.length + q.2.2.2.2.2.2.1.length + many3 q.2.2.2.2.2.2.2 + sumS q.2.2.2.2.2.2.1
def manyN (n : Nt9) : Nat := n.2.1.length + sumS n.2.1
def sizeS (s : Rs9) : Nat := many3 s.2.2.1 + s.2.2.2.1.length + s.2.2.2.2.1.length + s.2.2.2.2.2.length + sumS s.2.2.2.2.1 + (s.2.2.2.2.2.map manyN).sum
attribute [local irreducible] Cfg Kont StepK Val Con Qops Any Sl Own Blk BlkR Rd Pu ExA AllA Has Pick Ent Elem Beside Callable TI Lone OwnO AndA
set_option maxHeartbeats 1000000 in
set_option maxRecDepth 100000 in
theorem writes6_con (k : Int) : Con Tryz.prog 17 [.int .i64 k] [] (γ := Unit) (fun _ => .bool (decide (0 ≤ k ∧ k ≤ 6))) (fun _ => True) (fun _ => []) := by
  refine con_of Tryz.func17 rfl (dd rfl) fun w0 O0 => ?_
  refine c_seq (c_region ?_)
  refine oV vA ?_
  refine o_nil (c_seq (c_region ?_))
  refine oV vM ?_
  refine oV (v_ge rfl rfl) ?_
  refine oV vM ?_
  refine o_guard_t rfl rfl (fun g => ?_) (fun g => ?_)
  · refine oV vM ?_
    refine oN ?_
    refine oV (v_le rfl rfl) ?_
    refine oV vT ?_
    refine oV vA ?_
    refine o_nil ?_
    refine c_ret1 Tryz.func17 rfl rfl fun w O hS => ?_
    exact ⟨(), congrArg Value.bool (decide_eq_decide.2 ⟨fun h => ⟨g, h⟩, fun h => h.2⟩), trivial, trivial⟩
  · refine oX ?_
    refine oX ?_
    refine oV vQ ?_
    refine oV vA ?_
    refine o_nil ?_
    refine c_ret1 Tryz.func17 rfl rfl fun w O hS => ?_
    exact ⟨(), congrArg Value.bool (decide_eq_false fun h => g h.1).symm, trivial, trivial⟩
set_option maxHeartbeats 1000000 in
set_option maxRecDepth 100000 in
theorem newQ_con (q : Rq9) (d f l : Value) (hl : q.2.2.2.2.2.2.2.length ≤ 1000000) : Con Tryz.prog 13 [.agg (rqC q d f l).toArray] [Sl (eInt .i64) d q.2.2.2.2.2.1, Sl eStr f q.2.2.2.2.2.2.1, Sl ePr l q.2.2.2.2.2.2.2] (γ := Value) (fun r => .agg (rqC q d f r).toArray) (fun _ => True) (fun r => [Sl (eInt .i64) d q.2.2.2.2.2.1, Sl eStr f q.2.2.2.2.2.2.1, Sl ePr r q.2.2.2.2.2.2.2]) := by
  have h := con_pu (newPr_con l q.2.2.2.2.2.2.2 hl) fun _ _ _ h => form_of h
  dsimp only [rqC]
  refine con_of Tryz.func13 rfl (dd rfl) fun w0 O0 => ?_
  refine c_seq (c_region ?_)
  refine o_step (s_box rfl (dd rfl) (fun b1 => ?_))
  refine o_step (s_alloc ti32 (dd rfl) (fun b2 => ?_))
  refine o_nil (c_seq ?_)
  refine c_held [BlkR b1 26 [.int .i64 q.1, .int .i64 q.2.1, .int .i64 q.2.2.1, .string q.2.2.2.1, .string q.2.2.2.2.1, d, f, l], Sl (eInt .i64) d q.2.2.2.2.2.1, Sl eStr f q.2.2.2.2.2.2.1] rfl ?_
  refine aT 0 rfl (vF 0 Tryz.underlying26 ti3) ?_
  refine aT 1 rfl (vL lone3) ?_
  refine aT 2 rfl (vF 1 Tryz.underlying26 ti3) ?_
  refine aT 3 rfl (vL lone3) ?_
  refine aT 4 rfl (vF 2 Tryz.underlying26 ti3) ?_
  refine aT 5 rfl (vL lone3) ?_
  refine aT 6 rfl (vF 3 Tryz.underlying26 ti9) ?_
  refine aT 7 rfl (vL lone9) ?_
  refine aT 8 rfl (vF 4 Tryz.underlying26 ti9) ?_
  refine aT 9 rfl (vL lone9) ?_
  refine aT 10 rfl (vF 5 Tryz.underlying26 ti22) ?_
  refine aT 11 rfl (vL lone22) ?_
  refine aT 12 rfl (vF 6 Tryz.underlying26 ti23) ?_
  refine aT 13 rfl (vL lone23) ?_
  refine aT 14 rfl (vF 7 Tryz.underlying26 ti24) ?_
  refine aT 15 rfl (vL lone24) ?_
  refine aO 16 rfl (s_callf cl40 (h) rfl (dd rfl) (pXs (by repeat constructor)) (fun r hr => aK ?_))
  obtain ⟨-, a0, c0, rfl⟩ := hr
  refine aT 17 rfl (v_buildS (places := [(0, 1), (1, 1), (2, 1), (3, 1), (4, 1), (5, 1), (6, 1), (7, 1)]) (cells := [_, _, _, _, _, _, _, _]) Tryz.underlying32 ti32 (by kernel_rfl) rfl (by repeat (first | exact PartsC.nil | (apply PartsC.one (by first | exact OneC.lit rfl | exact OneC.sl (hX (by repeat constructor)) )) | (apply PartsC.lit rfl))) rfl) ?_
  refine aS 18 rfl ti32 ?_
  refine a_done (by kernel_rfl) ?_ _
  refine c_ret_cell Tryz.func13 rfl ⟨_, Tryz.underlying32⟩ ti32 rfl (hX (by repeat constructor)) fun w O hS => ?_
  exact ⟨.slice a0 q.2.2.2.2.2.2.2.length c0, rfl, trivial, Ent.get hS (eX (by repeat constructor))⟩
set_option maxHeartbeats 1000000 in
set_option maxRecDepth 100000 in
theorem oldQ_con (q : Rq9) (d f l : Value) (hl : q.2.2.2.2.2.2.2.length ≤ 1000000) : Con Tryz.prog 21 [.agg (rqC q d f l).toArray] [Sl (eInt .i64) d q.2.2.2.2.2.1, Sl eStr f q.2.2.2.2.2.2.1, Sl ePr l q.2.2.2.2.2.2.2] (γ := Value) (fun r => .agg (rqC q d f r).toArray) (fun _ => True) (fun r => [Sl (eInt .i64) d q.2.2.2.2.2.1, Sl eStr f q.2.2.2.2.2.2.1, Sl ePr r q.2.2.2.2.2.2.2]) := by
  have h := con_pu (oldPr_con l q.2.2.2.2.2.2.2 hl) fun _ _ _ h => form_of h
  dsimp only [rqC]
  refine con_of Tryz.func21 rfl (dd rfl) fun w0 O0 => ?_
  refine c_seq (c_region ?_)
  refine o_step (s_box rfl (dd rfl) (fun b1 => ?_))
  refine o_step (s_alloc ti26 (dd rfl) (fun b2 => ?_))
  refine o_nil (c_seq ?_)
  refine c_held [BlkR b1 32 [.int .i64 q.1, .int .i64 q.2.1, .int .i64 q.2.2.1, .string q.2.2.2.1, .string q.2.2.2.2.1, d, f, l], Sl (eInt .i64) d q.2.2.2.2.2.1, Sl eStr f q.2.2.2.2.2.2.1] rfl ?_
  refine aT 0 rfl (vF 0 Tryz.underlying32 ti3) ?_
  refine aT 1 rfl (vL lone3) ?_
  refine aT 2 rfl (vF 1 Tryz.underlying32 ti3) ?_
  refine aT 3 rfl (vL lone3) ?_
  refine aT 4 rfl (vF 2 Tryz.underlying32 ti3) ?_
  refine aT 5 rfl (vL lone3) ?_
  refine aT 6 rfl (vF 3 Tryz.underlying32 ti9) ?_
  refine aT 7 rfl (vL lone9) ?_
  refine aT 8 rfl (vF 4 Tryz.underlying32 ti9) ?_
  refine aT 9 rfl (vL lone9) ?_
  refine aT 10 rfl (vF 5 Tryz.underlying32 ti22) ?_
  refine aT 11 rfl (vL lone22) ?_
  refine aT 12 rfl (vF 6 Tryz.underlying32 ti23) ?_
  refine aT 13 rfl (vL lone23) ?_
  refine aT 14 rfl (vF 7 Tryz.underlying32 ti30) ?_
  refine aT 15 rfl (vL lone30) ?_
  refine aO 16 rfl (s_callf cl61 (h) rfl (dd rfl) (pXs (by repeat constructor)) (fun r hr => aK ?_))
  obtain ⟨-, a0, c0, rfl⟩ := hr
  refine aT 17 rfl (v_buildS (places := [(0, 1), (1, 1), (2, 1), (3, 1), (4, 1), (5, 1), (6, 1), (7, 1)]) (cells := [_, _, _, _, _, _, _, _]) Tryz.underlying26 ti26 (by kernel_rfl) rfl (by repeat (first | exact PartsC.nil | (apply PartsC.one (by first | exact OneC.lit rfl | exact OneC.sl (hX (by repeat constructor)) )) | (apply PartsC.lit rfl))) rfl) ?_
  refine aS 18 rfl ti26 ?_
  refine a_done (by kernel_rfl) ?_ _
  refine c_ret_cell Tryz.func21 rfl ⟨_, Tryz.underlying26⟩ ti26 rfl (hX (by repeat constructor)) fun w O hS => ?_
  exact ⟨.slice a0 q.2.2.2.2.2.2.2.length c0, rfl, trivial, Ent.get hS (eX (by repeat constructor))⟩
set_option maxHeartbeats 1000000 in
set_option maxRecDepth 100000 in
theorem manyQ_con (q : Rq9) (d f l : Value) (hm : manyQ q ≤ 1000000000) : Con Tryz.prog 10 [.agg (rqC q d f l).toArray] [Sl (eInt .i64) d q.2.2.2.2.2.1, Sl eStr f q.2.2.2.2.2.2.1, Sl ePr l q.2.2.2.2.2.2.2] (γ := Unit) (fun _ => .int .i64 (manyQ q)) (fun _ => True) (fun _ => []) := by
  have h := many3_con l q.2.2.2.2.2.2.2 (by unfold manyQ at hm; omega)
  have hM : manyQ q = q.2.2.2.1.size + q.2.2.2.2.1.size + q.2.2.2.2.2.1.length + q.2.2.2.2.2.2.1.length + many3 q.2.2.2.2.2.2.2 + sumS q.2.2.2.2.2.2.1 := rfl
  dsimp only [rqC]
  obtain ⟨acc, hacc⟩ : ∃ acc : Int, acc = (q.2.2.2.1.size : Int) + q.2.2.2.2.1.size + q.2.2.2.2.2.1.length + q.2.2.2.2.2.2.1.length + many3 q.2.2.2.2.2.2.2 := ⟨_, rfl⟩
  refine con_of Tryz.func10 rfl (dd rfl) fun w0 O0 => ?_
  refine c_seq (c_region ?_)
  refine o_step (s_box rfl (dd rfl) (fun b1 => ?_))
  refine oV vA ?_
  refine o_nil (c_seq ?_)
  refine c_held [BlkR b1 26 [.int .i64 q.1, .int .i64 q.2.1, .int .i64 q.2.2.1, .string q.2.2.2.1, .string q.2.2.2.2.1, d, f, l], Sl (eInt .i64) d q.2.2.2.2.2.1, Sl eStr f q.2.2.2.2.2.2.1, Sl ePr l q.2.2.2.2.2.2.2] rfl ?_
  refine aT 0 rfl (vF 3 Tryz.underlying26 ti9) ?_
  refine aT 1 rfl (vL lone9) ?_
  refine aT 2 rfl (v_len_str Tryz.underlying9 rfl) ?_
  refine aT 3 rfl (vF 4 Tryz.underlying26 ti9) ?_
  refine aT 4 rfl (vL lone9) ?_
  refine aT 5 rfl (v_len_str Tryz.underlying9 rfl) ?_
  refine aT 6 rfl ((by first | exact v_add64 rfl rfl (by omega) | exact v_add rfl rfl)) ?_
  refine aT 7 rfl (vF 5 Tryz.underlying26 ti22) ?_
  refine aT 8 rfl (vL lone22) ?_
  refine aT 9 rfl ((by first | exact v_len_form Tryz.underlying22 rfl | exact v_len_sl Tryz.underlying22 rfl (hX (by repeat constructor)))) ?_
  refine aT 10 rfl ((by first | exact v_add64 rfl rfl (by omega) | exact v_add rfl rfl)) ?_
  refine aT 11 rfl (vF 6 Tryz.underlying26 ti23) ?_
  refine aT 12 rfl (vL lone23) ?_
  refine aT 13 rfl ((by first | exact v_len_form Tryz.underlying23 rfl | exact v_len_sl Tryz.underlying23 rfl (hX (by repeat constructor)))) ?_
  refine aT 14 rfl ((by first | exact v_add64 rfl rfl (by omega) | exact v_add rfl rfl)) ?_
  refine aT 15 rfl (vF 7 Tryz.underlying26 ti24) ?_
  refine aT 16 rfl (vL lone24) ?_
  refine aO 17 rfl (s_callf_keep cl38 (h) rfl (dd rfl) (rX (by repeat constructor)) (fun _ => sX) (fun _ _ => aK ?_))
  refine aT 18 rfl ((by first | exact v_add64 rfl rfl (by omega) | exact v_add rfl rfl)) ?_
  refine aT 19 rfl vA ?_
  refine a_done (by kernel_rfl) ?_ _
  refine c_seq (c_seq (c_region ?_))
  refine oV (vF 6 Tryz.underlying26 ti23) ?_
  refine oV (vL lone23) ?_
  refine oV ((by first | exact v_len_form Tryz.underlying23 rfl | exact v_len_sl Tryz.underlying23 rfl (hX (by repeat constructor)))) ?_
  refine oV vM ?_
  refine o_nil (c_block ?_)
  rw [show (q.2.2.2.1.size : Int) + q.2.2.2.2.1.size + q.2.2.2.2.2.1.length + q.2.2.2.2.2.2.1.length + many3 q.2.2.2.2.2.2.2 = acc + ((sumS (q.2.2.2.2.2.2.1.take 0) : Nat) : Int) by simp [hacc, sumS]]
  refine c_loopR (γ := Nat) [(2, _), (26, _), (27, _)] (fun j => q.2.2.2.2.2.2.1.length - j) (fun j => j ≤ q.2.2.2.2.2.2.1.length) (fun j => [(28, .int .i64 j), (3, .int .i64 (acc + ((sumS (q.2.2.2.2.2.2.1.take j) : Nat) : Int)))]) (fun _ => [Sl eStr f q.2.2.2.2.2.2.1]) (0) (Nat.zero_le _) (by repeat (first | exact trivial | refine ⟨rfl, ?_⟩)) (eX (by repeat constructor)) ?_
  rintro j hj IH
  have hsj := sum_le (fun s : ByteArray => s.size) q.2.2.2.2.2.2.1 j
  try dsimp only [List.cons_append, List.nil_append]
  refine c_seq (c_region ?_)
  refine oV (v_lt rfl rfl) ?_
  refine o_nil (c_seq ?_)
  refine c_cond_p rfl (fun hj2 => ?_) (fun hj2 => ?_)
  · have hjl : j < q.2.2.2.2.2.2.1.length := by omega
    have hsn : sumS (q.2.2.2.2.2.2.1.take (j + 1)) = sumS (q.2.2.2.2.2.2.1.take j) + q.2.2.2.2.2.2.1[j].size := sum_take (fun s : ByteArray => s.size) hjl
    have hsj2 := sum_le (fun s : ByteArray => s.size) q.2.2.2.2.2.2.1 (j + 1)
    unfold sumS at *
    refine c_skip (c_seq (c_block (c_seq (c_region ?_))))
    refine oV ((by first | exact v_indexAddrN Tryz.underlying23 ti9 rfl rfl (hX (by repeat constructor)) (by omega) | exact v_indexAddr Tryz.underlying23 ti9 rfl rfl (hX (by repeat constructor)) (by omega))) ?_
    refine oV (v_load_str lone9 rfl (by repeat (first | exact Elem.sl (List.getElem?_eq_getElem (by omega)) | exact Elem.own (List.getElem?_eq_getElem (by omega)) | exact Elem.ownO (List.getElem?_eq_getElem (by omega)) | apply Elem.there))) ?_
    refine oV vA ?_
    refine o_nil (c_region ?_)
    iterate 2 refine oV vM ?_
    refine oV (v_len_str Tryz.underlying9 rfl) ?_
    refine oV ((by first | exact v_add64 rfl rfl (by omega) | exact v_add rfl rfl)) ?_
    refine oV vA ?_
    refine o_nil (c_inBlock (c_region ?_))
    refine oV ((by first | exact v_add64 rfl rfl (by omega) | exact v_add rfl rfl)) ?_
    refine oV vM ?_
    refine o_nil ?_
    rw [Int.add_assoc acc, ← Int.natCast_add, ← hsn]
    refine cU (IH (j + 1) (by first | omega | (dsimp only; omega)) (by omega))
  · rw [List.take_of_length_le (l := q.2.2.2.2.2.2.1) (i := j) (by omega)]
    refine c_exit rfl ?_
    refine c_seq (c_region ?_)
    refine oV vM ?_
    refine oV vA ?_
    refine o_nil ?_
    refine c_ret1 Tryz.func10 rfl rfl fun w O hS => ?_
    exact ⟨(), congrArg (Value.int .i64) (by rw [hM, hacc]; omega), trivial, trivial⟩
end Go.Proofs.YtlfehnnmpkohkaaGreatDoor
/- Chapter 16: how much a response has; whether a number is far. -/
namespace Go.Proofs.YtlfehnnmpkohkaaGreatDoor
open Go Go.SL Go.Lib
attribute [local irreducible] Cfg Kont StepK Val Con Qops Any Sl Own Blk BlkR Rd Pu ExA AllA Has Pick Ent Elem Beside Callable TI Lone OwnO AndA
end Go.Proofs.YtlfehnnmpkohkaaGreatDoor
/- Chapter 16: requests and responses as arguments; sizes where they are counted. -/
namespace Go.Proofs.YtlfehnnmpkohkaaGreatDoor
open Go Go.SL Go.Lib
def IntsP (p : Pr9) : Prop := I64 p.1 ∧ I64 p.2.2.2.1
theorem sumS_mem {l : List ByteArray} {s : ByteArray} (h : s ∈ l) : s.size ≤ sumS l := by
  induction l with
  | nil => cases h
  | cons x l ih =>
    unfold sumS at *
    simp only [List.map_cons, List.sum_cons]
    cases List.mem_cons.1 h with
    | inl e => subst e; omega
    | inr e => have := ih e; omega
theorem manyP_mem {l : List Pr9} {p : Pr9} (h : p ∈ l) : manyP p + l.length ≤ many3 l := by
  have : manyP p ≤ (l.map manyP).sum := by
    induction l with
    | nil => cases h
    | cons x l ih =>
      simp only [List.map_cons, List.sum_cons]
      cases List.mem_cons.1 h with
      | inl e => subst e; omega
      | inr e => have := ih e; omega
  unfold many3; omega
theorem many3_len (l : List Pr9) : l.length ≤ many3 l := by unfold many3; omega
theorem fitTexts {l : List ByteArray} {m : Nat} (h : l.length + sumS l ≤ m) (hm : m ≤ 1000000) : TextsFit l := ⟨by omega, fun s hs => by have := sumS_mem hs; omega⟩
theorem fitP {p : Pr9} (h : manyP p ≤ 1000000) : PrFit p := by
  unfold manyP at h
  exact ⟨by omega, by omega, fitTexts (m := p.2.2.2.2.1.length + sumS p.2.2.2.2.1) (Nat.le_refl _) (by omega), fitTexts (m := p.2.2.2.2.2.length + sumS p.2.2.2.2.2) (Nat.le_refl _) (by omega)⟩
theorem fitPs {l : List Pr9} (h : many3 l ≤ 100000) : PrsFit l := ⟨by have := many3_len l; omega, fun p hp => fitP (by have := manyP_mem hp; omega)⟩
theorem countP {p : Pr9} (h : manyP p ≤ 1000000) (hi : IntsP p) : CountP p := by
  unfold manyP at h
  exact ⟨hi.1, hi.2, by omega, by omega⟩
theorem textsB_sum (l : List ByteArray) : (textsB l).length ≤ 15 + 4 * l.length + 2 * sumS l := by
  have h : ((l.map textB).flatten).length ≤ 4 * l.length + 2 * sumS l := by
    unfold sumS
    induction l with
    | nil => simp
    | cons x l ih =>
      have := textB_len x
      simp only [List.map_cons, List.flatten_cons, List.length_append, List.length_cons, List.sum_cons]
      omega
  have := numB_len l.length
  simp only [textsB, manyB, List.length_append]
  omega
theorem primB_sum (p : Pr9) : (primB p).length ≤ 68 + 4 * manyP p := by
  have a1 := numB_len p.1
  have a2 := textB_len p.2.1
  have a3 := textB_len p.2.2.1
  have a4 := numB_len p.2.2.2.1
  have a5 := textsB_sum p.2.2.2.2.1
  have a6 := textsB_sum p.2.2.2.2.2
  unfold manyP primB
  simp only [List.length_append]
  omega
theorem primsB_sum (l : List Pr9) : (primsB l).length ≤ 15 + 68 * many3 l := by
  have h : ((l.map primB).flatten).length ≤ 68 * l.length + 4 * (l.map manyP).sum := by
    induction l with
    | nil => simp
    | cons x l ih =>
      have := primB_sum x
      simp only [List.map_cons, List.flatten_cons, List.length_append, List.length_cons, List.sum_cons]
      omega
  have := numB_len l.length
  unfold many3
  simp only [primsB, manyB, List.length_append]
  omega

abbrev eRq : Enc Rq9 := ePair (eInt .i64) (ePair (eInt .i64) (ePair (eInt .i64) (ePair eStr (ePair eStr (ePair (eSl (eInt .i64)) (ePair (eSl eStr) (eSl ePr)))))))
abbrev eRs : Enc Rs9 := ePair (eInt .i64) (ePair (eInt .i64) (ePair (eSl ePr) (ePair (eSl (eInt .i64)) (ePair (eSl eStr) (eSl eNt)))))
abbrev rqL (q : Rq9) (d f l : Value) : List A := [Sl (eInt .i64) d q.2.2.2.2.2.1, Sl eStr f q.2.2.2.2.2.2.1, Sl ePr l q.2.2.2.2.2.2.2]
abbrev rsL (s : Rs9) (l i t n : Value) : List A := [Sl ePr l s.2.2.1, Sl (eInt .i64) i s.2.2.2.1, Sl eStr t s.2.2.2.2.1, Sl eNt n s.2.2.2.2.2]
theorem rq_open {z : Rq9} (w : World) (O : Perm) (c : List Value) (h : eRq.rd w O c z) : ∃ g : Value × Value × Value, c = rqC z g.1 g.2.1 g.2.2 ∧ Stars (rqL z g.1 g.2.1 g.2.2) w O := by
  obtain ⟨c1, d1, rfl, h1, c2, d2, rfl, h2, c3, d3, rfl, h3, c4, d4, rfl, h4, c5, d5, rfl, h5, c6, d6, rfl, ⟨dv, rfl, h6⟩, c7, c8, rfl, ⟨fv, rfl, h7⟩, lv, rfl, h8⟩ := h
  have a1 : c1 = [.int .i64 z.1] := h1
  have a2 : c2 = [.int .i64 z.2.1] := h2
  have a3 : c3 = [.int .i64 z.2.2.1] := h3
  have a4 : c4 = [.string z.2.2.2.1] := h4
  have a5 : c5 = [.string z.2.2.2.2.1] := h5
  subst a1; subst a2; subst a3; subst a4; subst a5
  refine ⟨(dv, fv, lv), rfl, stars_dups fun a ha => ?_⟩
  simp only [rqL, List.mem_cons, List.not_mem_nil, or_false] at ha
  rcases ha with rfl | rfl | rfl
  · exact SlP.dup h6
  · exact SlP.dup h7
  · exact SlP.dup h8
/-- Numbers that are numbers of the machine. -/
def IntsQ (q : Rq9) : Prop := I64 q.1 ∧ I64 q.2.1 ∧ I64 q.2.2.1 ∧ (∀ n ∈ q.2.2.2.2.2.1, I64 n) ∧ ∀ p ∈ q.2.2.2.2.2.2.2, IntsP p
def IntsS (s : Rs9) : Prop := I64 s.1 ∧ I64 s.2.1 ∧ (∀ p ∈ s.2.2.1, IntsP p) ∧ (∀ n ∈ s.2.2.2.1, I64 n) ∧ ∀ n ∈ s.2.2.2.2.2, I64 n.1
theorem many_fine {q : Rq9} (h : manyQ q ≤ 4000) : FineQ q ∧ FitQ q := by
  have h1 := many3_len q.2.2.2.2.2.2.2
  have hp := fun p hp => manyP_mem (l := q.2.2.2.2.2.2.2) (p := p) hp
  have hf := fun s hs => sumS_mem (l := q.2.2.2.2.2.2.1) (s := s) hs
  unfold manyQ at h
  exact ⟨⟨by omega, by omega, by omega, ⟨by omega, fun s hs => by have := hf s hs; omega⟩, by omega, fun p hp' => fitP (by have := hp p hp'; omega)⟩,
    ⟨by omega, by omega, by omega, ⟨by omega, fun s hs => by have := hf s hs; omega⟩, fitPs (by omega)⟩⟩
theorem many_count {q : Rq9} (h : manyQ q ≤ 4000) (hi : IntsQ q) : CountQ q := by
  have h1 := many3_len q.2.2.2.2.2.2.2
  have hp := fun p hp => manyP_mem (l := q.2.2.2.2.2.2.2) (p := p) hp
  unfold manyQ at h
  obtain ⟨i1, i2, i3, i4, i5⟩ := hi
  exact ⟨i1, i2, i3, ⟨by omega, i4⟩, by omega, by omega, fun p hp' => countP (by have := hp p hp'; omega) (i5 p hp')⟩
theorem rowB_sum (l : List Int) : (rowB l).length ≤ 15 + 15 * l.length := by
  have h1 := flat_le (put := numB) (m := 15) (l := l) fun x _ => numB_len x
  have h2 := numB_len l.length
  unfold rowB manyB
  rw [List.length_append]
  omega
theorem many_len9 {q : Rq9} (h : manyQ q ≤ 4000) : (reqB q).length ≤ 900000 := by
  have a1 := numB_len q.1
  have a2 := numB_len q.2.1
  have a3 := numB_len q.2.2.1
  have a4 := textB_len q.2.2.2.1
  have a5 := textB_len q.2.2.2.2.1
  have a6 := rowB_sum q.2.2.2.2.2.1
  have a7 := textsB_sum q.2.2.2.2.2.2.1
  have a8 := primsB_sum q.2.2.2.2.2.2.2
  unfold manyQ at h
  unfold reqB
  simp only [List.length_append]
  omega
end Go.Proofs.YtlfehnnmpkohkaaGreatDoor
/- Chapter 16: what the law's own look at a request of nothing comes to. -/
namespace Go.Proofs.YtlfehnnmpkohkaaGreatDoor
open Go Go.Lib
def aA : ByteArray := ⟨#[97]⟩
def pA6 : Pr9 := (1, aA, ⟨#[]⟩, 0, [], [])
def sA : Rs9 := (3, 9, [], [4], [], [(2, [aA], false)])
theorem alive_b : sB (reqB (zeroQ 7)) = ⟨#[55, 59, 48, 59, 48, 59, 48, 58, 44, 48, 58, 44, 48, 59, 48, 59, 48, 59]⟩ := by decide +kernel
theorem alive_l : (reqB (zeroQ 7)).length = 18 := by decide +kernel
theorem right7 : RightQ (zeroQ 7) := by decide +kernel
theorem rightA : RightQ (0, 0, 0, ⟨#[]⟩, ⟨#[]⟩, [], [], [pA6]) := by decide +kernel
theorem right0 : ¬ RightQ (zeroQ 0) := by decide +kernel
theorem alive_p : parseP (reqB (zeroQ 7)) = some (zeroQ 7) := parse_enc right7 (by rw [alive_l]; decide)
theorem alive_x : parseP [120] = none := by
  unfold parseP
  rw [if_neg]
  rintro ⟨h, -⟩
  revert h
  decide +kernel
theorem limA : LimS sA := ⟨by decide, by decide, ⟨by decide, fun _ h => by cases h⟩, ⟨by decide, by decide⟩, ⟨by decide, fun _ h => by cases h⟩, by decide, fun n hn => by
  rw [List.mem_singleton.1 hn]
  exact ⟨by decide, by decide, fun s hs => by rw [List.mem_singleton.1 hs]; decide⟩⟩
theorem alive_rl : (resB sA).length = 24 := by decide +kernel
theorem alive_r : resP (resB sA) = some sA := by
  rw [res_same (by rw [alive_rl]; decide)]
  unfold resR
  have h := res_enc limA (fun _ h => by cases h) []
  rw [List.append_nil] at h
  rw [h, if_pos rfl]
end Go.Proofs.YtlfehnnmpkohkaaGreatDoor
/- Rows of bytes: append of a count of zeros to a row of one's own, a row that is made, a literal that is marked as a text's. -/
namespace Go.SL
open Go
theorem zeroCells_u8 (c : Nat) : (Builtin.zeroCells (Value.int .u8 0).cells c).toList = List.replicate c (Value.int .u8 0) := by
  have hz : (Value.int .u8 0).cells = #[.int .u8 0] := rfl
  unfold Builtin.zeroCells
  rw [hz]
  apply List.ext_getElem
  · simp
  · intro i h1 h2
    simp [Nat.mod_one]
theorem bytes_zero {w : World} {O : Perm} (c : Nat) : Rows eByte w O (List.replicate c (Value.int .u8 0)) (List.replicate c (0 : UInt8)) := by
  rw [eByte_rows, List.map_replicate]; rfl
section
variable {E : TypeId} {T : TypeId}
end
section
variable {K : Act → World → Prop} {X : Cx} {kk : List Item} {env : Env} {L L1 L2 : List A} {d : Nat} {T : TypeId} {pos : String} {af : Array Edge} {x y : Operand} {E : TypeId} {v : Value}
/-- make([]byte, n). -/
theorem s_makeBytes {t : TypeId} {nb n : Nat} {l c : Operand} (hu : X.P.underlying t = some (.slice E)) (hE : TI X.P E (.int .u8 0) 1 nb) (hl : env.eval l = some (.int .i64 (n : Nat))) (hc : env.eval c = some (.int .i64 (n : Nat))) (hb : nb * n ≤ 281474976710656) (hm : n ≤ maxLen) (hd : d < X.fn.ntmps)
    (k : ∀ v', Kont X ((d, v') :: env) (Own eByte E v' (List.replicate n 0) :: L) K) : StepK X kk ⟨some d, .makeSlice t l c, T, pos, af, none⟩ env L K := by
  refine s_main (γ := Value) (V := fun u => u) (pu := fun _ => True) (L' := fun v' => Own eByte E v' (List.replicate n 0) :: L) ?_ hd (fun u _ => k u)
  intro a w O ha hst hdom
  obtain ⟨ti, hi, hz0, hsz, hbt⟩ := hE
  have h63' : (n : Int) ≤ 9223372036854775807 := by simp only [maxLen] at hm; omega
  have hb' : (ti.bytes : Int) * (n : Int) ≤ 281474976710656 := by rw [hbt, ← Int.natCast_mul]; omega
  have hrun := run_make (P := X.P) w t E ti (.int .u8 0) hu hi hz0 .i64 .i64 n n (by omega) (Int.le_refl _) hb' h63'
  simp only [Int.toNat_natCast] at hrun
  have hmc : (madeCells (Value.int .u8 0).cells (n * ti.size)).toList = List.replicate n (Value.int .u8 0) := by
    rw [hsz, Nat.mul_one, ← zeroCells_u8]
    have : (Value.int .u8 0).cells = #[.int .u8 0] := rfl
    simp [madeCells, Builtin.zeroCells, this]
  refine ⟨.slice (some ⟨w.heap.size, 0, none⟩) n n, w.alloc (.cells (madeCells (Value.int .u8 0).cells (n * ti.size)) E), fresh w O, ?_, trivial, stars_alloc _ hdom hst ?_, rel_alloc _ hdom⟩
  · simp [execOp, ha.eval hl, ha.eval hc, hrun]
  · refine ⟨fun b => if b = w.heap.size then 2 else 0, fun _ => 0, List.replicate n (Value.int .u8 0), ⟨fun _ => Nat.le_refl _, fun _ => Nat.zero_le _, fun _ _ => rfl, fun _ h => by omega⟩, ⟨by rw [List.length_replicate, List.length_replicate]; exact (Nat.mul_one _).symm, .inr ⟨w.heap.size, n, _, by rw [List.length_replicate], Nat.zero_le _, heap_alloc w _, by rw [List.length_replicate]; exact Nat.le_refl _, hm, ?_, ?_⟩⟩, fun b hb => ?_, bytes_zero n⟩
    · have := congrArg List.length hmc
      rw [Array.length_toList, List.length_replicate] at this
      rw [this]; exact (Nat.mul_one _).symm
    · rw [hmc, List.length_replicate]
      exact List.take_of_length_le (by rw [List.length_replicate]; exact Nat.le_of_eq (Nat.mul_one _).symm)
    · simp only [Value.ownBlock, Option.some.injEq] at hb
      subst hb
      show 2 ≤ if w.heap.size = w.heap.size then 2 else 0
      rw [if_pos rfl]; exact Nat.le_refl _
/-- []byte("..") of a constant: the literal's row, marked. -/
theorem s_markBytes {t : TypeId} {zs : List UInt8} (hu : X.P.underlying t = some (.slice E)) (he : X.P.underlying E = some (.int .u8)) (hx : env.eval x = some v) (hp : Pick (Own eByte E v zs) L L1) (h0 : zs ≠ []) (hd : d < X.fn.ntmps)
    (k : Kont X ((d, v) :: env) (Sl eByte v zs :: L1) K) : StepK X kk ⟨some d, .convert t t x, T, pos, af, none⟩ env L K := by
  refine s_main (γ := Unit) (V := fun _ => v) (pu := fun _ => True) (L' := fun _ => Sl eByte v zs :: L1) ?_ hd (fun _ _ => k)
  intro a w O ha hst hdom
  obtain ⟨O1, O2, s, hO, hs2⟩ := hp w O hst
  obtain ⟨P1, P2, cs, t1, g1, g2, g3⟩ := id hO
  rcases g1.2 with ⟨-, h⟩ | ⟨g, cap, cur, rfl, hbg, hg, hnc, hcm, hcs, htake⟩
  · exact absurd (List.eq_nil_of_length_eq_zero h) h0
  have hb2 : 2 ≤ O1 g := Nat.le_trans (g2 g rfl) (t1.l g)
  have hglt : g < w.heap.size := by
    rcases Nat.lt_or_ge g w.heap.size with h | h
    · exact h
    · rw [Array.getElem?_eq_none h] at hg; cases hg
  obtain ⟨w', hw'⟩ : ∃ w', w' = w.freeze ⟨g, cur.size, none⟩ 1 := ⟨_, rfl⟩
  obtain ⟨f, hheap, hf⟩ : ∃ f : Obj → Obj, w'.heap = w.heap.modify g f ∧ f (.cells cur E (0, 0)) = .cells cur E (cur.size, cur.size + 1) := by
    have e : ∃ f : Obj → Obj, (w.freeze ⟨g, cur.size, none⟩ 1).heap = w.heap.modify g f ∧ f (.cells cur E (0, 0)) = .cells cur E (cur.size, cur.size + 1) := by
      unfold World.freeze
      rw [if_neg (by decide)]
      dsimp only
      exact ⟨_, rfl, rfl⟩
    rw [hw']; exact e
  have hget : w'.heap[g]? = some (.cells cur E (cur.size, cur.size + 1)) := by
    rw [hheap, Array.getElem?_modify, if_pos rfl, hg, Option.map_some, hf]
  have hoth : ∀ b, b ≠ g → w'.heap[b]? = w.heap[b]? := fun b hb => by rw [hheap, Array.getElem?_modify, if_neg (fun e => hb e.symm)]
  have hos : w'.os = w.os ∧ w'.tape = w.tape ∧ w'.output = w.output := by
    rw [hw']; unfold World.freeze; rw [if_neg (by decide)]; exact ⟨rfl, rfl, rfl⟩
  have hsz' : w'.heap.size = w.heap.size := by rw [hheap, Array.size_modify]
  have hrun : (convert t t (.slice (some ⟨g, 0, none⟩) zs.length cap)).run X.P w = .ok (.slice (some ⟨g, 0, none⟩) zs.length cap) w' := by
    have hsh : w.shape? g = some (E, cur.size) := by unfold World.shape?; rw [hg]
    simp [convert, run_underlying hu, run_underlying he, markStringish, hsh, hw']
  have hrel1 : Rel w O1 w' (fun b => min (O1 b) 1) := ⟨hos.1, hos.2.1, hos.2.2, by omega, fun b _ hlt => hoth b fun e => by subst e; omega, fun b _ => Nat.min_le_left _ _, fun b hb => by
    rw [hsz']
    exact hdom b (by have := s.l b; have hb' : min (O1 b) 1 ≠ 0 := hb; omega)⟩
  have hsl : (Sl eByte (.slice (some ⟨g, 0, none⟩) zs.length cap) zs).h w' (fun b => min (O1 b) 1) := by
    have hrows : cs = zs.map fun b => Value.int .u8 (b.toNat : Int) := by have := g3; rw [eByte_rows] at this; exact this
    refine ⟨some ⟨g, 0, none⟩, cap, rfl, hnc, hcm, .inr ⟨g, 0, cs, rfl, ?_, ?_, fun i u hi => ?_⟩⟩
    · show 1 ≤ min (O1 g) 1; omega
    · rw [eByte_rows]; exact hrows
    · have hil := cell_in hi
      rw [← htake, List.getElem?_take] at hi
      split at hi
      · rw [blk_cell hget]; simpa using hi
      · cases hi
  obtain ⟨P, hP, hrel⟩ := step_at hdom s hs2 hrel1 (L' := [Sl eByte (.slice (some ⟨g, 0, none⟩) zs.length cap) zs]) ⟨fun b => min (O1 b) 1, fun _ => 0, ⟨fun _ => Nat.le_refl _, fun _ => Nat.zero_le _, fun _ _ => rfl, fun _ h => by omega⟩, hsl, trivial⟩
  refine ⟨(), w', P, ?_, trivial, hP, hrel⟩
  simp [execOp, ha.eval hx, hrun]
end
section
variable {X : Cx} {ops : Array Oper} {kk : List Item} {env : Env} {L S : List A} {fuel : Nat} {listed : Array Bool}
end
end Go.SL
/- Chapter 16: alive. -/
namespace Go.Proofs.YtlfehnnmpkohkaaGreatDoor
open Go Go.SL Go.Lib
theorem own_sl {α : Type} {e : Enc α} {T : TypeId} {v : Value} {xs : List α} : Ent [Own e T v xs] [Sl e v xs] := fun w O hs => by
  obtain ⟨O1, O2, s, h1, _⟩ := hs
  exact ⟨O1, fun _ => 0, ⟨fun b => s.l b, fun _ => Nat.zero_le _, fun _ _ => rfl, fun _ h => absurd h (by simp)⟩, Own.sl h1, trivial⟩
theorem i64_0 : I64 0 := ⟨by decide, by decide⟩
theorem cntQ (k : Int) (h : I64 k) : CountQ (zeroQ k) := ⟨h, i64_0, i64_0, ⟨Nat.zero_le _, fun _ h => by cases h⟩, Nat.zero_le _, Nat.zero_le _, fun _ h => by cases h⟩
theorem cntA : CountS sA := ⟨⟨by decide, by decide⟩, ⟨by decide, by decide⟩, ⟨by decide, fun _ h => by cases h⟩, ⟨by decide, fun n hn => by rw [List.mem_singleton.1 hn]; exact ⟨by decide, by decide⟩⟩, by decide, by decide, fun n hn => by
  rw [List.mem_singleton.1 hn]
  exact ⟨⟨by decide, by decide⟩, by decide⟩⟩
theorem sizeA : SizeS sA := ⟨⟨by decide, fun _ h => by cases h⟩, by decide, by decide, by decide, fun n hn => by rw [List.mem_singleton.1 hn]; decide⟩
theorem fineA : FineQ (0, 0, 0, ⟨#[]⟩, ⟨#[]⟩, [], [], [pA6]) := ⟨by decide, by decide, by decide, ⟨by decide, fun _ h => by cases h⟩, by decide, fun p hp => by
  rw [List.mem_singleton.1 hp]
  exact ⟨by decide, by decide, ⟨by decide, fun _ h => by cases h⟩, by decide, fun _ h => by cases h⟩⟩
theorem fine0 (k : Int) : FineQ (zeroQ k) := ⟨Nat.zero_le _, Nat.zero_le _, Nat.zero_le _, ⟨Nat.zero_le _, fun _ h => by cases h⟩, Nat.zero_le _, fun _ h => by cases h⟩
attribute [local irreducible] Cfg Kont StepK Val Con Qops Any Sl Own Blk BlkR Rd Pu ExA AllA Has Pick Ent Elem Beside Callable TI Lone OwnO AndA
set_option maxHeartbeats 2000000 in
set_option maxRecDepth 100000 in
theorem alive_con (te : TypeId) (pe : Value) : Con Tryz.prog 11 [] [G1 te pe, G3] (γ := Unit) (fun _ => .bool true) (fun _ => True) (fun _ => []) := by
  have c1 := pack_con (zeroQ 7) (.slice none 0 0) (.slice none 0 0) (.slice none 0 0) (cntQ 7 ⟨by decide, by decide⟩) (by rw [alive_l]; decide)
  have c2 := fun v => unpack_con v (reqB (zeroQ 7)) (by rw [alive_l]; decide) te pe
  have q2 : unpackQ (reqB (zeroQ 7)) = zeroQ 7 := by unfold unpackQ unpackP; rw [if_neg (by rw [alive_l]; decide), alive_p]; rfl
  have e2 : unpackE (reqB (zeroQ 7)) = .int .i64 0 := by unfold unpackE; rw [if_neg (by rw [alive_l]; decide), alive_p]; rfl
  rw [q2, e2] at c2
  have c3 := fun v => unpack_con v [120] (by decide) te pe
  have q3 : unpackQ [120] = zeroQ 0 := by unfold unpackQ unpackP; rw [if_neg (by decide), alive_x]; rfl
  have e3 : unpackE [120] = .int .i64 160 := by unfold unpackE; rw [if_neg (by decide), alive_x]; rfl
  rw [q3, e3] at c3
  have hz : (List.replicate 3001 (0 : UInt8)).length = 3001 := List.length_replicate
  have c4 := fun v => unpack_con v (List.replicate 3001 0) (by rw [hz]; decide) te pe
  have q4 : unpackQ (List.replicate 3001 0) = zeroQ 0 := by unfold unpackQ unpackP; rw [if_pos (by rw [hz]; decide)]; rfl
  have e4 : unpackE (List.replicate 3001 0) = .int .i64 161 := by unfold unpackE; rw [if_pos (by rw [hz]; decide)]
  rw [q4, e4] at c4
  have c5 := fun i n => packRes_con sA (.slice none 0 0) i (.slice none 0 0) n cntA (by rw [alive_rl]; decide)
  have c6 := fun v => unpackRes_con v (resB sA) (by rw [alive_rl]; decide) te pe
  have q6 : resQ (resB sA) = sA := by unfold resQ; rw [alive_r]; rfl
  have e6 : errV 160 (resP (resB sA)).isSome = .int .i64 0 := by rw [alive_r]; rfl
  rw [q6, e6] at c6
  have c7 := fun l i t n i' n' => sameRes_con sA sA l i t n (.slice none 0 0) i' (.slice none 0 0) n' sizeA sizeA
  have c8 := fun l => reqRight_con (0, 0, 0, ⟨#[]⟩, ⟨#[]⟩, [], [], [pA6]) (.slice none 0 0) (.slice none 0 0) l fineA
  have c9 := reqRight_con (zeroQ 0) (.slice none 0 0) (.slice none 0 0) (.slice none 0 0) (fine0 0)
  have cA := fun d f l => sameReq_con (zeroQ 7) (zeroQ 7) d f l (.slice none 0 0) (.slice none 0 0) (.slice none 0 0) (zeroQ_size 7) (zeroQ_size 7)
  rw [decide_eq_true rightA] at c8
  rw [decide_eq_false right0] at c9
  have hb := alive_b
  generalize reqB (zeroQ 7) = bq at c1 c2 hb
  generalize resB sA = br at c5 c6
  unfold sA aA at c5 c6 c7
  unfold pA6 aA at c8
  dsimp only [rqC, rsC] at c1 c2 c3 c4 c5 c6 c7 c8 c9 cA
  refine con_of Tryz.func11 rfl (dd rfl) fun w0 O0 => ?_
  refine c_seq (c_region ?_)
  refine oV vA ?_
  refine o_nil (c_seq (c_region ?_))
  refine oV (v_buildS (places := [(0, 1), (1, 1), (2, 1), (3, 1), (4, 1), (5, 1), (6, 1), (7, 1)]) (cells := [_, .int .i64 0, .int .i64 0, .string ⟨#[]⟩, .string ⟨#[]⟩, .slice none 0 0, .slice none 0 0, .slice none 0 0]) Tryz.underlying32 ti32 (by kernel_rfl) rfl (by repeat (first | exact PartsC.nil | (apply PartsC.one (by first | exact OneC.lit rfl | exact OneC.sl (hX (by repeat constructor)) )) | (apply PartsC.lit rfl))) rfl) ?_
  refine oC cl18 (c1) fun v1 _ => ?_
  refine oV vA ?_
  refine o_nil (c_seq (c_region ?_))
  refine oV vM ?_
  refine o_mk (own_sl (e := eByte) (v := v1)) (pXs (by repeat constructor)) ?_
  refine oC cl20 (c2 v1) fun g2 _ => ?_
  refine oV vM ?_
  refine oV vE ?_
  refine oV vE ?_
  refine o_step (s_alloc ti32 (dd rfl) (fun b2 => ?_))
  refine o_step (s_store_all ti32 rfl rfl (by first | exact CellsV.lit rfl | exact CellsV.one (by first | exact OneC.lit rfl | exact OneC.sl (hX (by repeat constructor)) )) (by repeat (first | exact OneAll.nil | (refine OneAll.cons ?_ ?_; · first | exact OneC.lit rfl | exact OneC.sl (hX (by repeat constructor)) ) | exact OneAll.rd (hX (by repeat constructor)))) rfl (pB (by repeat constructor)) rfl (?_))
  refine oV vA ?_
  refine o_nil (c_seq (c_region ?_))
  refine o_step (s_buildSlice Tryz.underlying38 ti5 rfl rfl rfl (by decide) (by decide) (beside_byte [120]) rfl rfl (dd rfl) fun v3 => ?_)
  refine o_step (s_markBytes Tryz.underlying38 Tryz.underlying5 rfl (pX (by repeat constructor)) (by decide) (dd rfl) ?_)
  refine oC cl20 (c3 v3) fun g3 _ => ?_
  refine oV vM ?_
  refine oV vE ?_
  refine oV vE ?_
  refine o_step (s_alloc ti32 (dd rfl) (fun b4 => ?_))
  refine o_step (s_store_all ti32 rfl rfl (by first | exact CellsV.lit rfl | exact CellsV.one (by first | exact OneC.lit rfl | exact OneC.sl (hX (by repeat constructor)) )) (by repeat (first | exact OneAll.nil | (refine OneAll.cons ?_ ?_; · first | exact OneC.lit rfl | exact OneC.sl (hX (by repeat constructor)) ) | exact OneAll.rd (hX (by repeat constructor)))) rfl (pB (by repeat constructor)) rfl (?_))
  refine oV vA ?_
  refine o_nil (c_seq (c_region ?_))
  refine o_step (s_makeBytes (n := 3001) Tryz.underlying38 ti5 rfl rfl (by decide) (by decide) (dd rfl) fun v4 => ?_)
  refine oC cl20 (c4 v4) fun g4 _ => ?_
  refine oV vM ?_
  refine oV vE ?_
  refine oV vE ?_
  refine o_step (s_alloc ti32 (dd rfl) (fun b6 => ?_))
  refine o_step (s_store_all ti32 rfl rfl (by first | exact CellsV.lit rfl | exact CellsV.one (by first | exact OneC.lit rfl | exact OneC.sl (hX (by repeat constructor)) )) (by repeat (first | exact OneAll.nil | (refine OneAll.cons ?_ ?_; · first | exact OneC.lit rfl | exact OneC.sl (hX (by repeat constructor)) ) | exact OneAll.rd (hX (by repeat constructor)))) rfl (pB (by repeat constructor)) rfl (?_))
  refine oV vA ?_
  refine o_nil (c_seq (c_region ?_))
  refine o_step (s_buildSlice Tryz.underlying22 ti3 rfl rfl rfl (by decide) (by decide) (beside_int .i64 [4]) rfl rfl (dd rfl) fun w1 => ?_)
  refine o_mk (own_sl (e := eInt .i64) (v := w1)) (pXs (by repeat constructor)) ?_
  refine o_step (s_buildSlice Tryz.underlying23 ti9 rfl rfl rfl (by decide) (by decide) (beside_str [⟨#[97]⟩]) rfl rfl (dd rfl) fun w2 => ?_)
  refine oV (v_buildS (places := [(0, 1), (1, 1), (2, 1)]) (cells := [_, _, .bool false]) Tryz.underlying72 ti72 (by kernel_rfl) rfl (by repeat (first | exact PartsC.nil | (apply PartsC.one (by first | exact OneC.lit rfl | exact OneC.sl (hX (by repeat constructor)) )) | (apply PartsC.lit rfl))) rfl) ?_
  refine o_mk (own_sl (e := eStr) (v := w2)) (pXs (by repeat constructor)) ?_
  refine o_step (s_buildSlice Tryz.underlying53 ti72 rfl rfl rfl (by decide) (by decide) (beside_agg1 (beside_of (Lp := [Sl eStr w2 [⟨#[97]⟩]]) (pXs (by repeat constructor)) fun w O => nt_rd w O)) rfl rfl (dd rfl) fun w3 => ?_)
  refine oV (v_buildS (places := [(0, 1), (1, 1), (2, 1), (3, 1), (4, 1), (5, 1)]) (cells := [_, _, .slice none 0 0, _, .slice none 0 0, _]) Tryz.underlying55 ti55 (by kernel_rfl) rfl (by repeat (first | exact PartsC.nil | (apply PartsC.one (by first | exact OneC.lit rfl | exact OneC.sl (hX (by repeat constructor)) )) | (apply PartsC.lit rfl))) rfl) ?_
  refine o_step (s_alloc ti55 (dd rfl) (fun b8 => ?_))
  refine o_step (s_store_all ti55 rfl rfl (by first | exact CellsV.lit rfl | exact CellsV.one (by first | exact OneC.lit rfl | exact OneC.sl (hX (by repeat constructor)) )) (by repeat (first | exact OneAll.nil | (refine OneAll.cons ?_ ?_; · first | exact OneC.lit rfl | exact OneC.sl (hX (by repeat constructor)) ) | exact OneAll.rd (hX (by repeat constructor)))) rfl (pB (by repeat constructor)) rfl (?_))
  refine o_nil (c_seq (c_region ?_))
  refine oV (vW Tryz.underlying55 ti55) ?_
  refine o_mk (own_sl (e := eNt) (v := w3)) (pXs (by repeat constructor)) ?_
  refine oC cl26 (c5 w1 w3) fun u1 _ => ?_
  refine oC cl30 (c6 u1) fun g6 _ => ?_
  refine oV vM ?_
  refine oV vE ?_
  refine oV vE ?_
  refine o_step (s_alloc ti55 (dd rfl) (fun b9 => ?_))
  refine o_step (s_store_all ti55 rfl rfl (by first | exact CellsV.lit rfl | exact CellsV.one (by first | exact OneC.lit rfl | exact OneC.sl (hX (by repeat constructor)) )) (by repeat (first | exact OneAll.nil | (refine OneAll.cons ?_ ?_; · first | exact OneC.lit rfl | exact OneC.sl (hX (by repeat constructor)) ) | exact OneAll.rd (hX (by repeat constructor)))) rfl (pB (by repeat constructor)) rfl (?_))
  refine oV vA ?_
  refine o_nil (c_seq (c_region ?_))
  refine oV vM ?_
  refine oV (v_conv_bytes Tryz.underlying38 Tryz.underlying5 Tryz.underlying9 rfl (hX (by repeat constructor))) ?_
  refine oV (v_seq rfl rfl) ?_
  refine oV vM ?_
  refine o_guard rfl rfl (fun _ => ?_) (fun h_ => absurd ((show _ = true from decide_eq_true hb).symm.trans h_) (by decide))
  refine oV vM ?_
  refine oN ?_
  refine oV (v_eq rfl rfl) ?_
  refine oV vT ?_
  refine oV vM ?_
  refine o_guard rfl rfl (fun _ => ?_) (fun h_ => absurd ((show _ = true from rfl).symm.trans h_) (by decide))
  refine oV (vF 0 Tryz.underlying32 ti3) ?_
  refine oN ?_
  refine oV (vL lone3) ?_
  refine oN ?_
  refine oV (v_eq rfl rfl) ?_
  refine oV vT ?_
  refine oV vM ?_
  refine o_guard rfl rfl (fun _ => ?_) (fun h_ => absurd ((show _ = true from rfl).symm.trans h_) (by decide))
  refine oV vM ?_
  refine oN ?_
  refine oV (v_eq rfl rfl) ?_
  refine oV vT ?_
  refine oV vM ?_
  refine o_guard rfl rfl (fun _ => ?_) (fun h_ => absurd ((show _ = true from rfl).symm.trans h_) (by decide))
  refine oV vM ?_
  refine oN ?_
  refine oV (v_eq rfl rfl) ?_
  refine oV vT ?_
  refine oV vM ?_
  refine o_guard rfl rfl (fun _ => ?_) (fun h_ => absurd ((show _ = true from rfl).symm.trans h_) (by decide))
  refine oV vM ?_
  refine oN ?_
  refine oV (v_eq rfl rfl) ?_
  refine oV vT ?_
  refine oV vM ?_
  refine o_guard rfl rfl (fun _ => ?_) (fun h_ => absurd ((show _ = true from rfl).symm.trans h_) (by decide))
  refine oV (vW Tryz.underlying55 ti55) ?_
  refine oN ?_
  refine oV (vW Tryz.underlying55 ti55) ?_
  refine oN ?_
  refine oC cl34 (c7 g6.1 g6.2.1 g6.2.2.1 g6.2.2.2 w1 w3) fun _ _ => ?_
  refine oV vT ?_
  refine oV vM ?_
  refine o_guard rfl rfl (fun _ => ?_) (fun h_ => absurd ((show _ = true from decide_eq_true rfl).symm.trans h_) (by decide))
  refine oV (v_buildS (places := [(0, 1), (1, 1), (2, 1), (3, 1), (4, 1), (5, 1)]) (cells := [_, _, .string ⟨#[]⟩, .int .i64 0, .slice none 0 0, .slice none 0 0]) Tryz.underlying74 ti74 (by kernel_rfl) rfl (by repeat (first | exact PartsC.nil | (apply PartsC.one (by first | exact OneC.lit rfl | exact OneC.sl (hX (by repeat constructor)) )) | (apply PartsC.lit rfl))) rfl) ?_
  refine oN ?_
  refine o_step (s_buildSlice Tryz.underlying30 ti74 rfl rfl rfl (by decide) (by decide) (beside_agg1 (beside_of (Lp := [Sl eStr (.slice none 0 0) [], Sl eStr (.slice none 0 0) []]) (pXs (by repeat constructor)) fun w O => pr_close (z := (1, ⟨#[97]⟩, ⟨#[]⟩, 0, [], [])) w O)) rfl rfl (dd rfl) fun w4 => ?_)
  refine oN ?_
  refine oV (v_buildS (places := [(0, 1), (1, 1), (2, 1), (3, 1), (4, 1), (5, 1), (6, 1), (7, 1)]) (cells := [_, .int .i64 0, .int .i64 0, .string ⟨#[]⟩, .string ⟨#[]⟩, .slice none 0 0, .slice none 0 0, _]) Tryz.underlying32 ti32 (by kernel_rfl) rfl (by repeat (first | exact PartsC.nil | (apply PartsC.one (by first | exact OneC.lit rfl | exact OneC.sl (hX (by repeat constructor)) )) | (apply PartsC.lit rfl))) rfl) ?_
  refine oN ?_
  refine oC cl12 (c8 w4) fun _ _ => ?_
  refine oV vT ?_
  refine oV vM ?_
  refine o_guard rfl rfl (fun _ => ?_) (fun h_ => absurd ((show _ = true from rfl).symm.trans h_) (by decide))
  refine oV (v_buildS (places := [(0, 1), (1, 1), (2, 1), (3, 1), (4, 1), (5, 1), (6, 1), (7, 1)]) (cells := [_, .int .i64 0, .int .i64 0, .string ⟨#[]⟩, .string ⟨#[]⟩, .slice none 0 0, .slice none 0 0, .slice none 0 0]) Tryz.underlying32 ti32 (by kernel_rfl) rfl (by repeat (first | exact PartsC.nil | (apply PartsC.one (by first | exact OneC.lit rfl | exact OneC.sl (hX (by repeat constructor)) )) | (apply PartsC.lit rfl))) rfl) ?_
  refine oN ?_
  refine oC cl12 (c9) fun _ _ => ?_
  refine oN ?_
  refine oV (v_not rfl) ?_
  refine oV vT ?_
  refine oV vM ?_
  refine o_guard rfl rfl (fun _ => ?_) (fun h_ => absurd ((show _ = true from rfl).symm.trans h_) (by decide))
  refine o_step (s_callf_keep cl17 (writes6_con 6) rfl (dd rfl) (rX (by repeat constructor)) (fun _ => sX) (fun _ _ => ?_))
  refine oV vT ?_
  refine oV vM ?_
  refine o_guard rfl rfl (fun _ => ?_) (fun h_ => absurd ((show _ = true from decide_eq_true (by decide)).symm.trans h_) (by decide))
  refine o_step (s_callf_keep cl17 (writes6_con 7) rfl (dd rfl) (rX (by repeat constructor)) (fun _ => sX) (fun _ _ => ?_))
  refine oN ?_
  refine oV (v_not rfl) ?_
  refine oV vT ?_
  refine oV vM ?_
  refine o_guard rfl rfl (fun _ => ?_) (fun h_ => absurd ((show _ = true from (by rw [decide_eq_false (by decide)]; rfl)).symm.trans h_) (by decide))
  refine oV (vW Tryz.underlying32 ti32) ?_
  refine oN ?_
  refine oV (v_buildS (places := [(0, 1), (1, 1), (2, 1), (3, 1), (4, 1), (5, 1), (6, 1), (7, 1)]) (cells := [_, .int .i64 0, .int .i64 0, .string ⟨#[]⟩, .string ⟨#[]⟩, .slice none 0 0, .slice none 0 0, .slice none 0 0]) Tryz.underlying32 ti32 (by kernel_rfl) rfl (by repeat (first | exact PartsC.nil | (apply PartsC.one (by first | exact OneC.lit rfl | exact OneC.sl (hX (by repeat constructor)) )) | (apply PartsC.lit rfl))) rfl) ?_
  refine oN ?_
  refine oC cl15 (cA g2.1 g2.2.1 g2.2.2) fun _ _ => ?_
  refine oV vT ?_
  refine oV vA ?_
  refine o_nil ?_
  refine c_ret1 Tryz.func11 rfl rfl fun w O hS => ?_
  exact ⟨(), congrArg Value.bool (decide_eq_true rfl), trivial, trivial⟩
end Go.Proofs.YtlfehnnmpkohkaaGreatDoor
/- Chapter 16: ReqUnpacks. -/
namespace Go.Proofs.YtlfehnnmpkohkaaGreatDoor
open Go Go.SL Go.Lib
attribute [local irreducible] Cfg Kont StepK Val Con Qops Any Sl Own Blk BlkR Rd Pu ExA AllA Has Pick Ent Elem Beside Callable TI Lone OwnO AndA
end Go.Proofs.YtlfehnnmpkohkaaGreatDoor
/- Chapter 16: ReqLimits, ReqParses. -/
namespace Go.Proofs.YtlfehnnmpkohkaaGreatDoor
open Go Go.SL Go.Lib
attribute [local irreducible] Cfg Kont StepK Val Con Qops Any Sl Own Blk BlkR Rd Pu ExA AllA Has Pick Ent Elem Beside Callable TI Lone OwnO AndA
end Go.Proofs.YtlfehnnmpkohkaaGreatDoor
/- Chapter 16: ReqRight, ReqPacks. -/
namespace Go.Proofs.YtlfehnnmpkohkaaGreatDoor
open Go Go.SL Go.Lib
attribute [local irreducible] Cfg Kont StepK Val Con Qops Any Sl Own Blk BlkR Rd Pu ExA AllA Has Pick Ent Elem Beside Callable TI Lone OwnO AndA
set_option maxHeartbeats 2000000 in
set_option maxRecDepth 100000 in
theorem lawRight_con (x y : Rq9) (d f l d' f' l' : Value) (hs : manyQ x + manyQ y ≤ 1000000000) (te : TypeId) (pe : Value) : Con Tryz.prog 3 [.agg (rqC x d f l).toArray, .agg (rqC y d' f' l').toArray] (rqL x d f l ++ rqL y d' f' l' ++ [G1 te pe, G3]) (γ := Unit) (fun _ => .bool true) (fun _ => True) (fun _ => []) := by
  have hal := alive_con te pe
  have m1 := manyQ_con x d f l (by omega)
  have m2 := manyQ_con y d' f' l' (by omega)
  dsimp only [rqC, rqL, List.cons_append, List.nil_append] at m1 m2 ⊢
  refine con_of Tryz.func3 rfl (dd rfl) fun w0 O0 => ?_
  refine c_seq (c_region ?_)
  refine o_step (s_box rfl (dd rfl) (fun b2 => ?_))
  refine o_step (s_box rfl (dd rfl) (fun b3 => ?_))
  refine oV vA ?_
  refine o_nil (c_seq (c_seq (c_region ?_)))
  refine oV (vW Tryz.underlying26 ti26) ?_
  refine o_step (s_callf_keep cl10 (m1) rfl (dd rfl) (rX (by repeat constructor)) (fun _ => sX) (fun _ _ => ?_))
  refine oV (v_gt rfl rfl) ?_
  refine oV vM ?_
  refine o_guard_f rfl rfl (fun g1 => ?_) (fun g1 => ?_)
  · refine oV (vW Tryz.underlying26 ti26) ?_
    refine oN ?_
    refine o_step (s_callf_keep cl10 (m2) rfl (dd rfl) (rX (by repeat constructor)) (fun _ => sX) (fun _ _ => ?_))
    refine oN ?_
    refine oV (v_gt rfl rfl) ?_
    refine oV vQ ?_
    refine o_nil ?_
    refine c_cond_p rfl (fun h2 => ?_) (fun h2 => ?_)
    · refine c_seq (c_region ?_)
      refine oC cl11 (hal) fun _ _ => ?_
      refine oV vA ?_
      refine o_nil ?_
      refine c_ret1 Tryz.func3 rfl rfl fun w O hS => ?_
      exact ⟨(), rfl, trivial, trivial⟩
    · obtain ⟨fx, -⟩ := many_fine (q := x) (by omega)
      obtain ⟨fy, -⟩ := many_fine (q := y) (by omega)
      have n1 := newQ_con x d f l fx.prims.1
      have n2 := newQ_con y d' f' l' fy.prims.1
      have r1 := fun r => reqRight_con x d f r fx
      have r2 := reqRightR_con x d f l fx
      have s1 := fun r r' => sameReq_con x y d f r d' f' r' fx.size fy.size
      have s2 := sameReqR_con x y d f l d' f' l' fx.size fy.size
      dsimp only [rqC] at n1 n2
      refine c_skip (c_seq ?_)
      refine c_held [BlkR b2 26 [.int .i64 x.1, .int .i64 x.2.1, .int .i64 x.2.2.1, .string x.2.2.2.1, .string x.2.2.2.2.1, d, f, l], BlkR b3 26 [.int .i64 y.1, .int .i64 y.2.1, .int .i64 y.2.2.1, .string y.2.2.2.1, .string y.2.2.2.2.1, d', f', l']] rfl ?_
      refine aO 0 rfl (s_callf_keep cl11 (hal) rfl (dd rfl) (rX (by repeat constructor)) (fun _ => sX) (fun _ _ => aK ?_))
      refine aT 1 rfl vM ?_
      refine a_know (s := 15) rfl (show _ = Value.bool true from rfl) ?_
      refine aN 2 rfl (vW Tryz.underlying26 ti26) ?_
      refine aN 5 rfl (vW Tryz.underlying26 ti26) ?_
      refine aP 3 rfl (s_callf cl13 (n1) rfl (dd rfl) (pXs (by repeat constructor)) (fun ra _ => aK ?_))
      refine aP 4 rfl (s_callf cl12 (r1 ra) rfl (dd rfl) (pXs (by repeat constructor)) (fun _ _ => aK ?_))
      refine aP 6 rfl (s_callf cl14 (r2) rfl (dd rfl) (pXs (by repeat constructor)) (fun _ _ => aK ?_))
      refine aN 7 rfl (v_beq Tryz.underlying4 rfl rfl) ?_
      refine aT 8 rfl vT ?_
      refine aT 9 rfl vM ?_
      refine a_know (s := 23) rfl (show _ = Value.bool true from (congrArg Value.bool (decide_eq_true rfl))) ?_
      refine aN 10 rfl (vW Tryz.underlying26 ti26) ?_
      refine aN 12 rfl (vW Tryz.underlying26 ti26) ?_
      refine aN 15 rfl (vW Tryz.underlying26 ti26) ?_
      refine aN 16 rfl (vW Tryz.underlying26 ti26) ?_
      refine aP 11 rfl (s_callf cl13 (n1) rfl (dd rfl) (pXs (by repeat constructor)) (fun rb _ => aK ?_))
      refine aP 13 rfl (s_callf cl13 (n2) rfl (dd rfl) (pXs (by repeat constructor)) (fun rc _ => aK ?_))
      refine aP 14 rfl (s_callf cl15 (s1 rb rc) rfl (dd rfl) (pXs (by repeat constructor)) (fun _ _ => aK ?_))
      refine aP 17 rfl (s_callf cl16 (s2) rfl (dd rfl) (pXs (by repeat constructor)) (fun _ _ => aK ?_))
      refine aN 18 rfl (v_beq Tryz.underlying4 rfl rfl) ?_
      refine aT 19 rfl vT ?_
      refine aT 20 rfl vM ?_
      refine a_know (s := 34) rfl (show _ = Value.bool true from (congrArg Value.bool (decide_eq_true rfl))) ?_
      refine aN 21 rfl (vF 0 Tryz.underlying26 ti3) ?_
      refine aN 22 rfl (vL lone3) ?_
      refine aN 24 rfl (vF 0 Tryz.underlying26 ti3) ?_
      refine aN 25 rfl (vL lone3) ?_
      refine aN 26 rfl (v_ge rfl rfl) ?_
      refine aP 23 rfl (s_callf_keep cl17 (writes6_con x.1) rfl (dd rfl) (rX (by repeat constructor)) (fun _ => sX) (fun _ _ => aK ?_))
      refine aN 27 rfl vM ?_
      by_cases hk : 0 ≤ x.1
      · skip
        refine a_know (s := 41) rfl (show _ = Value.bool true from (congrArg Value.bool (decide_eq_true hk))) ?_
        refine aN 28 rfl (vF 0 Tryz.underlying26 ti3) ?_
        refine aN 29 rfl (vL lone3) ?_
        refine aN 30 rfl (v_le rfl rfl) ?_
        refine aN 31 rfl vT ?_
        refine aN 32 rfl (v_beq Tryz.underlying4 rfl rfl) ?_
        refine aT 33 rfl vT ?_
        refine aT 34 rfl vA ?_
        refine a_done (by kernel_rfl) ?_ _
        refine c_ret1 Tryz.func3 rfl rfl fun w O hS => ?_
        exact ⟨(), congrArg Value.bool (decide_eq_true (decide_eq_decide.2 ⟨fun h => h.2, fun h => ⟨hk, h⟩⟩)), trivial, trivial⟩
      · skip
        refine a_know (s := 41) rfl (show _ = Value.bool false from (congrArg Value.bool (decide_eq_false hk))) ?_
        refine aX 28 rfl ?_
        refine aX 29 rfl ?_
        refine aX 30 rfl ?_
        refine aN 31 rfl vQ ?_
        refine aN 32 rfl (v_beq Tryz.underlying4 rfl rfl) ?_
        refine aT 33 rfl vT ?_
        refine aT 34 rfl vA ?_
        refine a_done (by kernel_rfl) ?_ _
        refine c_ret1 Tryz.func3 rfl rfl fun w O hS => ?_
        exact ⟨(), congrArg Value.bool (decide_eq_true (decide_eq_false fun h => hk h.1)), trivial, trivial⟩
  · refine oX ?_
    iterate 2 refine oX ?_
    refine oV vT ?_
    refine o_nil ?_
    refine c_cond_t rfl ?_
    refine c_seq (c_region ?_)
    refine oC cl11 (hal) fun _ _ => ?_
    refine oV vA ?_
    refine o_nil ?_
    refine c_ret1 Tryz.func3 rfl rfl fun w O hS => ?_
    exact ⟨(), rfl, trivial, trivial⟩
set_option maxHeartbeats 2000000 in
set_option maxRecDepth 100000 in
theorem lawPacks_con (q : Rq9) (d f l : Value) (hs : manyQ q ≤ 1000000000) (hi : IntsQ q) (te : TypeId) (pe : Value) : Con Tryz.prog 4 [.agg (rqC q d f l).toArray] (rqL q d f l ++ [G1 te pe, G3]) (γ := Unit) (fun _ => .bool true) (fun _ => True) (fun _ => []) := by
  have hal := alive_con te pe
  have m1 := manyQ_con q d f l hs
  dsimp only [rqC, rqL, List.cons_append, List.nil_append] at m1 ⊢
  refine con_of Tryz.func4 rfl (dd rfl) fun w0 O0 => ?_
  refine c_seq (c_region ?_)
  refine o_step (s_box rfl (dd rfl) (fun b1 => ?_))
  refine oV vA ?_
  refine o_nil (c_seq (c_seq (c_region ?_)))
  refine oV (vW Tryz.underlying26 ti26) ?_
  refine o_step (s_callf_keep cl10 (m1) rfl (dd rfl) (rX (by repeat constructor)) (fun _ => sX) (fun _ _ => ?_))
  refine oV (v_gt rfl rfl) ?_
  refine o_nil ?_
  refine c_cond_p rfl (fun h2 => ?_) (fun h2 => ?_)
  · refine c_seq (c_region ?_)
    refine oC cl11 (hal) fun _ _ => ?_
    refine oV vA ?_
    refine o_nil ?_
    refine c_ret1 Tryz.func4 rfl rfl fun w O hS => ?_
    exact ⟨(), rfl, trivial, trivial⟩
  · have hm : manyQ q ≤ 4000 := by omega
    obtain ⟨fx, ft⟩ := many_fine hm
    have hc := many_count hm hi
    have h9 := many_len9 hm
    have n1 := newQ_con q d f l fx.prims.1
    have p1 := fun r => pack_con q d f r hc (by omega)
    have p2 := packRef_con q d f l ft
    have r2 := reqRightR_con q d f l fx
    have s2 := fun d' f' l' => sameReqR_con q q d' f' l' d f l fx.size fx.size
    have o1 := fun d f l => oldQ_con q d f l fx.prims.1
    have u1 := fun v => unpack_con v (reqB q) (by unfold big9; omega) te pe
    have hpe := fun (h : RightQ q) => parse_enc h (by unfold big9; omega)
    have hU : RightQ q → ¬ 3000 < (reqB q).length → unpackQ (reqB q) = q ∧ unpackE (reqB q) = .int .i64 0 := fun h h3 => by
      unfold unpackQ unpackP unpackE
      rw [if_neg h3, if_neg h3, hpe h]
      exact ⟨rfl, rfl⟩
    have hz := sB_size (reqB q)
    generalize reqB q = bq at p1 p2 u1 hU h9 hz
    dsimp only [rqC] at n1 p1 p2 o1
    refine c_skip (c_seq (c_region ?_))
    refine oV (vW Tryz.underlying26 ti26) ?_
    refine oC cl13 (n1) fun ra _ => ?_
    refine oC cl18 (p1 ra) fun v1 _ => ?_
    refine oV vA ?_
    refine o_nil (c_seq (c_seq ?_))
    refine c_mk (own_sl (e := eByte) (v := v1)) (pXs (by repeat constructor)) ?_
    refine c_held [Sl eByte v1 bq, BlkR b1 26 [.int .i64 q.1, .int .i64 q.2.1, .int .i64 q.2.2.1, .string q.2.2.2.1, .string q.2.2.2.2.1, d, f, l]] rfl ?_
    refine aT 0 rfl vM ?_
    refine aT 2 rfl (vW Tryz.underlying26 ti26) ?_
    refine aT 1 rfl (v_conv_bytes Tryz.underlying38 Tryz.underlying5 Tryz.underlying9 rfl (hX (by repeat constructor))) ?_
    refine aO 3 rfl (s_callf_keep cl19 (p2) rfl (dd rfl) (rX (by repeat constructor)) (fun _ => sX) (fun _ _ => aK ?_))
    refine aT 4 rfl (v_sne rfl rfl) ?_
    refine a_done (by kernel_rfl) ?_ _
    refine c_cond_p rfl (fun hne => ?_) (fun hne => ?_)
    · skip
      exact absurd rfl hne
    · skip
      refine c_skip (c_seq (c_seq (c_region ?_)))
      refine oV (vW Tryz.underlying26 ti26) ?_
      by_cases hr : RightQ q
      · rw [decide_eq_true hr] at r2
        refine o_step (s_callf_keep cl14 (r2) rfl (dd rfl) (rX (by repeat constructor)) (fun _ => sX) (fun _ _ => ?_))
        refine oV (v_not rfl) ?_
        refine oV vM ?_
        refine o_guard rfl rfl (fun _ => ?_) (fun h_ => absurd ((show _ = false from rfl).symm.trans h_) (by decide))
        refine oV vM ?_
        refine oN ?_
        refine oV ((by first | exact v_len_form Tryz.underlying38 rfl | exact v_len_sl Tryz.underlying38 rfl (hX (by repeat constructor)))) ?_
        refine oN ?_
        refine oV (v_gt rfl rfl) ?_
        refine oV vQ ?_
        refine o_nil ?_
        refine c_cond_p rfl (fun h3 => ?_) (fun h3 => ?_)
        · refine c_seq (c_region ?_)
          refine oC cl11 (hal) fun _ _ => ?_
          refine oV vA ?_
          refine o_nil ?_
          refine c_ret1 Tryz.func4 rfl rfl fun w O hS => ?_
          exact ⟨(), rfl, trivial, trivial⟩
        · obtain ⟨uq, ue⟩ := hU hr (by omega)
          rw [uq, ue] at u1
          dsimp only [rqC] at u1
          refine c_skip (c_seq (c_region ?_))
          refine oV vM ?_
          refine oC cl20 (u1 v1) fun g _ => ?_
          refine oV vM ?_
          refine oV vE ?_
          refine oV vE ?_
          refine o_step (s_alloc ti32 (dd rfl) (fun b4 => ?_))
          refine o_step (s_store_all ti32 rfl rfl (by first | exact CellsV.lit rfl | exact CellsV.one (by first | exact OneC.lit rfl | exact OneC.sl (hX (by repeat constructor)) )) (by repeat (first | exact OneAll.nil | (refine OneAll.cons ?_ ?_; · first | exact OneC.lit rfl | exact OneC.sl (hX (by repeat constructor)) ) | exact OneAll.rd (hX (by repeat constructor)))) rfl (pB (by repeat constructor)) rfl (?_))
          refine oV vA ?_
          refine o_nil (c_seq ?_)
          refine c_held [BlkR b1 26 [.int .i64 q.1, .int .i64 q.2.1, .int .i64 q.2.2.1, .string q.2.2.2.1, .string q.2.2.2.2.1, d, f, l], BlkR b4 32 [.int .i64 q.1, .int .i64 q.2.1, .int .i64 q.2.2.1, .string q.2.2.2.1, .string q.2.2.2.2.1, g.1, g.2.1, g.2.2]] rfl ?_
          refine aO 0 rfl (s_callf_keep cl11 (hal) rfl (dd rfl) (rX (by repeat constructor)) (fun _ => sX) (fun _ _ => aK ?_))
          refine aT 1 rfl vM ?_
          refine a_know (s := 33) rfl (show _ = Value.bool true from rfl) ?_
          refine aN 2 rfl vM ?_
          refine aN 3 rfl (v_eq rfl rfl) ?_
          refine aT 4 rfl vT ?_
          refine aT 5 rfl vM ?_
          refine a_know (s := 37) rfl (show _ = Value.bool true from (congrArg Value.bool (decide_eq_true rfl))) ?_
          refine aN 6 rfl (vW Tryz.underlying32 ti32) ?_
          refine aN 8 rfl (vW Tryz.underlying26 ti26) ?_
          refine aP 7 rfl (s_callf cl21 (o1 g.1 g.2.1 g.2.2) rfl (dd rfl) (pXs (by repeat constructor)) (fun r8 _ => aK ?_))
          refine aP 9 rfl (s_callf cl16 (s2 g.1 g.2.1 r8) rfl (dd rfl) (pXs (by repeat constructor)) (fun _ _ => aK ?_))
          refine aT 10 rfl vT ?_
          refine aT 11 rfl vA ?_
          refine a_done (by kernel_rfl) ?_ _
          refine c_ret1 Tryz.func4 rfl rfl fun w O hS => ?_
          exact ⟨(), congrArg Value.bool (decide_eq_true rfl), trivial, trivial⟩
      · rw [decide_eq_false hr] at r2
        refine o_step (s_callf_keep cl14 (r2) rfl (dd rfl) (rX (by repeat constructor)) (fun _ => sX) (fun _ _ => ?_))
        refine oV (v_not rfl) ?_
        refine oV vM ?_
        iterate 3 refine oX ?_
        refine oV vT ?_
        refine o_nil ?_
        refine c_cond_t rfl ?_
        refine c_seq (c_region ?_)
        refine oC cl11 (hal) fun _ _ => ?_
        refine oV vA ?_
        refine o_nil ?_
        refine c_ret1 Tryz.func4 rfl rfl fun w O hS => ?_
        exact ⟨(), rfl, trivial, trivial⟩
end Go.Proofs.YtlfehnnmpkohkaaGreatDoor
/- What the rows of chapter 16 want: the start, the openers of the arguments' types. -/
namespace Go.Proofs.YtlfehnnmpkohkaaGreatDoor
open Go Go.SL Go.RowKit Go.ChangeShapes Go.WideShapes Go.ChangeAt Go.Lib

abbrev laidL : List (String × DataW Unit) := [("math/bits.deBruijn32tab", Rows.laid_math_bits_deBruijn32tab), ("math/bits.deBruijn64tab", Rows.laid_math_bits_deBruijn64tab), ("internal/strconv.uint64pow10", Rows.laid_internal_strconv_uint64pow10), ("unicode/utf8.acceptRanges", Rows.laid_unicode_utf8_acceptRanges), ("strconv.ErrRange", Rows.laid_strconv_ErrRange), ("strconv.ErrSyntax", Rows.laid_strconv_ErrSyntax), ("unicode/utf8.first", Rows.laid_unicode_utf8_first)]
theorem own : ownKnob Tryz.prog.godebug = none := by kernel_rfl
theorem laidOut : laidOutB Tryz.prog = true := by kernel_rfl
theorem start_met (os : Os) (args : Array Value) : laidMetH Tryz.prog laidL ((World.laidAll Tryz.prog os laidL).forCall (fun _ _ => 0) ⟨#[], args, []⟩).memory := by
  rw [MakeChecks.laidMetH_plain _ _ _ (by kernel_rfl)]; exact laidMet_laidAll _ (by kernel_rfl) (by kernel_rfl)
theorem star : "*" ++ "errors.errorString" = "*errors.errorString" := by decide
theorem errRow (u : TypeId) (h : Tryz.prog.typeName? 3 u = some "*errors.errorString") : u = 227 :=
  typeName_ptr_named (nm := "errors.errorString") (by rw [star]; kernel_rfl) (by kernel_rfl) (by decide) u (by rw [star]; exact h)
theorem glob_at {W : World} (h : W.ShapedOpen Tryz.prog) {g : Nat} {t : TypeId} {cs : Array Value} {name : String} (hg : g < Tryz.prog.globals.size) (h0 : (((begin Tryz.prog (fun _ _ => 0) default).world.heap[g]?).bind Obj.row?).map (·.2) = some t) (hn : Tryz.prog.globalNamed name = some g) (hv : W.var? Tryz.prog name = some cs) : (BlkR g t cs.toList).h W (readAll W) := by
  obtain ⟨⟨zero, t'⟩, h0', e0⟩ := Option.map_eq_some_iff.1 h0
  obtain rfl : t' = t := e0
  obtain ⟨ds, hh, _, _⟩ := h.1 g zero t' hg h0'
  have h1 : g < W.heap.size := by
    rcases Nat.lt_or_ge g W.heap.size with h | h
    · exact h
    · rw [Array.getElem?_eq_none h] at hh; cases hh
  unfold World.var? at hv
  rw [hn, Option.bind_some, hh] at hv
  have e : ds = cs := by simpa using hv
  subst e
  exact ⟨readAll_lt h1, (0, 0), by rw [hh]⟩
theorem g13 {W : World} (hs : W.ShapedOpen Tryz.prog) (hl : laidMetH Tryz.prog laidL W) : ∃ te pe, (G1 te pe).h W (readAll W) ∧ G3.h W (readAll W) := by
  rw [MakeChecks.laidMetH_plain _ _ _ (by kernel_rfl)] at hl
  have h3 : laidMet Tryz.prog (("internal/strconv.uint64pow10", tabData .u64 pow10Tab) :: _) W := hl.tail.tail
  have h1 : TabIs Tryz.prog W "internal/strconv.uint64pow10" .u64 pow10Tab := tabIs_of_head (g := 1) (t := 208) (e := 184) (n := 20) (by kernel_rfl) (by kernel_rfl) Tryz.underlying208 Tryz.underlying184 (by kernel_rfl) (by kernel_rfl) h3
  obtain ⟨a0, s0, hv0, -, -, -⟩ := laid_sentinel hl.tail.tail.tail.tail.tail (g := 2) (ti := 165) (tp := 227) (te := 229) (ts := 9) (by kernel_rfl) (by kernel_rfl) Tryz.underlying165 errRow Tryz.underlying227 Tryz.underlying229 rfl rfl Tryz.underlying9 (by kernel_rfl) (by kernel_rfl)
  exact ⟨_, _, glob_at (cs := #[.iface 227 (.pointer (some a0))]) hs (of_decide_eq_true (by kernel_rfl)) (by kernel_rfl) (by kernel_rfl) hv0, glob_at (cs := (pow10Tab.map fun z => Value.int .u64 z).toArray) hs (of_decide_eq_true (by kernel_rfl)) (by kernel_rfl) (by kernel_rfl) h1⟩
theorem op3 : Opens Tryz.prog 3 (eInt .i64) (fun n => -9223372036854775808 ≤ n ∧ n ≤ 9223372036854775807) := opens_good (opens_int Tryz.underlying3) fun n h => by
  have := h
  simp [Lit.wf, IntKind.has, IntKind.min, IntKind.max, IntKind.signed, IntKind.bits] at this
  omega
end Go.Proofs.YtlfehnnmpkohkaaGreatDoor
/- Chapter 16: requests and responses as arguments: what is read holds no more than the argument; the row of a law whose arguments are of bounded bulk. -/
namespace Go.Proofs.YtlfehnnmpkohkaaGreatDoor
open Go Go.SL Go.RowKit Go.ChangeShapes Go.WideShapes Go.ChangeAt Go.Lib
theorem bulk_part {H : Type} : ∀ {l : List (DataW H)} {d : DataW H}, d ∈ l → Rows.uptoBulk d ≤ Rows.uptoBulkAll l
  | x :: r, d, h => by
    simp only [Rows.uptoBulkAll]
    cases List.mem_cons.1 h with
    | inl e => subst e; omega
    | inr e => have := bulk_part e; omega
/-- What is read of an element holds no more than it. -/
def BulkOf {α : Type} (P : Program) (t : TypeId) (e : Enc α) (m : α → Nat) : Prop :=
  ∀ (H : Type) (enc : TypeId × Value → H) (W : World) (O : Perm) (fuel : Nat) (cs : List Value) (x : DataW H × List MemPlace) (z : α), DataW.trod enc P W 0 (fun _ => true) true fuel t cs = some x → e.rd W O cs z → m z ≤ Rows.uptoBulk x.1
theorem bulk_str {P : Program} {t : TypeId} (ht : P.underlying t = some .string) : BulkOf P t eStr (fun s => s.size + 1) := by
  intro H enc W O fuel cs x z h hz
  obtain ⟨s, rfl, rfl, _⟩ := DataW.trod_string ht h
  have e : s = z := by
    have : [Value.string s] = [.string z] := hz
    injection this with h1 _
    injection h1
  subst e
  simp only [Rows.uptoBulk]
  rw [ba_len]; exact Nat.le_refl _
theorem bulk_int {P : Program} {t : TypeId} {K : IntKind} (ht : P.underlying t = some (.int K)) : BulkOf P t (eInt K) (fun _ => 1) := by
  intro H enc W O fuel cs x z h hz
  obtain ⟨n, rfl, rfl, hn⟩ := DataW.trod_int ht h
  simp [Rows.uptoBulk]
def mL {α : Type} (m : α → Nat) (l : List α) : Nat := (l.map m).sum + 1
theorem bulk_slice {α : Type} {P : Program} {t u : TypeId} {e : Enc α} {m : α → Nat} (ht : P.underlying t = some (.slice u)) (hc : P.cellsOf u = e.n) (hn : 0 < e.n) (h : BulkOf P u e m) : BulkOf P t (eSl e) (mL m) := by
  intro H enc W O fuel cs x zs hx hz
  obtain ⟨v, rfl, a', cap', hv, hle, hmx, hcells⟩ := hz
  rcases DataW.trod_slice ht hx with ⟨h1, rfl⟩ | ⟨a, len, cap, elems, rest, n, _, h1, rfl, _, hl, hm, hlen, hel, hsp, _⟩
  · cases h1
    have : zs.length = 0 := by
      injection hv with _ h2 _
      exact h2.symm
    rw [List.length_eq_zero_iff.1 this]
    simp [mL, Rows.uptoBulk]
  · have h2 : v = .slice (some a) len cap := by injection h1
    rw [h2] at hv
    injection hv with ha hlen' hcap'
    subst ha; subst hcap'
    have hsum : ∀ k, k ≤ len → ((zs.take k).map m).sum ≤ Rows.uptoBulkAll ((elems.take k).map (·.1)) := by
      intro k
      induction k with
      | zero => intro _; simp [Rows.uptoBulkAll]
      | succ k ih =>
        intro hk
        have hk1 : k < zs.length := by omega
        have hk2 : k < elems.length := by omega
        have hI := ih (by omega)
        rcases hcells with ⟨_, hz0⟩ | ⟨b, off, cs, hab, _, hr, hcl⟩
        · rw [hz0] at hk1; cases hk1
        · have hel' := hel k (by omega)
          rw [List.getElem?_eq_getElem hk2, Option.bind_eq_some_iff] at hel'
          obtain ⟨c0, hc0, hy0⟩ := hel'
          obtain ⟨_, hl0, hcell⟩ := World.cells?_some hc0
          obtain ⟨c, hrd, hget⟩ := hr.get (i := k) (List.getElem?_eq_getElem hk1)
          have hcl' := e.len hrd
          have haa : a = ⟨b, off, none⟩ := Option.some.inj hab
          have hcc : c = c0 := by
            apply List.ext_getElem?
            intro j
            by_cases hj : j < e.n
            · have g1 := hcell j (by rw [hc]; exact hj)
              have g2 := hcl (k * e.n + j) c[j] (hget j c[j] (List.getElem?_eq_getElem (by omega)))
              rw [haa, Go.Lib.add_plain, Go.Lib.add_plain, hc] at g1
              rw [show off + k * e.n + j = off + (k * e.n + j) by omega] at g1
              rw [List.getElem?_eq_getElem (by omega), ← g1, ← g2]
            · rw [List.getElem?_eq_none (by omega), List.getElem?_eq_none (by omega)]
          subst hcc
          have hb := h H enc W O n c elems[k] zs[k] hy0 hrd
          rw [List.take_succ_eq_append_getElem hk1, List.take_succ_eq_append_getElem hk2, List.map_append, List.map_append, List.sum_append]
          have happ : ∀ (l r : List (DataW H)), Rows.uptoBulkAll (l ++ r) = Rows.uptoBulkAll l + Rows.uptoBulkAll r := by
            intro l r
            induction l with
            | nil => simp [Rows.uptoBulkAll]
            | cons x l ih => simp only [List.cons_append, Rows.uptoBulkAll, ih]; omega
          rw [happ]
          simp only [List.map_cons, List.map_nil, List.sum_cons, List.sum_nil, Rows.uptoBulkAll]
          omega
    have := hsum len (Nat.le_refl _)
    rw [List.take_of_length_le (by omega), List.take_of_length_le (by omega)] at this
    unfold mL
    simp only [Rows.uptoBulk]
    omega
def BulkFrom {α : Type} (P : Program) (fs : Array Field) (i off : Nat) (e : Enc α) (m : α → Nat) : Prop :=
  ∀ (H : Type) (enc : TypeId × Value → H) (W : World) (O : Perm) (n : Nat) (cs : List Value) (xs : List (DataW H × List MemPlace)) (z : α), cs.length = off + e.n → xs.length = fs.size →
    (∀ (j : Nat) (f : Field), i ≤ j → fs[j]? = some f → DataW.trod enc P W 0 (fun _ => true) true n f.type ((cs.drop f.offset).take (P.cellsOf f.type)) = xs[j]?) →
    e.rd W O (cs.drop off) z → m z ≤ Rows.uptoBulkAll ((xs.drop i).map (·.1))
theorem bulk_last {α : Type} {P : Program} {fs : Array Field} {i off : Nat} {f : Field} {e : Enc α} {m : α → Nat} (hf : fs[i]? = some f) (ho : f.offset = off) (hc : P.cellsOf f.type = e.n) (h : BulkOf P f.type e m) : BulkFrom P fs i off e m := by
  intro H enc W O n cs xs z hl hx hr hz
  have hi : i < fs.size := by
    rcases Nat.lt_or_ge i fs.size with h | h
    · exact h
    · rw [Array.getElem?_eq_none h] at hf; cases hf
  have h1 := hr i f (Nat.le_refl _) hf
  have hxi : xs[i]? = some (xs[i]'(by omega)) := List.getElem?_eq_getElem (by omega)
  rw [hxi, ho, hc, List.take_of_length_le (by simp; omega)] at h1
  refine Nat.le_trans (h H enc W O n _ _ z h1 hz) (bulk_part ?_)
  exact List.mem_map.2 ⟨xs[i]'(by omega), by rw [List.drop_eq_getElem_cons (l := xs) (i := i) (by omega)]; exact List.mem_cons_self, rfl⟩
theorem bulk_cons {α β : Type} {P : Program} {fs : Array Field} {i off : Nat} {f : Field} {e : Enc α} {e' : Enc β} {m : α → Nat} {m' : β → Nat} (hf : fs[i]? = some f) (ho : f.offset = off) (hc : P.cellsOf f.type = e.n) (h : BulkOf P f.type e m)
    (hs : BulkFrom P fs (i + 1) (off + e.n) e' m') : BulkFrom P fs i off (ePair e e') (fun x => m x.1 + m' x.2) := by
  intro H enc W O n cs xs z hl hx hr hz
  have hl' : cs.length = off + (e.n + e'.n) := hl
  have hi : i < fs.size := by
    rcases Nat.lt_or_ge i fs.size with h | h
    · exact h
    · rw [Array.getElem?_eq_none h] at hf; cases hf
  have h1 := hr i f (Nat.le_refl _) hf
  have hxi : xs[i]? = some (xs[i]'(by omega)) := List.getElem?_eq_getElem (by omega)
  rw [hxi, ho, hc] at h1
  obtain ⟨c1, c2, e1, r1, r2⟩ := hz
  have hl1 := e.len r1
  rw [e1, List.take_left' hl1] at h1
  have b1 := h H enc W O n _ _ z.1 h1 r1
  have e2 : cs.drop (off + e.n) = c2 := by rw [← List.drop_drop, e1, List.drop_left' hl1]
  have b2 := hs H enc W O n cs xs z.2 (by omega) hx (fun j f hj => hr j f (by omega)) (by rw [e2]; exact r2)
  rw [List.drop_eq_getElem_cons (l := xs) (i := i) (by omega)]
  simp only [List.map_cons, Rows.uptoBulkAll]
  omega
theorem bulk_struct {α : Type} {P : Program} {t : TypeId} {fs : Array Field} {e : Enc α} {m : α → Nat} (ht : P.underlying t = some (.struct fs)) (hc : P.cellsOf t = e.n) (h : BulkFrom P fs 0 0 e m) : BulkOf P t e (fun z => m z + 1) := by
  intro H enc W O fuel cs x z hx hz
  obtain ⟨xs, n, _, rfl, hl, hlen, hr⟩ := DataW.trod_struct ht hx
  have := h H enc W O n cs xs z (by omega) hlen (fun j f _ hj => hr j f hj) (by simpa using hz)
  simp only [Rows.uptoBulk]
  simp only [List.drop_zero] at this
  omega

theorem i3 : Opens Tryz.prog 3 (eInt .i64) I64 := op3
theorem oS : Opens Tryz.prog 9 eStr (fun _ => True) := opens_good (opens_str Tryz.underlying9) fun _ _ => trivial
theorem oSs : Opens Tryz.prog 23 (eSl eStr) (fun _ => True) := opens_good (opens_slice Tryz.underlying23 (by kernel_rfl) (by decide) oS) fun _ _ => trivial
theorem oIs : Opens Tryz.prog 22 (eSl (eInt .i64)) (fun xs => ∀ n ∈ xs, I64 n) := opens_good (opens_slice Tryz.underlying22 (by kernel_rfl) (by decide) i3) fun _ h => h.2
theorem oP : Opens Tryz.prog 129 ePr IntsP := opens_good
  (opens_struct Tryz.underlying129 (by kernel_rfl) (opens_cons rfl rfl (by kernel_rfl) i3 (opens_cons rfl rfl (by kernel_rfl) oS (opens_cons rfl rfl (by kernel_rfl) oS (opens_cons rfl rfl (by kernel_rfl) i3 (opens_cons rfl rfl (by kernel_rfl) oSs (opens_last rfl rfl (by kernel_rfl) oSs))))))) fun _ h => ⟨h.1, h.2.2.2.1⟩
theorem oPs : Opens Tryz.prog 24 (eSl ePr) (fun l => ∀ p ∈ l, IntsP p) := opens_good (opens_slice Tryz.underlying24 (by kernel_rfl) (by decide) oP) fun _ h => h.2
theorem oN : Opens Tryz.prog 121 eNt (fun n => I64 n.1) := opens_good
  (opens_struct Tryz.underlying121 (by kernel_rfl) (opens_cons rfl rfl (by kernel_rfl) i3 (opens_cons rfl rfl (by kernel_rfl) oSs (opens_last rfl rfl (by kernel_rfl) (opens_bool Tryz.underlying4))))) fun _ h => h.1
theorem opRq : Opens Tryz.prog 26 eRq IntsQ := opens_good
  (opens_struct Tryz.underlying26 (by kernel_rfl) (opens_cons rfl rfl (by kernel_rfl) i3 (opens_cons rfl rfl (by kernel_rfl) i3 (opens_cons rfl rfl (by kernel_rfl) i3 (opens_cons rfl rfl (by kernel_rfl) oS (opens_cons rfl rfl (by kernel_rfl) oS (opens_cons rfl rfl (by kernel_rfl) oIs (opens_cons rfl rfl (by kernel_rfl) oSs (opens_last rfl rfl (by kernel_rfl) oPs))))))))) fun _ h => ⟨h.1, h.2.1, h.2.2.1, h.2.2.2.2.2.1, h.2.2.2.2.2.2.2⟩
/-! How much things hold. -/
abbrev mS (s : ByteArray) : Nat := s.size + 1
abbrev mP (p : Pr9) : Nat := 1 + (mS p.2.1 + (mS p.2.2.1 + (1 + (mL mS p.2.2.2.2.1 + mL mS p.2.2.2.2.2)))) + 1
abbrev mN (n : Nt9) : Nat := 1 + (mL mS n.2.1 + 1) + 1
abbrev mRq (q : Rq9) : Nat := 1 + (1 + (1 + (mS q.2.2.2.1 + (mS q.2.2.2.2.1 + (mL (fun _ => 1) q.2.2.2.2.2.1 + (mL mS q.2.2.2.2.2.2.1 + mL mP q.2.2.2.2.2.2.2)))))) + 1
abbrev mRs (s : Rs9) : Nat := 1 + (1 + (mL mP s.2.2.1 + (mL (fun _ => 1) s.2.2.2.1 + (mL mS s.2.2.2.2.1 + mL mN s.2.2.2.2.2)))) + 1
theorem k3 : BulkOf Tryz.prog 3 (eInt .i64) (fun _ => 1) := bulk_int Tryz.underlying3
theorem kS : BulkOf Tryz.prog 9 eStr mS := bulk_str Tryz.underlying9
theorem kSs : BulkOf Tryz.prog 23 (eSl eStr) (mL mS) := bulk_slice Tryz.underlying23 (by kernel_rfl) (by decide) kS
theorem kIs : BulkOf Tryz.prog 22 (eSl (eInt .i64)) (mL fun _ => 1) := bulk_slice Tryz.underlying22 (by kernel_rfl) (by decide) k3
theorem kP : BulkOf Tryz.prog 129 ePr mP := by
  have h := bulk_struct Tryz.underlying129 (by kernel_rfl) (bulk_cons rfl rfl (by kernel_rfl) k3 (bulk_cons rfl rfl (by kernel_rfl) kS (bulk_cons rfl rfl (by kernel_rfl) kS (bulk_cons rfl rfl (by kernel_rfl) k3 (bulk_cons rfl rfl (by kernel_rfl) kSs (bulk_last rfl rfl (by kernel_rfl) kSs))))))
  exact h
theorem kPs : BulkOf Tryz.prog 24 (eSl ePr) (mL mP) := bulk_slice Tryz.underlying24 (by kernel_rfl) (by decide) kP
theorem kRq : BulkOf Tryz.prog 26 eRq mRq := by
  have h := bulk_struct Tryz.underlying26 (by kernel_rfl) (bulk_cons rfl rfl (by kernel_rfl) k3 (bulk_cons rfl rfl (by kernel_rfl) k3 (bulk_cons rfl rfl (by kernel_rfl) k3 (bulk_cons rfl rfl (by kernel_rfl) kS (bulk_cons rfl rfl (by kernel_rfl) kS (bulk_cons rfl rfl (by kernel_rfl) kIs (bulk_cons rfl rfl (by kernel_rfl) kSs (bulk_last rfl rfl (by kernel_rfl) kPs))))))))
  exact h
theorem sum_mono {α : Type} {f g : α → Nat} : ∀ {l : List α}, (∀ x ∈ l, f x ≤ g x) → (l.map f).sum ≤ (l.map g).sum
  | [], _ => Nat.le_refl _
  | x :: l, h => by
    have h1 := h x (by simp)
    have h2 := sum_mono (l := l) fun y hy => h y (by simp [hy])
    simp only [List.map_cons, List.sum_cons]; omega
theorem len_sum {α : Type} {f : α → Nat} : ∀ {l : List α}, (∀ x ∈ l, 1 ≤ f x) → l.length ≤ (l.map f).sum
  | [], _ => Nat.le_refl _
  | x :: l, h => by
    have h1 := h x (by simp)
    have h2 := len_sum (l := l) fun y hy => h y (by simp [hy])
    simp only [List.map_cons, List.sum_cons, List.length_cons]; omega
theorem mL_S (l : List ByteArray) : l.length + sumS l < mL mS l := by
  have h : (l.map mS).sum = (l.map (·.size)).sum + l.length := by
    induction l with
    | nil => rfl
    | cons x l ih => simp only [List.map_cons, List.sum_cons, List.length_cons]; unfold mS at *; omega
  unfold mL sumS; omega
theorem mP_many (p : Pr9) : manyP p + 1 ≤ mP p := by
  have h1 := mL_S p.2.2.2.2.1
  have h2 := mL_S p.2.2.2.2.2
  have h3 : mP p = 1 + (mS p.2.1 + (mS p.2.2.1 + (1 + (mL mS p.2.2.2.2.1 + mL mS p.2.2.2.2.2)))) + 1 := rfl
  have h4 : mS p.2.1 = p.2.1.size + 1 := rfl
  have h5 : mS p.2.2.1 = p.2.2.1.size + 1 := rfl
  unfold manyP; omega
theorem mL_3 (l : List Pr9) : many3 l < mL mP l := by
  have h1 : (l.map fun p => manyP p + 1).sum ≤ (l.map mP).sum := sum_mono fun p _ => mP_many p
  have h2 : (l.map fun p => manyP p + 1).sum = (l.map manyP).sum + l.length := by
    clear h1
    induction l with
    | nil => rfl
    | cons x l ih => simp only [List.map_cons, List.sum_cons, List.length_cons]; omega
  unfold mL many3; omega
theorem mL_1 (l : List Int) : l.length ≤ mL (fun _ => 1) l := by
  have := len_sum (f := fun _ : Int => 1) (l := l) fun _ _ => Nat.le_refl _
  unfold mL; omega
theorem mRq_many (q : Rq9) : manyQ q ≤ mRq q := by
  have h1 := mL_1 q.2.2.2.2.2.1
  have h2 := mL_S q.2.2.2.2.2.2.1
  have h3 := mL_3 q.2.2.2.2.2.2.2
  have h4 : mRq q = 1 + (1 + (1 + (mS q.2.2.2.1 + (mS q.2.2.2.2.1 + (mL (fun _ => 1) q.2.2.2.2.2.1 + (mL mS q.2.2.2.2.2.2.1 + mL mP q.2.2.2.2.2.2.2)))))) + 1 := rfl
  have h5 : mS q.2.2.2.1 = q.2.2.2.1.size + 1 := rfl
  have h6 : mS q.2.2.2.2.1 = q.2.2.2.2.1.size + 1 := rfl
  unfold manyQ; omega
theorem stars_mem {w : World} : ∀ {L : List A} {O : Perm} {a : A}, Stars L w O → a ∈ L → a.h w O
  | x :: L, O, a, h, ha => by
    obtain ⟨O1, O2, s, h1, h2⟩ := h
    cases List.mem_cons.1 ha with
    | inl e => subst e; exact a.mono h1 fun b => s.l b
    | inr e => exact a.mono (stars_mem h2 e) fun b => s.r b
theorem bulk_arg {α : Type} {P : Program} {t : TypeId} {e : Enc α} {m : α → Nat} {H : Type} {enc : TypeId × Value → H} {W : World} {v : Value} {d : DataW H} {ps : List MemPlace} {z : α} {O : Perm} (hb : BulkOf P t e m)
    (h : DataW.Trod enc P W 0 (fun _ => true) true t v d ps) (hz : e.rd W O v.cells.toList z) : m z ≤ Rows.uptoBulk d := by
  obtain ⟨fuel, hf⟩ := h
  exact hb H enc W O fuel _ _ z hf hz
/-! The row of a law that returns true and leaves its arguments, where these are of bounded bulk. -/
theorem lift_upto {H : Type} {enc : TypeId × Value → H} {C : Checked} {os : Os} {f : FuncId} {fn : Func} {s : ChangeSpec} {t : TypeId} {laid : List (String × DataW Unit)} {F : Stop.Interp}
    (own : ownKnob C.prog.godebug = none) (started : os.Started) (noInit : C.prog.inits.idxOf? f = none) (hfn : C.prog.funcs[f]? = some fn)
    (hvars : s.vars = []) (hs : ∀ ds : List (DataW H), ds.length = fn.params.size → s.fn H ds = { results := [.lit (.bool true)], args := ds })
    (hres : fn.resultTypes = #[t]) (ht : C.prog.underlying t = some .bool) (hl : laidOutB C.prog = true) (hpar : (fn.params.toList.all fun t => C.prog.readableRec t && decide (t < C.prog.types.size)) = true)
    (witness : ∃ (w : World) (tape : Tape) (i : Input), w.os = os ∧ (w.forCall tape i).Shaped C.prog ∧ i.vars = [] ∧ Input.okWide C.prog (w.forCall tape i) .any w.heap.size f i ∧
      (Rows.OpenSpec.upto s).preRow enc C.prog fn [] false laid (w.forCall tape i).memory i.args ∧ ({} : Assume).holds C.prog (lone (Frame.enter C.prog f i.args .normal) [] (w.forCall tape i)))
    (walk : ∀ (W : World) (base : Nat) (args : Array Value) (ds : List (DataW H)) (ps : List MemPlace), W.ShapedOpen C.prog → laidMetH C.prog laid W → (∀ (j : Nat) t v, fn.params[j]? = some t → args[j]? = some v → Value.okWide C.prog W .any base t v) →
      DataW.TrodAll enc C.prog W 0 (fun _ => true) true fn.params.toList args.toList ds ps → (∀ (j : Nat) t d, fn.params.toList[j]? = some t → ds[j]? = some d → ∀ n ∈ d.weights C.prog t, n ≤ reachBytes) → Rows.uptoBulkAll ds ≤ 1048576 →
      Calls C.prog f args W fun e W' => e = .returned (.bool true) ∧ Below W.heap.size W W') :
    ReturnsInHanded {} C os f .any ((Rows.OpenSpec.upto s).preRow enc C.prog fn [] false laid) (((Rows.OpenSpec.upto s).at F).post enc C.prog fn false true false false) := by
  refine returnsInHanded_of_row own started noInit hfn witness ?_
  intro W base args ds gs before hval hw _ hcond hwt hlaid hsh _
  have hw2 := hw
  obtain ⟨p, q, hA, hV, rfl, hfz, hnd⟩ := hw2
  have hV' : DataW.TrodVars enc C.prog W (fun _ => true) s.vars gs q := hV
  rw [hvars] at hV'
  obtain ⟨rfl, rfl⟩ := ChangeShapes.trodVars_none hV'
  have hlen : ∀ {ts : List TypeId} {vs : List Value} {ds : List (DataW H)} {ps : List MemPlace}, DataW.TrodAll enc C.prog W 0 (fun _ => true) true ts vs ds ps → ds.length = ts.length := by
    intro ts
    induction ts with
    | nil => intro vs ds ps h; cases vs <;> cases ds <;> simp_all [DataW.TrodAll]
    | cons t ts ih =>
      intro vs ds ps h
      cases vs with
      | nil => cases ds <;> simp_all [DataW.TrodAll]
      | cons v vs => cases ds with
        | nil => simp_all [DataW.TrodAll]
        | cons d ds =>
          obtain ⟨_, _, _, h, _⟩ := h
          simp [ih h]
  have hdl : ds.length = fn.params.size := by rw [hlen hA]; simp
  have hsd := hs ds hdl
  have hbulk : Rows.uptoBulkAll ds ≤ 1048576 := by
    have := hcond Rows.uptoSmall rfl
    rw [List.append_nil] at this
    exact of_decide_eq_true this
  refine (walk W base args ds p hsh hlaid hval hA (fun j t d hj hd n hn => ?_) hbulk).mono fun e W' ⟨he, bel⟩ => ?_
  · have := List.all_eq_true.1 hwt n (weights_each (i := j) (u := t) (d := d) (by rw [List.getElem?_append_left (List.getElem?_eq_some_iff.1 hj).1]; exact hj) (by rw [List.getElem?_append_left (List.getElem?_eq_some_iff.1 hd).1]; exact hd) hn)
    simpa using this
  · subst he
    refine ⟨_, rfl, ?_⟩
    show s.post enc C.prog fn false true false false W args _ W'
    refine ⟨ds, [], p ++ [], [], p, [], hw, ?_, ?_, ?_, bel.frame _, fun h => by cases h⟩
    · rw [List.append_nil, hsd, hres]
      exact ChangeShapes.trodAll_mk1 (shut_bool ht _)
    · rw [List.append_nil, hsd]
      exact trodAll_below hl bel hpar hA
    · rw [List.append_nil, hsd, hvars]
      rfl
end Go.Proofs.YtlfehnnmpkohkaaGreatDoor

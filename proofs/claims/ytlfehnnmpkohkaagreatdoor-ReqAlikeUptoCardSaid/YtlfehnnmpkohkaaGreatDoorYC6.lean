/- The texts HF, E9, E8, QO, HG, KA, KB, KC, KD, R4, U3, one behind the other. -/
import Derived.Test.YtlfehnnmpkohkaaGreatDoorYC5
import Derived.Laws.OwnMore
import Derived.Lib.SlBytesConst
import Derived.Test.YtlfehnnmpkohkaaGreatDoorRows
import Derived.Lay
import Derived.Stop.LaidErr
import Derived.Lib.LaidTab
import Derived.Deep.DeepHandedRow
import Derived.Deep.DeepWitnessRowRef
set_option linter.unusedVariables false
set_option linter.unusedSimpArgs false
/- Chapter 16: how much a response has; whether a number is far. -/
namespace Go.Proofs.YtlfehnnmpkohkaaGreatDoor
open Go Go.SL Go.Lib
theorem any_step {α : Type} {f : α → Bool} {l : List α} {k : Nat} (hk : k < l.length) : (l.drop k).any f = (f l[k] || (l.drop (k + 1)).any f) := by
  rw [List.drop_eq_getElem_cons hk, List.any_cons]
attribute [local irreducible] Cfg Kont StepK Val Con Qops Any Sl Own Blk BlkR Rd Pu ExA AllA Has Pick Ent Elem Beside Callable TI Lone OwnO AndA
set_option maxHeartbeats 1000000 in
set_option maxRecDepth 100000 in
theorem sizeS_con (s : Rs9) (l i t n : Value) (hm : sizeS s ≤ 1000000000) : Con Tryz.prog 25 [.agg (rsC s l i t n).toArray] [Sl ePr l s.2.2.1, Sl (eInt .i64) i s.2.2.2.1, Sl eStr t s.2.2.2.2.1, Sl eNt n s.2.2.2.2.2] (γ := Unit) (fun _ => .int .i64 (sizeS s)) (fun _ => True) (fun _ => []) := by
  have h := many3_con l s.2.2.1 (by unfold sizeS at hm; omega)
  have hM : sizeS s = many3 s.2.2.1 + s.2.2.2.1.length + s.2.2.2.2.1.length + s.2.2.2.2.2.length + sumS s.2.2.2.2.1 + (s.2.2.2.2.2.map manyN).sum := rfl
  have h0 : ∀ l : List ByteArray, ((sumS (l.take 0) : Nat) : Int) = 0 := fun l => by simp [sumS]
  dsimp only [rsC]
  obtain ⟨acc, hacc⟩ : ∃ acc : Int, acc = (many3 s.2.2.1 : Int) + s.2.2.2.1.length + s.2.2.2.2.1.length + s.2.2.2.2.2.length := ⟨_, rfl⟩
  refine con_of Tryz.func25 rfl (dd rfl) fun w0 O0 => ?_
  refine c_seq (c_region ?_)
  refine o_step (s_box rfl (dd rfl) (fun b1 => ?_))
  refine oV vA ?_
  refine o_nil (c_seq ?_)
  refine c_held [BlkR b1 50 [.int .i64 s.1, .int .i64 s.2.1, l, i, t, n], Sl ePr l s.2.2.1, Sl (eInt .i64) i s.2.2.2.1, Sl eStr t s.2.2.2.2.1, Sl eNt n s.2.2.2.2.2] rfl ?_
  refine aT 0 rfl (vF 2 Tryz.underlying50 ti24) ?_
  refine aT 1 rfl (vL lone24) ?_
  refine aT 3 rfl (vF 3 Tryz.underlying50 ti22) ?_
  refine aT 4 rfl (vL lone22) ?_
  refine aT 5 rfl ((by first | exact v_len_form Tryz.underlying22 rfl | exact v_len_sl Tryz.underlying22 rfl (hX (by repeat constructor)))) ?_
  refine aT 7 rfl (vF 4 Tryz.underlying50 ti23) ?_
  refine aT 8 rfl (vL lone23) ?_
  refine aT 9 rfl ((by first | exact v_len_form Tryz.underlying23 rfl | exact v_len_sl Tryz.underlying23 rfl (hX (by repeat constructor)))) ?_
  refine aT 11 rfl (vF 5 Tryz.underlying50 ti48) ?_
  refine aT 12 rfl (vL lone48) ?_
  refine aT 13 rfl ((by first | exact v_len_form Tryz.underlying48 rfl | exact v_len_sl Tryz.underlying48 rfl (hX (by repeat constructor)))) ?_
  refine aO 2 rfl (s_callf_keep cl38 (h) rfl (dd rfl) (rX (by repeat constructor)) (fun _ => sX) (fun _ _ => aK ?_))
  refine aT 6 rfl ((by first | exact v_add64 rfl rfl (by omega) | exact v_add rfl rfl)) ?_
  refine aT 10 rfl ((by first | exact v_add64 rfl rfl (by omega) | exact v_add rfl rfl)) ?_
  refine aT 14 rfl ((by first | exact v_add64 rfl rfl (by omega) | exact v_add rfl rfl)) ?_
  refine aT 15 rfl vA ?_
  refine a_done (by kernel_rfl) ?_ _
  refine c_seq (c_seq (c_region ?_))
  refine oV (vF 4 Tryz.underlying50 ti23) ?_
  refine oV (vL lone23) ?_
  refine oV ((by first | exact v_len_form Tryz.underlying23 rfl | exact v_len_sl Tryz.underlying23 rfl (hX (by repeat constructor)))) ?_
  refine oV vM ?_
  refine o_nil (c_block ?_)
  rw [show (many3 s.2.2.1 : Int) + s.2.2.2.1.length + s.2.2.2.2.1.length + s.2.2.2.2.2.length = acc + ((sumS (s.2.2.2.2.1.take 0) : Nat) : Int) by rw [hacc, h0]; omega]
  refine c_loopR (γ := Nat) [(1, _), (2, _), (26, _), (27, _)] (fun j => s.2.2.2.2.1.length - j) (fun j => j ≤ s.2.2.2.2.1.length) (fun j => [(28, .int .i64 j), (3, .int .i64 (acc + ((sumS (s.2.2.2.2.1.take j) : Nat) : Int)))]) (fun _ => [Blk b1 50 [.int .i64 s.1, .int .i64 s.2.1, l, i, t, n], Sl eStr t s.2.2.2.2.1, Sl eNt n s.2.2.2.2.2]) (0) (Nat.zero_le _) (by repeat (first | exact trivial | refine ⟨rfl, ?_⟩)) (eX (by repeat constructor)) ?_
  rintro j hj IH
  have hsj := sum_le (fun s : ByteArray => s.size) s.2.2.2.2.1 j
  try dsimp only [List.cons_append, List.nil_append]
  refine c_seq (c_region ?_)
  refine oV (v_lt rfl rfl) ?_
  refine o_nil (c_seq ?_)
  refine c_cond_p rfl (fun hj2 => ?_) (fun hj2 => ?_)
  · have hjl : j < s.2.2.2.2.1.length := by omega
    have hsn : sumS (s.2.2.2.2.1.take (j + 1)) = sumS (s.2.2.2.2.1.take j) + s.2.2.2.2.1[j].size := sum_take (fun s : ByteArray => s.size) hjl
    have hsj2 := sum_le (fun s : ByteArray => s.size) s.2.2.2.2.1 (j + 1)
    unfold sumS at *
    refine c_skip (c_seq (c_block (c_seq (c_region ?_))))
    refine oV ((by first | exact v_indexAddrN Tryz.underlying23 ti9 rfl rfl (hX (by repeat constructor)) (by omega) | exact v_indexAddr Tryz.underlying23 ti9 rfl rfl (hX (by repeat constructor)) (by omega))) ?_
    refine oV (v_load_str lone9 rfl (by repeat (first | exact Elem.sl (List.getElem?_eq_getElem (by omega)) | exact Elem.own (List.getElem?_eq_getElem (by omega)) | exact Elem.ownO (List.getElem?_eq_getElem (by omega)) | apply Elem.there))) ?_
    refine oV vA ?_
    refine o_nil (c_region ?_)
    iterate 2 refine oV vM ?_
    refine oV (v_len_str Tryz.underlying9 rfl) ?_
    refine oV ((by first | exact v_add64 rfl rfl (by omega) | exact v_add rfl rfl)) ?_
    refine oV vA ?_
    refine o_nil (c_inBlock (c_region ?_))
    refine oV ((by first | exact v_add64 rfl rfl (by omega) | exact v_add rfl rfl)) ?_
    refine oV vM ?_
    refine o_nil ?_
    rw [Int.add_assoc acc, ← Int.natCast_add, ← hsn]
    refine cU (IH (j + 1) (by first | omega | (dsimp only; omega)) (by omega))
  · rw [List.take_of_length_le (l := s.2.2.2.2.1) (i := j) (by omega)]
    refine c_exit rfl ?_
    refine c_seq (c_seq (c_region ?_))
    refine oV (vF 5 Tryz.underlying50 ti48) ?_
    refine oV (vL lone48) ?_
    refine oV ((by first | exact v_len_form Tryz.underlying48 rfl | exact v_len_sl Tryz.underlying48 rfl (hX (by repeat constructor)))) ?_
    refine oV vM ?_
    refine o_nil (c_block ?_)
    obtain ⟨base, hbase⟩ : ∃ base : Int, base = acc + ((sumS s.2.2.2.2.1 : Nat) : Int) := ⟨_, rfl⟩
    rw [← hbase, show base = base + ((((s.2.2.2.2.2.take 0).map manyN).sum : Nat) : Int) by simp]
    refine c_loopR (γ := Nat) [(2, _), (38, _), (39, _)] (fun k => s.2.2.2.2.2.length - k) (fun k => k ≤ s.2.2.2.2.2.length) (fun k => [(40, .int .i64 k), (3, .int .i64 (base + ((((s.2.2.2.2.2.take k).map manyN).sum : Nat) : Int)))]) (fun _ => [Sl eNt n s.2.2.2.2.2]) (0) (Nat.zero_le _) (by repeat (first | exact trivial | refine ⟨rfl, ?_⟩)) (eX (by repeat constructor)) ?_
    rintro k hk IH2
    have hsk := sum_le manyN s.2.2.2.2.2 k
    try dsimp only [List.cons_append, List.nil_append]
    refine c_seq (c_region ?_)
    refine oV (v_lt rfl rfl) ?_
    refine o_nil (c_seq ?_)
    refine c_cond_p rfl (fun hlt => ?_) (fun hlt => ?_)
    · have hk' : k < s.2.2.2.2.2.length := by omega
      have hsm := sum_mem manyN hk'
      have hst := sum_take manyN hk'
      have hmn : manyN s.2.2.2.2.2[k] = s.2.2.2.2.2[k].2.1.length + sumS s.2.2.2.2.2[k].2.1 := rfl
      obtain ⟨pre, hpre⟩ : ∃ pre : Int, pre = base + ((((s.2.2.2.2.2.take k).map manyN).sum : Nat) : Int) := ⟨_, rfl⟩
      rw [← hpre]
      refine c_skip (c_seq (c_block (c_seq (c_region ?_))))
      refine oV ((by first | exact v_indexAddrN Tryz.underlying48 ti121 rfl rfl (hX (by repeat constructor)) (by omega) | exact v_indexAddr Tryz.underlying48 ti121 rfl rfl (hX (by repeat constructor)) (by omega))) ?_
      refine o_step (s_load_shape ⟨_, Tryz.underlying121⟩ ti121 rfl (dd rfl) (by repeat (first|exact el1 (by omega)|exact el2 (by omega)|exact el3 (by omega)|apply Elem.there)) (nt_open) (fun g => ?_))
      refine o_step (s_alloc ti121 (dd rfl) (fun b7 => ?_))
      refine o_step (s_store_all ti121 rfl rfl (by first | exact CellsV.lit rfl | exact CellsV.one (by first | exact OneC.lit rfl | exact OneC.sl (hX (by repeat constructor)) )) (by repeat (first | exact OneAll.nil | (refine OneAll.cons ?_ ?_; · first | exact OneC.lit rfl | exact OneC.sl (hX (by repeat constructor)) ) | exact OneAll.rd (hX (by repeat constructor)))) rfl (pB (by repeat constructor)) rfl (?_))
      refine o_nil (c_seq (c_region ?_))
      refine oV vM ?_
      refine oV (vF 1 Tryz.underlying121 ti23) ?_
      refine oV (vL lone23) ?_
      refine oV ((by first | exact v_len_form Tryz.underlying23 rfl | exact v_len_sl Tryz.underlying23 rfl (hX (by repeat constructor)))) ?_
      refine oV ((by first | exact v_add64 rfl rfl (by omega) | exact v_add rfl rfl)) ?_
      refine oV vA ?_
      refine o_nil (c_seq (c_region ?_))
      refine oV (vF 1 Tryz.underlying121 ti23) ?_
      refine oV (vL lone23) ?_
      refine oV ((by first | exact v_len_form Tryz.underlying23 rfl | exact v_len_sl Tryz.underlying23 rfl (hX (by repeat constructor)))) ?_
      refine oV vM ?_
      refine o_nil (c_block ?_)
      obtain ⟨acc2, hacc2⟩ : ∃ x : Int, x = pre + (s.2.2.2.2.2[k].2.1.length : Int) := ⟨_, rfl⟩
      rw [show pre + (s.2.2.2.2.2[k].2.1.length : Int) = acc2 + ((sumS (s.2.2.2.2.2[k].2.1.take 0) : Nat) : Int) by rw [hacc2, h0]; omega]
      refine c_loopR (γ := Nat) [(2, _), (7, _), (38, _), (39, _), (40, _), (41, _), (42, _), (43, _), (44, _), (45, _), (46, _), (47, _), (48, _), (49, _), (50, _), (51, _)] (fun j => s.2.2.2.2.2[k].2.1.length - j) (fun j => j ≤ s.2.2.2.2.2[k].2.1.length) (fun j => [(52, .int .i64 j), (3, .int .i64 (acc2 + ((sumS (s.2.2.2.2.2[k].2.1.take j) : Nat) : Int)))]) (fun _ => [Sl eNt n s.2.2.2.2.2, Sl eStr g s.2.2.2.2.2[k].2.1]) (0) (Nat.zero_le _) (by repeat (first | exact trivial | refine ⟨rfl, ?_⟩)) (eX (by repeat constructor)) ?_
      rintro j hj IH3
      have hsj := sum_le (fun s : ByteArray => s.size) s.2.2.2.2.2[k].2.1 j
      try dsimp only [List.cons_append, List.nil_append]
      refine c_seq (c_region ?_)
      refine oV (v_lt rfl rfl) ?_
      refine o_nil (c_seq ?_)
      refine c_cond_p rfl (fun hj2 => ?_) (fun hj2 => ?_)
      · have hjl : j < s.2.2.2.2.2[k].2.1.length := by omega
        have hsn : sumS (s.2.2.2.2.2[k].2.1.take (j + 1)) = sumS (s.2.2.2.2.2[k].2.1.take j) + s.2.2.2.2.2[k].2.1[j].size := sum_take (fun s : ByteArray => s.size) hjl
        have hsj2 := sum_le (fun s : ByteArray => s.size) s.2.2.2.2.2[k].2.1 (j + 1)
        unfold sumS at *
        refine c_skip (c_seq (c_block (c_seq (c_region ?_))))
        refine oV ((by first | exact v_indexAddrN Tryz.underlying23 ti9 rfl rfl (hX (by repeat constructor)) (by omega) | exact v_indexAddr Tryz.underlying23 ti9 rfl rfl (hX (by repeat constructor)) (by omega))) ?_
        refine oV (v_load_str lone9 rfl (by repeat (first | exact Elem.sl (List.getElem?_eq_getElem (by omega)) | exact Elem.own (List.getElem?_eq_getElem (by omega)) | exact Elem.ownO (List.getElem?_eq_getElem (by omega)) | apply Elem.there))) ?_
        refine oV vA ?_
        refine o_nil (c_region ?_)
        iterate 2 refine oV vM ?_
        refine oV (v_len_str Tryz.underlying9 rfl) ?_
        refine oV ((by first | exact v_add64 rfl rfl (by omega) | exact v_add rfl rfl)) ?_
        refine oV vA ?_
        refine o_nil (c_inBlock (c_region ?_))
        refine oV ((by first | exact v_add64 rfl rfl (by omega) | exact v_add rfl rfl)) ?_
        refine oV vM ?_
        refine o_nil ?_
        rw [Int.add_assoc acc2, ← Int.natCast_add, ← hsn]
        refine cU (IH3 (j + 1) (by first | omega | (dsimp only; omega)) (by omega))
      · rw [List.take_of_length_le (l := s.2.2.2.2.2[k].2.1) (i := j) (by omega)]
        refine c_exit rfl ?_
        refine c_inBlock (c_region ?_)
        refine oV ((by first | exact v_add64 rfl rfl (by omega) | exact v_add rfl rfl)) ?_
        refine oV vM ?_
        refine o_nil ?_
        have hfin : acc2 + ((sumS s.2.2.2.2.2[k].2.1 : Nat) : Int) = base + ((((s.2.2.2.2.2.take (k + 1)).map manyN).sum : Nat) : Int) := by rw [hst]; omega
        rw [hfin]
        refine cU (IH2 (k + 1) (by first | omega | (dsimp only; omega)) (by omega))
    · rw [List.take_of_length_le (l := s.2.2.2.2.2) (i := k) (by omega)]
      refine c_exit rfl ?_
      refine c_seq (c_region ?_)
      refine oV vM ?_
      refine oV vA ?_
      refine o_nil ?_
      refine c_ret1 Tryz.func25 rfl rfl fun w O hS => ?_
      exact ⟨(), congrArg (Value.int .i64) (by rw [hM]; omega), trivial, trivial⟩
set_option maxHeartbeats 1000000 in
set_option maxRecDepth 100000 in
theorem far_con (s : Rs9) (l i t n : Value) (hi : s.2.2.2.1.length ≤ 1000000) (hn : s.2.2.2.2.2.length ≤ 1000000) : Con Tryz.prog 33 [.agg (rsC s l i t n).toArray] [Sl (eInt .i64) i s.2.2.2.1, Sl eNt n s.2.2.2.2.2] (γ := Unit) (fun _ => .bool (farS s)) (fun _ => True) (fun _ => []) := by
  obtain ⟨hd, hhd⟩ : ∃ hd, hd = [s.1, s.2.1] ++ s.2.2.2.1 := ⟨_, rfl⟩
  obtain ⟨all, hall⟩ : ∃ all, all = hd ++ s.2.2.2.2.2.map (·.1) := ⟨_, rfl⟩
  have hF : farS s = all.any farN := by rw [hall, hhd]; rfl
  have hdl : hd.length = 2 + s.2.2.2.1.length := by rw [hhd]; simp; omega
  have hlen : all.length = 2 + s.2.2.2.1.length + s.2.2.2.2.2.length := by rw [hall, List.length_append, List.length_map]; omega
  rw [hF]
  dsimp only [rsC]
  refine con_of Tryz.func33 rfl (dd rfl) fun w0 O0 => ?_
  refine c_seq (c_region ?_)
  refine o_step (s_box rfl (dd rfl) (fun b1 => ?_))
  refine oV vA ?_
  refine o_nil (c_seq (c_region ?_))
  refine oV (vF 0 Tryz.underlying50 ti3) ?_
  refine oV (vL lone3) ?_
  refine oV (vF 1 Tryz.underlying50 ti3) ?_
  refine oV (vL lone3) ?_
  refine o_step (s_buildSlice Tryz.underlying22 ti3 rfl rfl rfl (by decide) (by decide) (beside_int .i64 [s.1, s.2.1]) rfl rfl (dd rfl) fun v1 => ?_)
  refine oV (vF 3 Tryz.underlying50 ti22) ?_
  refine oV (vL lone22) ?_
  refine o_step (s_append Tryz.underlying22 ti3 rfl (by decide) rfl rfl (dd rfl) (pB (by repeat constructor)) (pX (by repeat constructor)) rfl (by (first | omega | (simp only [maxLen, List.length_append, List.length_drop, List.length_take, List.length_nil, List.length_cons]; omega))) (by (first | omega | (simp only [maxLen, List.length_append, List.length_drop, List.length_take, List.length_nil, List.length_cons]; omega))) fun v2 => ?_)
  refine oV vA ?_
  refine o_nil (c_seq (c_seq (c_region ?_)))
  refine oV (vF 5 Tryz.underlying50 ti48) ?_
  refine oV (vL lone48) ?_
  refine oV ((by first | exact v_len_form Tryz.underlying48 rfl | exact v_len_sl Tryz.underlying48 rfl (hX (by repeat constructor)))) ?_
  refine oV vM ?_
  refine o_nil (c_block ?_)
  rw [← hhd, show hd = hd ++ (s.2.2.2.2.2.take 0).map (·.1) by simp]
  refine c_loopR (γ := Nat × Value) [(2, _), (17, _), (18, _)] (fun g => s.2.2.2.2.2.length - g.1) (fun g => g.1 ≤ s.2.2.2.2.2.length) (fun g => [(19, .int .i64 g.1), (3, g.2)]) (fun g => [Sl eNt n s.2.2.2.2.2, Own (eInt .i64) 3 g.2 (hd ++ (s.2.2.2.2.2.take g.1).map (·.1))]) ((0, v2)) (Nat.zero_le _) (by repeat (first | exact trivial | refine ⟨rfl, ?_⟩)) (eX (by repeat constructor)) ?_
  rintro ⟨k, r⟩ hk IH
  dsimp only at hk ⊢
  try dsimp only [List.cons_append, List.nil_append]
  refine c_seq (c_region ?_)
  refine oV (v_lt rfl rfl) ?_
  refine o_nil (c_seq ?_)
  refine c_cond_p rfl (fun hlt => ?_) (fun hlt => ?_)
  · have hk' : k < s.2.2.2.2.2.length := by omega
    have hml : ((s.2.2.2.2.2.take k).map (·.1)).length = k := by rw [List.length_map, List.length_take]; omega
    refine c_skip (c_seq (c_block (c_seq (c_region ?_))))
    refine oV ((by first | exact v_indexAddrN Tryz.underlying48 ti121 rfl rfl (hX (by repeat constructor)) (by omega) | exact v_indexAddr Tryz.underlying48 ti121 rfl rfl (hX (by repeat constructor)) (by omega))) ?_
    refine o_step (s_load_shape ⟨_, Tryz.underlying121⟩ ti121 rfl (dd rfl) (by repeat (first|exact el1 (by omega)|exact el2 (by omega)|exact el3 (by omega)|apply Elem.there)) (nt_open) (fun g => ?_))
    refine o_step (s_alloc ti121 (dd rfl) (fun b5 => ?_))
    refine o_step (s_store_all ti121 rfl rfl (by first | exact CellsV.lit rfl | exact CellsV.one (by first | exact OneC.lit rfl | exact OneC.sl (hX (by repeat constructor)) )) (by repeat (first | exact OneAll.nil | (refine OneAll.cons ?_ ?_; · first | exact OneC.lit rfl | exact OneC.sl (hX (by repeat constructor)) ) | exact OneAll.rd (hX (by repeat constructor)))) rfl (pB (by repeat constructor)) rfl (?_))
    refine o_nil (c_region ?_)
    refine oV vM ?_
    refine oV (vF 0 Tryz.underlying121 ti3) ?_
    refine oV (vL lone3) ?_
    refine o_step (s_buildSlice Tryz.underlying22 ti3 rfl rfl rfl (by decide) (by decide) (beside_int .i64 [s.2.2.2.2.2[k].1]) rfl rfl (dd rfl) fun v3 => ?_)
    refine o_step (s_append Tryz.underlying22 ti3 rfl (by decide) rfl rfl (dd rfl) (pB (by repeat constructor)) (pX (by repeat constructor)) rfl (by (first | omega | (simp only [maxLen, List.length_append, List.length_drop, List.length_take, List.length_nil, List.length_cons]; omega))) (by (first | omega | (simp only [maxLen, List.length_append, List.length_drop, List.length_take, List.length_nil, List.length_cons]; omega))) fun v4 => ?_)
    refine oV vA ?_
    refine o_nil (c_inBlock (c_region ?_))
    refine oV ((by first | exact v_add64 rfl rfl (by omega) | exact v_add rfl rfl)) ?_
    refine oV vM ?_
    refine o_nil ?_
    rw [show hd ++ (s.2.2.2.2.2.take k).map (·.1) ++ [s.2.2.2.2.2[k].1] = hd ++ (s.2.2.2.2.2.take (k + 1)).map (·.1) by rw [List.take_succ_eq_append_getElem hk', List.map_append, List.append_assoc]; rfl]
    refine cU (IH ((k + 1, v4)) (by first | omega | (dsimp only; omega)) (by dsimp only; omega))
  · rw [List.take_of_length_le (l := s.2.2.2.2.2) (i := k) (by omega), ← hall]
    refine c_exit rfl ?_
    refine c_seq (c_seq (c_region ?_))
    refine oV vM ?_
    refine oV ((by first | exact v_len_form Tryz.underlying22 rfl | exact v_len_sl Tryz.underlying22 rfl (hX (by repeat constructor)))) ?_
    refine oV vM ?_
    refine o_nil (c_block ?_)
    refine c_loopR (γ := Nat) [(2, _), (29, _), (30, _)] (fun j => all.length - j) (fun j => j ≤ all.length ∧ all.any farN = (all.drop j).any farN) (fun j => [(31, .int .i64 j)]) (fun _ => [Own (eInt .i64) 3 r all]) (0) (⟨Nat.zero_le _, rfl⟩) (by repeat (first | exact trivial | refine ⟨rfl, ?_⟩)) (eX (by repeat constructor)) ?_
    rintro j ⟨hj, hany⟩ IH2
    try dsimp only [List.cons_append, List.nil_append]
    refine c_seq (c_region ?_)
    refine oV (v_lt rfl rfl) ?_
    refine o_nil (c_seq ?_)
    refine c_cond_p rfl (fun hjl => ?_) (fun hjl => ?_)
    · have hj' : j < all.length := by omega
      rw [any_step hj'] at hany
      refine c_skip (c_seq (c_block (c_seq (c_region ?_))))
      refine oV ((by first | exact v_indexAddrN Tryz.underlying22 ti3 rfl rfl (hX (by repeat constructor)) (by omega) | exact v_indexAddr Tryz.underlying22 ti3 rfl rfl (hX (by repeat constructor)) (by omega))) ?_
      refine oV (v_load_int lone3 rfl (by repeat (first | exact Elem.sl (List.getElem?_eq_getElem (by omega)) | exact Elem.own (List.getElem?_eq_getElem (by omega)) | exact Elem.ownO (List.getElem?_eq_getElem (by omega)) | apply Elem.there))) ?_
      refine oV vA ?_
      refine o_nil (c_seq ?_)
      refine c_env (env' := [(2, _), (7, _), (29, _), (30, _), (31, _), (32, _), (33, _), (34, _)]) (by repeat (first | exact trivial | refine ⟨rfl, ?_⟩)) ?_
      refine c_joinb (d := 40) (decide (1099511627776 < all[j] ∨ all[j] < -1099511627776)) ?_ ?_
      rotate_left
      · intro J
        refine c_region ?_
        refine oV vM ?_
        refine oV (v_gt rfl rfl) ?_
        refine oV vM ?_
        first | refine o_guard_f rfl rfl (fun g37 => ?_) (fun g37 => ?_) | refine o_guard rfl rfl (fun g37 => ?_) (fun g37 => ?_)
        · refine oV vM ?_
          refine oN ?_
          refine oV (v_lt rfl rfl) ?_
          refine oV vQ ?_
          refine o_nil ?_
          exact cJ J rfl (by first | rfl | (simp_all; done) | (simp_all; omega) | (simp; omega))
        · refine oX ?_
          refine oX ?_
          refine oV vT ?_
          refine o_nil ?_
          exact cJ J rfl (by first | rfl | (simp_all; done) | (simp_all; omega) | (simp; omega))
      refine c_cond_p rfl (fun hz => ?_) (fun hz => ?_)
      · have hz2 : farN all[j] = true := by unfold farN far9; rw [Bool.or_eq_true, decide_eq_true_eq, decide_eq_true_eq]; exact hz
        refine c_seq (c_region ?_)
        refine oV vA ?_
        refine o_nil ?_
        refine c_ret1 Tryz.func33 rfl rfl fun w O hS => ?_
        exact ⟨(), by rw [hany, hz2]; rfl, trivial, trivial⟩
      · have hz2 : farN all[j] = false := by unfold farN far9; rw [Bool.or_eq_false_iff, decide_eq_false_iff_not, decide_eq_false_iff_not]; exact ⟨fun h => hz (.inl h), fun h => hz (.inr h)⟩
        rw [hz2, Bool.false_or] at hany
        refine c_skip (c_inBlock (c_region ?_))
        refine oV ((by first | exact v_add64 rfl rfl (by omega) | exact v_add rfl rfl)) ?_
        refine oV vM ?_
        refine o_nil ?_
        refine cU (IH2 (j + 1) (by first | omega | (dsimp only; omega)) (⟨by omega, hany⟩))
    · refine c_exit rfl ?_
      refine c_seq (c_region ?_)
      refine oV vA ?_
      refine o_nil ?_
      refine c_ret1 Tryz.func33 rfl rfl fun w O hS => ?_
      exact ⟨(), by rw [hany, List.drop_of_length_le (by omega)]; rfl, trivial, trivial⟩
end Go.Proofs.YtlfehnnmpkohkaaGreatDoor
/- Chapter 16: requests and responses as arguments; sizes where they are counted. -/
namespace Go.Proofs.YtlfehnnmpkohkaaGreatDoor
open Go Go.SL Go.Lib
def IntsP (p : Pr9) : Prop := I64 p.1 ∧ I64 p.2.2.2.1
theorem sumS_mem {l : List ByteArray} {s : ByteArray} (h : s ∈ l) : s.size ≤ sumS l := by
  induction l with
  | nil => cases h
  | cons x l ih =>
    unfold sumS at *
    simp only [List.map_cons, List.sum_cons]
    cases List.mem_cons.1 h with
    | inl e => subst e; omega
    | inr e => have := ih e; omega
theorem manyP_mem {l : List Pr9} {p : Pr9} (h : p ∈ l) : manyP p + l.length ≤ many3 l := by
  have : manyP p ≤ (l.map manyP).sum := by
    induction l with
    | nil => cases h
    | cons x l ih =>
      simp only [List.map_cons, List.sum_cons]
      cases List.mem_cons.1 h with
      | inl e => subst e; omega
      | inr e => have := ih e; omega
  unfold many3; omega
theorem many3_len (l : List Pr9) : l.length ≤ many3 l := by unfold many3; omega
theorem fitTexts {l : List ByteArray} {m : Nat} (h : l.length + sumS l ≤ m) (hm : m ≤ 1000000) : TextsFit l := ⟨by omega, fun s hs => by have := sumS_mem hs; omega⟩
theorem fitP {p : Pr9} (h : manyP p ≤ 1000000) : PrFit p := by
  unfold manyP at h
  exact ⟨by omega, by omega, fitTexts (m := p.2.2.2.2.1.length + sumS p.2.2.2.2.1) (Nat.le_refl _) (by omega), fitTexts (m := p.2.2.2.2.2.length + sumS p.2.2.2.2.2) (Nat.le_refl _) (by omega)⟩
theorem fitPs {l : List Pr9} (h : many3 l ≤ 100000) : PrsFit l := ⟨by have := many3_len l; omega, fun p hp => fitP (by have := manyP_mem hp; omega)⟩
theorem countP {p : Pr9} (h : manyP p ≤ 1000000) (hi : IntsP p) : CountP p := by
  unfold manyP at h
  exact ⟨hi.1, hi.2, by omega, by omega⟩
theorem textsB_sum (l : List ByteArray) : (textsB l).length ≤ 15 + 4 * l.length + 2 * sumS l := by
  have h : ((l.map textB).flatten).length ≤ 4 * l.length + 2 * sumS l := by
    unfold sumS
    induction l with
    | nil => simp
    | cons x l ih =>
      have := textB_len x
      simp only [List.map_cons, List.flatten_cons, List.length_append, List.length_cons, List.sum_cons]
      omega
  have := numB_len l.length
  simp only [textsB, manyB, List.length_append]
  omega
theorem primB_sum (p : Pr9) : (primB p).length ≤ 68 + 4 * manyP p := by
  have a1 := numB_len p.1
  have a2 := textB_len p.2.1
  have a3 := textB_len p.2.2.1
  have a4 := numB_len p.2.2.2.1
  have a5 := textsB_sum p.2.2.2.2.1
  have a6 := textsB_sum p.2.2.2.2.2
  unfold manyP primB
  simp only [List.length_append]
  omega
theorem primsB_sum (l : List Pr9) : (primsB l).length ≤ 15 + 68 * many3 l := by
  have h : ((l.map primB).flatten).length ≤ 68 * l.length + 4 * (l.map manyP).sum := by
    induction l with
    | nil => simp
    | cons x l ih =>
      have := primB_sum x
      simp only [List.map_cons, List.flatten_cons, List.length_append, List.length_cons, List.sum_cons]
      omega
  have := numB_len l.length
  unfold many3
  simp only [primsB, manyB, List.length_append]
  omega

abbrev eRq : Enc Rq9 := ePair (eInt .i64) (ePair (eInt .i64) (ePair (eInt .i64) (ePair eStr (ePair eStr (ePair (eSl (eInt .i64)) (ePair (eSl eStr) (eSl ePr)))))))
abbrev eRs : Enc Rs9 := ePair (eInt .i64) (ePair (eInt .i64) (ePair (eSl ePr) (ePair (eSl (eInt .i64)) (ePair (eSl eStr) (eSl eNt)))))
abbrev rqL (q : Rq9) (d f l : Value) : List A := [Sl (eInt .i64) d q.2.2.2.2.2.1, Sl eStr f q.2.2.2.2.2.2.1, Sl ePr l q.2.2.2.2.2.2.2]
abbrev rsL (s : Rs9) (l i t n : Value) : List A := [Sl ePr l s.2.2.1, Sl (eInt .i64) i s.2.2.2.1, Sl eStr t s.2.2.2.2.1, Sl eNt n s.2.2.2.2.2]
theorem rs_open {z : Rs9} (w : World) (O : Perm) (c : List Value) (h : eRs.rd w O c z) : ∃ g : Value × Value × Value × Value, c = rsC z g.1 g.2.1 g.2.2.1 g.2.2.2 ∧ Stars (rsL z g.1 g.2.1 g.2.2.1 g.2.2.2) w O := by
  obtain ⟨c1, d1, rfl, h1, c2, d2, rfl, h2, c3, d3, rfl, ⟨lv, rfl, h3⟩, c4, d4, rfl, ⟨iv, rfl, h4⟩, c5, c6, rfl, ⟨tv, rfl, h5⟩, nv, rfl, h6⟩ := h
  have a1 : c1 = [.int .i64 z.1] := h1
  have a2 : c2 = [.int .i64 z.2.1] := h2
  subst a1; subst a2
  refine ⟨(lv, iv, tv, nv), rfl, stars_dups fun a ha => ?_⟩
  simp only [rsL, List.mem_cons, List.not_mem_nil, or_false] at ha
  rcases ha with rfl | rfl | rfl | rfl
  · exact SlP.dup h3
  · exact SlP.dup h4
  · exact SlP.dup h5
  · exact SlP.dup h6
/-- Numbers that are numbers of the machine. -/
def IntsQ (q : Rq9) : Prop := I64 q.1 ∧ I64 q.2.1 ∧ I64 q.2.2.1 ∧ (∀ n ∈ q.2.2.2.2.2.1, I64 n) ∧ ∀ p ∈ q.2.2.2.2.2.2.2, IntsP p
def IntsS (s : Rs9) : Prop := I64 s.1 ∧ I64 s.2.1 ∧ (∀ p ∈ s.2.2.1, IntsP p) ∧ (∀ n ∈ s.2.2.2.1, I64 n) ∧ ∀ n ∈ s.2.2.2.2.2, I64 n.1
theorem manyN_mem {l : List Nt9} {n : Nt9} (h : n ∈ l) : manyN n ≤ (l.map manyN).sum := by
  induction l with
  | nil => cases h
  | cons x l ih =>
    simp only [List.map_cons, List.sum_cons]
    cases List.mem_cons.1 h with
    | inl e => subst e; omega
    | inr e => have := ih e; omega
theorem rowB_sum (l : List Int) : (rowB l).length ≤ 15 + 15 * l.length := by
  have h1 := flat_le (put := numB) (m := 15) (l := l) fun x _ => numB_len x
  have h2 := numB_len l.length
  unfold rowB manyB
  rw [List.length_append]
  omega
theorem size_parts {s : Rs9} {m : Nat} (h : sizeS s ≤ m) (hm : m ≤ 100000) : FitS s ∧ SizeS s := by
  have h1 := many3_len s.2.2.1
  have hp := fun p hp => manyP_mem (l := s.2.2.1) (p := p) hp
  have ht := fun x hx => sumS_mem (l := s.2.2.2.2.1) (s := x) hx
  have hn := fun n hn => manyN_mem (l := s.2.2.2.2.2) (n := n) hn
  unfold sizeS at h
  refine ⟨⟨fitPs (by omega), by omega, ⟨by omega, fun x hx => by have := ht x hx; omega⟩, by omega, fun n hn' => ?_⟩, ⟨by omega, fun p hp' => ?_⟩, by omega, by omega, by omega, fun n hn' => ?_⟩
  · have := hn n hn'
    rw [show manyN n = n.2.1.length + sumS n.2.1 from rfl] at this
    exact fitTexts (m := m) (by omega) (by omega)
  · have := hp p hp'
    unfold manyP at this
    exact ⟨by omega, by omega⟩
  · have := hn n hn'
    rw [show manyN n = n.2.1.length + sumS n.2.1 from rfl] at this
    omega
theorem size_count {s : Rs9} (h : sizeS s ≤ 900) (hi : IntsS s) : CountS s := by
  have h1 := many3_len s.2.2.1
  have hp := fun p hp => manyP_mem (l := s.2.2.1) (p := p) hp
  have hn := fun n hn => manyN_mem (l := s.2.2.2.2.2) (n := n) hn
  unfold sizeS at h
  obtain ⟨i1, i2, i3, i4, i5⟩ := hi
  refine ⟨i1, i2, ⟨by omega, fun p hp' => countP (by have := hp p hp'; omega) (i3 p hp')⟩, ⟨by omega, i4⟩, by omega, by omega, fun n hn' => ⟨i5 n hn', ?_⟩⟩
  have := hn n hn'
  rw [show manyN n = n.2.1.length + sumS n.2.1 from rfl] at this
  omega
theorem notes_sum (l : List Nt9) : ((l.map noteB).flatten).length ≤ 45 * l.length + 4 * (l.map manyN).sum := by
  induction l with
  | nil => simp
  | cons x l ih =>
    have h1 := numB_len x.1
    have h2 := flagB_len x.2.2
    have h3 := textsB_sum x.2.1
    have h4 : (noteB x).length = (numB x.1).length + (flagB x.2.2).length + (textsB x.2.1).length := by unfold noteB; simp only [List.length_append]
    have h5 : manyN x = x.2.1.length + sumS x.2.1 := rfl
    simp only [List.map_cons, List.flatten_cons, List.length_append, List.length_cons, List.sum_cons]
    omega
theorem size_len9 {s : Rs9} (h : sizeS s ≤ 900) : (resB s).length ≤ 900000 := by
  have a1 := numB_len s.1
  have a2 := numB_len s.2.1
  have a3 := primsB_sum s.2.2.1
  have a4 := rowB_sum s.2.2.2.1
  have a5 := textsB_sum s.2.2.2.2.1
  have a6 := notes_sum s.2.2.2.2.2
  have a7 := numB_len s.2.2.2.2.2.length
  rw [resB_len]
  unfold sizeS at h
  omega
theorem shortP_of {p : Pr9} (h : manyP p ≤ 100000) : ShortP p := by
  have h1 := fun s hs => sumS_mem (l := p.2.2.2.2.1) (s := s) hs
  have h2 := fun s hs => sumS_mem (l := p.2.2.2.2.2) (s := s) hs
  unfold manyP at h
  unfold ShortP FitP far9
  exact ⟨⟨by omega, by omega⟩, ⟨by omega, by omega⟩, fun x hx => by have := h1 x hx; omega, fun x hx => by have := h2 x hx; omega⟩
theorem size_short {s : Rs9} (h : sizeS s ≤ 900) : ShortS s := by
  have h1 := many3_len s.2.2.1
  have hp := fun p hp => manyP_mem (l := s.2.2.1) (p := p) hp
  have ht := fun x hx => sumS_mem (l := s.2.2.2.2.1) (s := x) hx
  have hn := fun n hn => manyN_mem (l := s.2.2.2.2.2) (n := n) hn
  unfold sizeS at h
  refine ⟨⟨by unfold far9; omega, fun p hp' => shortP_of (by have := hp p hp'; omega)⟩, by unfold far9; omega, ⟨by unfold far9; omega, fun x hx => by have := ht x hx; unfold far9; omega⟩, by unfold far9; omega, fun n hn' => ?_⟩
  have := hn n hn'
  have h4 := fun s hs => sumS_mem (l := n.2.1) (s := s) hs
  rw [show manyN n = n.2.1.length + sumS n.2.1 from rfl] at this
  unfold ShortN far9
  exact ⟨by omega, fun x hx => by have := h4 x hx; omega⟩
end Go.Proofs.YtlfehnnmpkohkaaGreatDoor
/- Chapter 16: what the law's own look at a request of nothing comes to. -/
namespace Go.Proofs.YtlfehnnmpkohkaaGreatDoor
open Go Go.Lib
def aA : ByteArray := ⟨#[97]⟩
def pA6 : Pr9 := (1, aA, ⟨#[]⟩, 0, [], [])
def sA : Rs9 := (3, 9, [], [4], [], [(2, [aA], false)])
theorem alive_b : sB (reqB (zeroQ 7)) = ⟨#[55, 59, 48, 59, 48, 59, 48, 58, 44, 48, 58, 44, 48, 59, 48, 59, 48, 59]⟩ := by decide +kernel
theorem alive_l : (reqB (zeroQ 7)).length = 18 := by decide +kernel
theorem right7 : RightQ (zeroQ 7) := by decide +kernel
theorem rightA : RightQ (0, 0, 0, ⟨#[]⟩, ⟨#[]⟩, [], [], [pA6]) := by decide +kernel
theorem right0 : ¬ RightQ (zeroQ 0) := by decide +kernel
theorem alive_p : parseP (reqB (zeroQ 7)) = some (zeroQ 7) := parse_enc right7 (by rw [alive_l]; decide)
theorem alive_x : parseP [120] = none := by
  unfold parseP
  rw [if_neg]
  rintro ⟨h, -⟩
  revert h
  decide +kernel
theorem limA : LimS sA := ⟨by decide, by decide, ⟨by decide, fun _ h => by cases h⟩, ⟨by decide, by decide⟩, ⟨by decide, fun _ h => by cases h⟩, by decide, fun n hn => by
  rw [List.mem_singleton.1 hn]
  exact ⟨by decide, by decide, fun s hs => by rw [List.mem_singleton.1 hs]; decide⟩⟩
theorem alive_rl : (resB sA).length = 24 := by decide +kernel
theorem alive_r : resP (resB sA) = some sA := by
  rw [res_same (by rw [alive_rl]; decide)]
  unfold resR
  have h := res_enc limA (fun _ h => by cases h) []
  rw [List.append_nil] at h
  rw [h, if_pos rfl]
end Go.Proofs.YtlfehnnmpkohkaaGreatDoor
/- Rows of bytes: append of a count of zeros to a row of one's own, a row that is made, a literal that is marked as a text's. -/
namespace Go.SL
open Go
theorem zeroCells_u8 (c : Nat) : (Builtin.zeroCells (Value.int .u8 0).cells c).toList = List.replicate c (Value.int .u8 0) := by
  have hz : (Value.int .u8 0).cells = #[.int .u8 0] := rfl
  unfold Builtin.zeroCells
  rw [hz]
  apply List.ext_getElem
  · simp
  · intro i h1 h2
    simp [Nat.mod_one]
theorem bytes_zero {w : World} {O : Perm} (c : Nat) : Rows eByte w O (List.replicate c (Value.int .u8 0)) (List.replicate c (0 : UInt8)) := by
  rw [eByte_rows, List.map_replicate]; rfl
section
variable {E : TypeId} {T : TypeId}
end
section
variable {K : Act → World → Prop} {X : Cx} {kk : List Item} {env : Env} {L L1 L2 : List A} {d : Nat} {T : TypeId} {pos : String} {af : Array Edge} {x y : Operand} {E : TypeId} {v : Value}
/-- make([]byte, n). -/
theorem s_makeBytes {t : TypeId} {nb n : Nat} {l c : Operand} (hu : X.P.underlying t = some (.slice E)) (hE : TI X.P E (.int .u8 0) 1 nb) (hl : env.eval l = some (.int .i64 (n : Nat))) (hc : env.eval c = some (.int .i64 (n : Nat))) (hb : nb * n ≤ 281474976710656) (hm : n ≤ maxLen) (hd : d < X.fn.ntmps)
    (k : ∀ v', Kont X ((d, v') :: env) (Own eByte E v' (List.replicate n 0) :: L) K) : StepK X kk ⟨some d, .makeSlice t l c, T, pos, af, none⟩ env L K := by
  refine s_main (γ := Value) (V := fun u => u) (pu := fun _ => True) (L' := fun v' => Own eByte E v' (List.replicate n 0) :: L) ?_ hd (fun u _ => k u)
  intro a w O ha hst hdom
  obtain ⟨ti, hi, hz0, hsz, hbt⟩ := hE
  have h63' : (n : Int) ≤ 9223372036854775807 := by simp only [maxLen] at hm; omega
  have hb' : (ti.bytes : Int) * (n : Int) ≤ 281474976710656 := by rw [hbt, ← Int.natCast_mul]; omega
  have hrun := run_make (P := X.P) w t E ti (.int .u8 0) hu hi hz0 .i64 .i64 n n (by omega) (Int.le_refl _) hb' h63'
  simp only [Int.toNat_natCast] at hrun
  have hmc : (madeCells (Value.int .u8 0).cells (n * ti.size)).toList = List.replicate n (Value.int .u8 0) := by
    rw [hsz, Nat.mul_one, ← zeroCells_u8]
    have : (Value.int .u8 0).cells = #[.int .u8 0] := rfl
    simp [madeCells, Builtin.zeroCells, this]
  refine ⟨.slice (some ⟨w.heap.size, 0, none⟩) n n, w.alloc (.cells (madeCells (Value.int .u8 0).cells (n * ti.size)) E), fresh w O, ?_, trivial, stars_alloc _ hdom hst ?_, rel_alloc _ hdom⟩
  · simp [execOp, ha.eval hl, ha.eval hc, hrun]
  · refine ⟨fun b => if b = w.heap.size then 2 else 0, fun _ => 0, List.replicate n (Value.int .u8 0), ⟨fun _ => Nat.le_refl _, fun _ => Nat.zero_le _, fun _ _ => rfl, fun _ h => by omega⟩, ⟨by rw [List.length_replicate, List.length_replicate]; exact (Nat.mul_one _).symm, .inr ⟨w.heap.size, n, _, by rw [List.length_replicate], Nat.zero_le _, heap_alloc w _, by rw [List.length_replicate]; exact Nat.le_refl _, hm, ?_, ?_⟩⟩, fun b hb => ?_, bytes_zero n⟩
    · have := congrArg List.length hmc
      rw [Array.length_toList, List.length_replicate] at this
      rw [this]; exact (Nat.mul_one _).symm
    · rw [hmc, List.length_replicate]
      exact List.take_of_length_le (by rw [List.length_replicate]; exact Nat.le_of_eq (Nat.mul_one _).symm)
    · simp only [Value.ownBlock, Option.some.injEq] at hb
      subst hb
      show 2 ≤ if w.heap.size = w.heap.size then 2 else 0
      rw [if_pos rfl]; exact Nat.le_refl _
/-- []byte("..") of a constant: the literal's row, marked. -/
theorem s_markBytes {t : TypeId} {zs : List UInt8} (hu : X.P.underlying t = some (.slice E)) (he : X.P.underlying E = some (.int .u8)) (hx : env.eval x = some v) (hp : Pick (Own eByte E v zs) L L1) (h0 : zs ≠ []) (hd : d < X.fn.ntmps)
    (k : Kont X ((d, v) :: env) (Sl eByte v zs :: L1) K) : StepK X kk ⟨some d, .convert t t x, T, pos, af, none⟩ env L K := by
  refine s_main (γ := Unit) (V := fun _ => v) (pu := fun _ => True) (L' := fun _ => Sl eByte v zs :: L1) ?_ hd (fun _ _ => k)
  intro a w O ha hst hdom
  obtain ⟨O1, O2, s, hO, hs2⟩ := hp w O hst
  obtain ⟨P1, P2, cs, t1, g1, g2, g3⟩ := id hO
  rcases g1.2 with ⟨-, h⟩ | ⟨g, cap, cur, rfl, hbg, hg, hnc, hcm, hcs, htake⟩
  · exact absurd (List.eq_nil_of_length_eq_zero h) h0
  have hb2 : 2 ≤ O1 g := Nat.le_trans (g2 g rfl) (t1.l g)
  have hglt : g < w.heap.size := by
    rcases Nat.lt_or_ge g w.heap.size with h | h
    · exact h
    · rw [Array.getElem?_eq_none h] at hg; cases hg
  obtain ⟨w', hw'⟩ : ∃ w', w' = w.freeze ⟨g, cur.size, none⟩ 1 := ⟨_, rfl⟩
  obtain ⟨f, hheap, hf⟩ : ∃ f : Obj → Obj, w'.heap = w.heap.modify g f ∧ f (.cells cur E (0, 0)) = .cells cur E (cur.size, cur.size + 1) := by
    have e : ∃ f : Obj → Obj, (w.freeze ⟨g, cur.size, none⟩ 1).heap = w.heap.modify g f ∧ f (.cells cur E (0, 0)) = .cells cur E (cur.size, cur.size + 1) := by
      unfold World.freeze
      rw [if_neg (by decide)]
      dsimp only
      exact ⟨_, rfl, rfl⟩
    rw [hw']; exact e
  have hget : w'.heap[g]? = some (.cells cur E (cur.size, cur.size + 1)) := by
    rw [hheap, Array.getElem?_modify, if_pos rfl, hg, Option.map_some, hf]
  have hoth : ∀ b, b ≠ g → w'.heap[b]? = w.heap[b]? := fun b hb => by rw [hheap, Array.getElem?_modify, if_neg (fun e => hb e.symm)]
  have hos : w'.os = w.os ∧ w'.tape = w.tape ∧ w'.output = w.output := by
    rw [hw']; unfold World.freeze; rw [if_neg (by decide)]; exact ⟨rfl, rfl, rfl⟩
  have hsz' : w'.heap.size = w.heap.size := by rw [hheap, Array.size_modify]
  have hrun : (convert t t (.slice (some ⟨g, 0, none⟩) zs.length cap)).run X.P w = .ok (.slice (some ⟨g, 0, none⟩) zs.length cap) w' := by
    have hsh : w.shape? g = some (E, cur.size) := by unfold World.shape?; rw [hg]
    simp [convert, run_underlying hu, run_underlying he, markStringish, hsh, hw']
  have hrel1 : Rel w O1 w' (fun b => min (O1 b) 1) := ⟨hos.1, hos.2.1, hos.2.2, by omega, fun b _ hlt => hoth b fun e => by subst e; omega, fun b _ => Nat.min_le_left _ _, fun b hb => by
    rw [hsz']
    exact hdom b (by have := s.l b; have hb' : min (O1 b) 1 ≠ 0 := hb; omega)⟩
  have hsl : (Sl eByte (.slice (some ⟨g, 0, none⟩) zs.length cap) zs).h w' (fun b => min (O1 b) 1) := by
    have hrows : cs = zs.map fun b => Value.int .u8 (b.toNat : Int) := by have := g3; rw [eByte_rows] at this; exact this
    refine ⟨some ⟨g, 0, none⟩, cap, rfl, hnc, hcm, .inr ⟨g, 0, cs, rfl, ?_, ?_, fun i u hi => ?_⟩⟩
    · show 1 ≤ min (O1 g) 1; omega
    · rw [eByte_rows]; exact hrows
    · have hil := cell_in hi
      rw [← htake, List.getElem?_take] at hi
      split at hi
      · rw [blk_cell hget]; simpa using hi
      · cases hi
  obtain ⟨P, hP, hrel⟩ := step_at hdom s hs2 hrel1 (L' := [Sl eByte (.slice (some ⟨g, 0, none⟩) zs.length cap) zs]) ⟨fun b => min (O1 b) 1, fun _ => 0, ⟨fun _ => Nat.le_refl _, fun _ => Nat.zero_le _, fun _ _ => rfl, fun _ h => by omega⟩, hsl, trivial⟩
  refine ⟨(), w', P, ?_, trivial, hP, hrel⟩
  simp [execOp, ha.eval hx, hrun]
end
section
variable {X : Cx} {ops : Array Oper} {kk : List Item} {env : Env} {L S : List A} {fuel : Nat} {listed : Array Bool}
end
end Go.SL
/- Chapter 16: alive. -/
namespace Go.Proofs.YtlfehnnmpkohkaaGreatDoor
open Go Go.SL Go.Lib
theorem own_sl {α : Type} {e : Enc α} {T : TypeId} {v : Value} {xs : List α} : Ent [Own e T v xs] [Sl e v xs] := fun w O hs => by
  obtain ⟨O1, O2, s, h1, _⟩ := hs
  exact ⟨O1, fun _ => 0, ⟨fun b => s.l b, fun _ => Nat.zero_le _, fun _ _ => rfl, fun _ h => absurd h (by simp)⟩, Own.sl h1, trivial⟩
theorem i64_0 : I64 0 := ⟨by decide, by decide⟩
theorem cntQ (k : Int) (h : I64 k) : CountQ (zeroQ k) := ⟨h, i64_0, i64_0, ⟨Nat.zero_le _, fun _ h => by cases h⟩, Nat.zero_le _, Nat.zero_le _, fun _ h => by cases h⟩
theorem cntA : CountS sA := ⟨⟨by decide, by decide⟩, ⟨by decide, by decide⟩, ⟨by decide, fun _ h => by cases h⟩, ⟨by decide, fun n hn => by rw [List.mem_singleton.1 hn]; exact ⟨by decide, by decide⟩⟩, by decide, by decide, fun n hn => by
  rw [List.mem_singleton.1 hn]
  exact ⟨⟨by decide, by decide⟩, by decide⟩⟩
theorem sizeA : SizeS sA := ⟨⟨by decide, fun _ h => by cases h⟩, by decide, by decide, by decide, fun n hn => by rw [List.mem_singleton.1 hn]; decide⟩
theorem fineA : FineQ (0, 0, 0, ⟨#[]⟩, ⟨#[]⟩, [], [], [pA6]) := ⟨by decide, by decide, by decide, ⟨by decide, fun _ h => by cases h⟩, by decide, fun p hp => by
  rw [List.mem_singleton.1 hp]
  exact ⟨by decide, by decide, ⟨by decide, fun _ h => by cases h⟩, by decide, fun _ h => by cases h⟩⟩
theorem fine0 (k : Int) : FineQ (zeroQ k) := ⟨Nat.zero_le _, Nat.zero_le _, Nat.zero_le _, ⟨Nat.zero_le _, fun _ h => by cases h⟩, Nat.zero_le _, fun _ h => by cases h⟩
attribute [local irreducible] Cfg Kont StepK Val Con Qops Any Sl Own Blk BlkR Rd Pu ExA AllA Has Pick Ent Elem Beside Callable TI Lone OwnO AndA
set_option maxHeartbeats 2000000 in
set_option maxRecDepth 100000 in
theorem alive_con (te : TypeId) (pe : Value) : Con Tryz.prog 11 [] [G1 te pe, G3] (γ := Unit) (fun _ => .bool true) (fun _ => True) (fun _ => []) := by
  have c1 := pack_con (zeroQ 7) (.slice none 0 0) (.slice none 0 0) (.slice none 0 0) (cntQ 7 ⟨by decide, by decide⟩) (by rw [alive_l]; decide)
  have c2 := fun v => unpack_con v (reqB (zeroQ 7)) (by rw [alive_l]; decide) te pe
  have q2 : unpackQ (reqB (zeroQ 7)) = zeroQ 7 := by unfold unpackQ unpackP; rw [if_neg (by rw [alive_l]; decide), alive_p]; rfl
  have e2 : unpackE (reqB (zeroQ 7)) = .int .i64 0 := by unfold unpackE; rw [if_neg (by rw [alive_l]; decide), alive_p]; rfl
  rw [q2, e2] at c2
  have c3 := fun v => unpack_con v [120] (by decide) te pe
  have q3 : unpackQ [120] = zeroQ 0 := by unfold unpackQ unpackP; rw [if_neg (by decide), alive_x]; rfl
  have e3 : unpackE [120] = .int .i64 160 := by unfold unpackE; rw [if_neg (by decide), alive_x]; rfl
  rw [q3, e3] at c3
  have hz : (List.replicate 3001 (0 : UInt8)).length = 3001 := List.length_replicate
  have c4 := fun v => unpack_con v (List.replicate 3001 0) (by rw [hz]; decide) te pe
  have q4 : unpackQ (List.replicate 3001 0) = zeroQ 0 := by unfold unpackQ unpackP; rw [if_pos (by rw [hz]; decide)]; rfl
  have e4 : unpackE (List.replicate 3001 0) = .int .i64 161 := by unfold unpackE; rw [if_pos (by rw [hz]; decide)]
  rw [q4, e4] at c4
  have c5 := fun i n => packRes_con sA (.slice none 0 0) i (.slice none 0 0) n cntA (by rw [alive_rl]; decide)
  have c6 := fun v => unpackRes_con v (resB sA) (by rw [alive_rl]; decide) te pe
  have q6 : resQ (resB sA) = sA := by unfold resQ; rw [alive_r]; rfl
  have e6 : errV 160 (resP (resB sA)).isSome = .int .i64 0 := by rw [alive_r]; rfl
  rw [q6, e6] at c6
  have c7 := fun l i t n i' n' => sameRes_con sA sA l i t n (.slice none 0 0) i' (.slice none 0 0) n' sizeA sizeA
  have c8 := fun l => reqRight_con (0, 0, 0, ⟨#[]⟩, ⟨#[]⟩, [], [], [pA6]) (.slice none 0 0) (.slice none 0 0) l fineA
  have c9 := reqRight_con (zeroQ 0) (.slice none 0 0) (.slice none 0 0) (.slice none 0 0) (fine0 0)
  have cA := fun d f l => sameReq_con (zeroQ 7) (zeroQ 7) d f l (.slice none 0 0) (.slice none 0 0) (.slice none 0 0) (zeroQ_size 7) (zeroQ_size 7)
  rw [decide_eq_true rightA] at c8
  rw [decide_eq_false right0] at c9
  have hb := alive_b
  generalize reqB (zeroQ 7) = bq at c1 c2 hb
  generalize resB sA = br at c5 c6
  unfold sA aA at c5 c6 c7
  unfold pA6 aA at c8
  dsimp only [rqC, rsC] at c1 c2 c3 c4 c5 c6 c7 c8 c9 cA
  refine con_of Tryz.func11 rfl (dd rfl) fun w0 O0 => ?_
  refine c_seq (c_region ?_)
  refine oV vA ?_
  refine o_nil (c_seq (c_region ?_))
  refine oV (v_buildS (places := [(0, 1), (1, 1), (2, 1), (3, 1), (4, 1), (5, 1), (6, 1), (7, 1)]) (cells := [_, .int .i64 0, .int .i64 0, .string ⟨#[]⟩, .string ⟨#[]⟩, .slice none 0 0, .slice none 0 0, .slice none 0 0]) Tryz.underlying32 ti32 (by kernel_rfl) rfl (by repeat (first | exact PartsC.nil | (apply PartsC.one (by first | exact OneC.lit rfl | exact OneC.sl (hX (by repeat constructor)) )) | (apply PartsC.lit rfl))) rfl) ?_
  refine oC cl18 (c1) fun v1 _ => ?_
  refine oV vA ?_
  refine o_nil (c_seq (c_region ?_))
  refine oV vM ?_
  refine o_mk (own_sl (e := eByte) (v := v1)) (pXs (by repeat constructor)) ?_
  refine oC cl20 (c2 v1) fun g2 _ => ?_
  refine oV vM ?_
  refine oV vE ?_
  refine oV vE ?_
  refine o_step (s_alloc ti32 (dd rfl) (fun b2 => ?_))
  refine o_step (s_store_all ti32 rfl rfl (by first | exact CellsV.lit rfl | exact CellsV.one (by first | exact OneC.lit rfl | exact OneC.sl (hX (by repeat constructor)) )) (by repeat (first | exact OneAll.nil | (refine OneAll.cons ?_ ?_; · first | exact OneC.lit rfl | exact OneC.sl (hX (by repeat constructor)) ) | exact OneAll.rd (hX (by repeat constructor)))) rfl (pB (by repeat constructor)) rfl (?_))
  refine oV vA ?_
  refine o_nil (c_seq (c_region ?_))
  refine o_step (s_buildSlice Tryz.underlying38 ti5 rfl rfl rfl (by decide) (by decide) (beside_byte [120]) rfl rfl (dd rfl) fun v3 => ?_)
  refine o_step (s_markBytes Tryz.underlying38 Tryz.underlying5 rfl (pX (by repeat constructor)) (by decide) (dd rfl) ?_)
  refine oC cl20 (c3 v3) fun g3 _ => ?_
  refine oV vM ?_
  refine oV vE ?_
  refine oV vE ?_
  refine o_step (s_alloc ti32 (dd rfl) (fun b4 => ?_))
  refine o_step (s_store_all ti32 rfl rfl (by first | exact CellsV.lit rfl | exact CellsV.one (by first | exact OneC.lit rfl | exact OneC.sl (hX (by repeat constructor)) )) (by repeat (first | exact OneAll.nil | (refine OneAll.cons ?_ ?_; · first | exact OneC.lit rfl | exact OneC.sl (hX (by repeat constructor)) ) | exact OneAll.rd (hX (by repeat constructor)))) rfl (pB (by repeat constructor)) rfl (?_))
  refine oV vA ?_
  refine o_nil (c_seq (c_region ?_))
  refine o_step (s_makeBytes (n := 3001) Tryz.underlying38 ti5 rfl rfl (by decide) (by decide) (dd rfl) fun v4 => ?_)
  refine oC cl20 (c4 v4) fun g4 _ => ?_
  refine oV vM ?_
  refine oV vE ?_
  refine oV vE ?_
  refine o_step (s_alloc ti32 (dd rfl) (fun b6 => ?_))
  refine o_step (s_store_all ti32 rfl rfl (by first | exact CellsV.lit rfl | exact CellsV.one (by first | exact OneC.lit rfl | exact OneC.sl (hX (by repeat constructor)) )) (by repeat (first | exact OneAll.nil | (refine OneAll.cons ?_ ?_; · first | exact OneC.lit rfl | exact OneC.sl (hX (by repeat constructor)) ) | exact OneAll.rd (hX (by repeat constructor)))) rfl (pB (by repeat constructor)) rfl (?_))
  refine oV vA ?_
  refine o_nil (c_seq (c_region ?_))
  refine o_step (s_buildSlice Tryz.underlying22 ti3 rfl rfl rfl (by decide) (by decide) (beside_int .i64 [4]) rfl rfl (dd rfl) fun w1 => ?_)
  refine o_mk (own_sl (e := eInt .i64) (v := w1)) (pXs (by repeat constructor)) ?_
  refine o_step (s_buildSlice Tryz.underlying23 ti9 rfl rfl rfl (by decide) (by decide) (beside_str [⟨#[97]⟩]) rfl rfl (dd rfl) fun w2 => ?_)
  refine oV (v_buildS (places := [(0, 1), (1, 1), (2, 1)]) (cells := [_, _, .bool false]) Tryz.underlying72 ti72 (by kernel_rfl) rfl (by repeat (first | exact PartsC.nil | (apply PartsC.one (by first | exact OneC.lit rfl | exact OneC.sl (hX (by repeat constructor)) )) | (apply PartsC.lit rfl))) rfl) ?_
  refine o_mk (own_sl (e := eStr) (v := w2)) (pXs (by repeat constructor)) ?_
  refine o_step (s_buildSlice Tryz.underlying53 ti72 rfl rfl rfl (by decide) (by decide) (beside_agg1 (beside_of (Lp := [Sl eStr w2 [⟨#[97]⟩]]) (pXs (by repeat constructor)) fun w O => nt_rd w O)) rfl rfl (dd rfl) fun w3 => ?_)
  refine oV (v_buildS (places := [(0, 1), (1, 1), (2, 1), (3, 1), (4, 1), (5, 1)]) (cells := [_, _, .slice none 0 0, _, .slice none 0 0, _]) Tryz.underlying55 ti55 (by kernel_rfl) rfl (by repeat (first | exact PartsC.nil | (apply PartsC.one (by first | exact OneC.lit rfl | exact OneC.sl (hX (by repeat constructor)) )) | (apply PartsC.lit rfl))) rfl) ?_
  refine o_step (s_alloc ti55 (dd rfl) (fun b8 => ?_))
  refine o_step (s_store_all ti55 rfl rfl (by first | exact CellsV.lit rfl | exact CellsV.one (by first | exact OneC.lit rfl | exact OneC.sl (hX (by repeat constructor)) )) (by repeat (first | exact OneAll.nil | (refine OneAll.cons ?_ ?_; · first | exact OneC.lit rfl | exact OneC.sl (hX (by repeat constructor)) ) | exact OneAll.rd (hX (by repeat constructor)))) rfl (pB (by repeat constructor)) rfl (?_))
  refine o_nil (c_seq (c_region ?_))
  refine oV (vW Tryz.underlying55 ti55) ?_
  refine o_mk (own_sl (e := eNt) (v := w3)) (pXs (by repeat constructor)) ?_
  refine oC cl26 (c5 w1 w3) fun u1 _ => ?_
  refine oC cl30 (c6 u1) fun g6 _ => ?_
  refine oV vM ?_
  refine oV vE ?_
  refine oV vE ?_
  refine o_step (s_alloc ti55 (dd rfl) (fun b9 => ?_))
  refine o_step (s_store_all ti55 rfl rfl (by first | exact CellsV.lit rfl | exact CellsV.one (by first | exact OneC.lit rfl | exact OneC.sl (hX (by repeat constructor)) )) (by repeat (first | exact OneAll.nil | (refine OneAll.cons ?_ ?_; · first | exact OneC.lit rfl | exact OneC.sl (hX (by repeat constructor)) ) | exact OneAll.rd (hX (by repeat constructor)))) rfl (pB (by repeat constructor)) rfl (?_))
  refine oV vA ?_
  refine o_nil (c_seq (c_region ?_))
  refine oV vM ?_
  refine oV (v_conv_bytes Tryz.underlying38 Tryz.underlying5 Tryz.underlying9 rfl (hX (by repeat constructor))) ?_
  refine oV (v_seq rfl rfl) ?_
  refine oV vM ?_
  refine o_guard rfl rfl (fun _ => ?_) (fun h_ => absurd ((show _ = true from decide_eq_true hb).symm.trans h_) (by decide))
  refine oV vM ?_
  refine oN ?_
  refine oV (v_eq rfl rfl) ?_
  refine oV vT ?_
  refine oV vM ?_
  refine o_guard rfl rfl (fun _ => ?_) (fun h_ => absurd ((show _ = true from rfl).symm.trans h_) (by decide))
  refine oV (vF 0 Tryz.underlying32 ti3) ?_
  refine oN ?_
  refine oV (vL lone3) ?_
  refine oN ?_
  refine oV (v_eq rfl rfl) ?_
  refine oV vT ?_
  refine oV vM ?_
  refine o_guard rfl rfl (fun _ => ?_) (fun h_ => absurd ((show _ = true from rfl).symm.trans h_) (by decide))
  refine oV vM ?_
  refine oN ?_
  refine oV (v_eq rfl rfl) ?_
  refine oV vT ?_
  refine oV vM ?_
  refine o_guard rfl rfl (fun _ => ?_) (fun h_ => absurd ((show _ = true from rfl).symm.trans h_) (by decide))
  refine oV vM ?_
  refine oN ?_
  refine oV (v_eq rfl rfl) ?_
  refine oV vT ?_
  refine oV vM ?_
  refine o_guard rfl rfl (fun _ => ?_) (fun h_ => absurd ((show _ = true from rfl).symm.trans h_) (by decide))
  refine oV vM ?_
  refine oN ?_
  refine oV (v_eq rfl rfl) ?_
  refine oV vT ?_
  refine oV vM ?_
  refine o_guard rfl rfl (fun _ => ?_) (fun h_ => absurd ((show _ = true from rfl).symm.trans h_) (by decide))
  refine oV (vW Tryz.underlying55 ti55) ?_
  refine oN ?_
  refine oV (vW Tryz.underlying55 ti55) ?_
  refine oN ?_
  refine oC cl34 (c7 g6.1 g6.2.1 g6.2.2.1 g6.2.2.2 w1 w3) fun _ _ => ?_
  refine oV vT ?_
  refine oV vM ?_
  refine o_guard rfl rfl (fun _ => ?_) (fun h_ => absurd ((show _ = true from decide_eq_true rfl).symm.trans h_) (by decide))
  refine oV (v_buildS (places := [(0, 1), (1, 1), (2, 1), (3, 1), (4, 1), (5, 1)]) (cells := [_, _, .string ⟨#[]⟩, .int .i64 0, .slice none 0 0, .slice none 0 0]) Tryz.underlying74 ti74 (by kernel_rfl) rfl (by repeat (first | exact PartsC.nil | (apply PartsC.one (by first | exact OneC.lit rfl | exact OneC.sl (hX (by repeat constructor)) )) | (apply PartsC.lit rfl))) rfl) ?_
  refine oN ?_
  refine o_step (s_buildSlice Tryz.underlying30 ti74 rfl rfl rfl (by decide) (by decide) (beside_agg1 (beside_of (Lp := [Sl eStr (.slice none 0 0) [], Sl eStr (.slice none 0 0) []]) (pXs (by repeat constructor)) fun w O => pr_close (z := (1, ⟨#[97]⟩, ⟨#[]⟩, 0, [], [])) w O)) rfl rfl (dd rfl) fun w4 => ?_)
  refine oN ?_
  refine oV (v_buildS (places := [(0, 1), (1, 1), (2, 1), (3, 1), (4, 1), (5, 1), (6, 1), (7, 1)]) (cells := [_, .int .i64 0, .int .i64 0, .string ⟨#[]⟩, .string ⟨#[]⟩, .slice none 0 0, .slice none 0 0, _]) Tryz.underlying32 ti32 (by kernel_rfl) rfl (by repeat (first | exact PartsC.nil | (apply PartsC.one (by first | exact OneC.lit rfl | exact OneC.sl (hX (by repeat constructor)) )) | (apply PartsC.lit rfl))) rfl) ?_
  refine oN ?_
  refine oC cl12 (c8 w4) fun _ _ => ?_
  refine oV vT ?_
  refine oV vM ?_
  refine o_guard rfl rfl (fun _ => ?_) (fun h_ => absurd ((show _ = true from rfl).symm.trans h_) (by decide))
  refine oV (v_buildS (places := [(0, 1), (1, 1), (2, 1), (3, 1), (4, 1), (5, 1), (6, 1), (7, 1)]) (cells := [_, .int .i64 0, .int .i64 0, .string ⟨#[]⟩, .string ⟨#[]⟩, .slice none 0 0, .slice none 0 0, .slice none 0 0]) Tryz.underlying32 ti32 (by kernel_rfl) rfl (by repeat (first | exact PartsC.nil | (apply PartsC.one (by first | exact OneC.lit rfl | exact OneC.sl (hX (by repeat constructor)) )) | (apply PartsC.lit rfl))) rfl) ?_
  refine oN ?_
  refine oC cl12 (c9) fun _ _ => ?_
  refine oN ?_
  refine oV (v_not rfl) ?_
  refine oV vT ?_
  refine oV vM ?_
  refine o_guard rfl rfl (fun _ => ?_) (fun h_ => absurd ((show _ = true from rfl).symm.trans h_) (by decide))
  refine o_step (s_callf_keep cl17 (writes6_con 6) rfl (dd rfl) (rX (by repeat constructor)) (fun _ => sX) (fun _ _ => ?_))
  refine oV vT ?_
  refine oV vM ?_
  refine o_guard rfl rfl (fun _ => ?_) (fun h_ => absurd ((show _ = true from decide_eq_true (by decide)).symm.trans h_) (by decide))
  refine o_step (s_callf_keep cl17 (writes6_con 7) rfl (dd rfl) (rX (by repeat constructor)) (fun _ => sX) (fun _ _ => ?_))
  refine oN ?_
  refine oV (v_not rfl) ?_
  refine oV vT ?_
  refine oV vM ?_
  refine o_guard rfl rfl (fun _ => ?_) (fun h_ => absurd ((show _ = true from (by rw [decide_eq_false (by decide)]; rfl)).symm.trans h_) (by decide))
  refine oV (vW Tryz.underlying32 ti32) ?_
  refine oN ?_
  refine oV (v_buildS (places := [(0, 1), (1, 1), (2, 1), (3, 1), (4, 1), (5, 1), (6, 1), (7, 1)]) (cells := [_, .int .i64 0, .int .i64 0, .string ⟨#[]⟩, .string ⟨#[]⟩, .slice none 0 0, .slice none 0 0, .slice none 0 0]) Tryz.underlying32 ti32 (by kernel_rfl) rfl (by repeat (first | exact PartsC.nil | (apply PartsC.one (by first | exact OneC.lit rfl | exact OneC.sl (hX (by repeat constructor)) )) | (apply PartsC.lit rfl))) rfl) ?_
  refine oN ?_
  refine oC cl15 (cA g2.1 g2.2.1 g2.2.2) fun _ _ => ?_
  refine oV vT ?_
  refine oV vA ?_
  refine o_nil ?_
  refine c_ret1 Tryz.func11 rfl rfl fun w O hS => ?_
  exact ⟨(), congrArg Value.bool (decide_eq_true rfl), trivial, trivial⟩
end Go.Proofs.YtlfehnnmpkohkaaGreatDoor
/- Chapter 16: ReqUnpacks. -/
namespace Go.Proofs.YtlfehnnmpkohkaaGreatDoor
open Go Go.SL Go.Lib
attribute [local irreducible] Cfg Kont StepK Val Con Qops Any Sl Own Blk BlkR Rd Pu ExA AllA Has Pick Ent Elem Beside Callable TI Lone OwnO AndA
end Go.Proofs.YtlfehnnmpkohkaaGreatDoor
/- Chapter 16: ReqLimits, ReqParses. -/
namespace Go.Proofs.YtlfehnnmpkohkaaGreatDoor
open Go Go.SL Go.Lib
theorem cntS : CountS zeroS := ⟨i64_0, i64_0, ⟨Nat.zero_le _, fun _ h => by cases h⟩, ⟨Nat.zero_le _, fun _ h => by cases h⟩, Nat.zero_le _, Nat.zero_le _, fun _ h => by cases h⟩
theorem sizeS0 : SizeS zeroS := ⟨⟨Nat.zero_le _, fun _ h => by cases h⟩, Nat.zero_le _, Nat.zero_le _, Nat.zero_le _, fun _ h => by cases h⟩
theorem zeroS_l : (resB zeroS).length = 12 := by decide +kernel
theorem resQ_size {l : List UInt8} (hl : l.length ≤ big9) : SizeS (resQ l) ∧ CountS (resQ l) ∧ (resB (resQ l)).length ≤ 10000000000 := by
  obtain ⟨h1, h2, h3⟩ := rs_raw (s := (l, false)) hl
  unfold resQ resP
  split
  · exact ⟨h1, h2, h3⟩
  · exact ⟨sizeS0, cntS, by show (resB zeroS).length ≤ _; rw [zeroS_l]; decide⟩
theorem sameRef_s {l : List UInt8} (hl : l.length ≤ big9) : resQR l = resQ l ∧ (resR l).isSome = (resP l).isSome := by
  have h := res_same hl
  exact ⟨by unfold resQR resQ; rw [h], by rw [h]⟩
attribute [local irreducible] Cfg Kont StepK Val Con Qops Any Sl Own Blk BlkR Rd Pu ExA AllA Has Pick Ent Elem Beside Callable TI Lone OwnO AndA
end Go.Proofs.YtlfehnnmpkohkaaGreatDoor
/- Chapter 16: ReqRight, ReqPacks. -/
namespace Go.Proofs.YtlfehnnmpkohkaaGreatDoor
open Go Go.SL Go.Lib
attribute [local irreducible] Cfg Kont StepK Val Con Qops Any Sl Own Blk BlkR Rd Pu ExA AllA Has Pick Ent Elem Beside Callable TI Lone OwnO AndA
end Go.Proofs.YtlfehnnmpkohkaaGreatDoor
/- Chapter 16: ReqAnswers, ReqAlike. -/
namespace Go.Proofs.YtlfehnnmpkohkaaGreatDoor
open Go Go.SL Go.Lib
attribute [local irreducible] Cfg Kont StepK Val Con Qops Any Sl Own Blk BlkR Rd Pu ExA AllA Has Pick Ent Elem Beside Callable TI Lone OwnO AndA
set_option maxHeartbeats 2000000 in
set_option maxRecDepth 100000 in
theorem lawAnswers_con (s : Rs9) (l i t n : Value) (hs : sizeS s ≤ 1000000000) (hi : IntsS s) (te : TypeId) (pe : Value) : Con Tryz.prog 6 [.agg (rsC s l i t n).toArray] (rsL s l i t n ++ [G1 te pe, G3]) (γ := Unit) (fun _ => .bool true) (fun _ => True) (fun _ => []) := by
  have hal := alive_con te pe
  have m1 := sizeS_con s l i t n hs
  dsimp only [rsC, rsL, List.cons_append, List.nil_append] at m1 ⊢
  refine con_of Tryz.func6 rfl (dd rfl) fun w0 O0 => ?_
  refine c_seq (c_region ?_)
  refine o_step (s_box rfl (dd rfl) (fun b1 => ?_))
  refine oV vA ?_
  refine o_nil (c_seq (c_seq (c_region ?_)))
  refine oV (vW Tryz.underlying50 ti50) ?_
  refine o_step (s_callf_keep cl25 (m1) rfl (dd rfl) (rX (by repeat constructor)) (fun _ => sX) (fun _ _ => ?_))
  refine oV (v_gt rfl rfl) ?_
  refine o_nil ?_
  refine c_cond_p rfl (fun h2 => ?_) (fun h2 => ?_)
  · refine c_seq (c_region ?_)
    refine oC cl11 (hal) fun _ _ => ?_
    refine oV vA ?_
    refine o_nil ?_
    refine c_ret1 Tryz.func6 rfl rfl fun w O hS => ?_
    exact ⟨(), rfl, trivial, trivial⟩
  · have hm : sizeS s ≤ 900 := by omega
    obtain ⟨fs, zs⟩ := size_parts hm (by decide)
    have hc := size_count hm hi
    have hsh := size_short hm
    have h9 := size_len9 hm
    have hl9 : (resB s).length ≤ big9 := by unfold big9; omega
    have n1 := newS_con s l i t n zs.1.1 zs.2.2.2.1
    have p1 := fun l n => packRes_con s l i t n hc (by omega)
    have p2 := packResRef_con s l i t n fs
    have f1 := far_con s l i t n zs.2.1 zs.2.2.2.1
    obtain ⟨r1, r2⟩ := sameRef_s hl9
    obtain ⟨zw, -, -⟩ := resQ_size hl9
    have u1 := fun v => unpackRes_con v (resB s) hl9 te pe
    have u2 := unpackResRef_con (sB (resB s)) (resB s) rfl hl9
    rw [r1, r2] at u2
    have hx : (if (resP (resB s)).isSome then (0 : Int) else 160) = 0 → resQ (resB s) ≠ s → farS s = true := fun h hne => by
      split at h
      · rename_i h4
        obtain ⟨w, hw⟩ := Option.isSome_iff_exists.1 h4
        have e : resQ (resB s) = w := by unfold resQ; rw [hw]; rfl
        rw [e] at hne
        rw [res_same hl9] at hw
        cases hf : farS s with
        | true => rfl
        | false => exact absurd (res_exact hsh hf hw) hne
      · cases h
    unfold errV at u1 u2
    generalize (if (resP (resB s)).isSome then (0 : Int) else 160) = e at u1 u2 hx
    have hz := sB_size (resB s)
    generalize resQ (resB s) = w at u1 u2 zw hx
    generalize resB s = bs at p1 p2 u1 u2 h9 hz
    have o1 := fun l i t n => oldS_con w l i t n zw.1.1 zw.2.2.2.1
    have s1 := fun l i t n l' i' t' n' => sameResR_con w w l i t n l' i' t' n' zw zw
    have s2 := fun l' i' t' n' => sameResR_con w s l' i' t' n' l i t n zw zs
    dsimp only [rsC] at n1 p1 p2 u1 u2 o1 f1
    refine c_skip (c_seq (c_region ?_))
    refine oV (vW Tryz.underlying50 ti50) ?_
    refine oC cl27 (n1) fun ra _ => ?_
    refine oC cl26 (p1 ra.1 ra.2) fun v1 _ => ?_
    refine oV vA ?_
    refine o_nil (c_seq (c_seq ?_))
    refine c_mk (own_sl (e := eByte) (v := v1)) (pXs (by repeat constructor)) ?_
    refine c_held [Sl eByte v1 bs, BlkR b1 50 [.int .i64 s.1, .int .i64 s.2.1, l, i, t, n]] rfl ?_
    refine aT 0 rfl vM ?_
    refine aT 2 rfl (vW Tryz.underlying50 ti50) ?_
    refine aT 1 rfl (v_conv_bytes Tryz.underlying38 Tryz.underlying5 Tryz.underlying9 rfl (hX (by repeat constructor))) ?_
    refine aO 3 rfl (s_callf_keep cl28 (p2) rfl (dd rfl) (rX (by repeat constructor)) (fun _ => sX) (fun _ _ => aK ?_))
    refine aT 4 rfl (v_sne rfl rfl) ?_
    refine a_done (by kernel_rfl) ?_ _
    refine c_cond_p rfl (fun hne => ?_) (fun hne => ?_)
    · skip
      exact absurd rfl hne
    · skip
      refine c_skip (c_seq (c_region ?_))
      refine oV vM ?_
      refine oV (v_conv_bytes Tryz.underlying38 Tryz.underlying5 Tryz.underlying9 rfl (hX (by repeat constructor))) ?_
      refine oC cl29 (u2) fun g2 _ => ?_
      refine oV vM ?_
      refine oV vE ?_
      refine oV vE ?_
      refine o_step (s_alloc ti50 (dd rfl) (fun b4 => ?_))
      refine o_step (s_store_all ti50 rfl rfl (by first | exact CellsV.lit rfl | exact CellsV.one (by first | exact OneC.lit rfl | exact OneC.sl (hX (by repeat constructor)) )) (by repeat (first | exact OneAll.nil | (refine OneAll.cons ?_ ?_; · first | exact OneC.lit rfl | exact OneC.sl (hX (by repeat constructor)) ) | exact OneAll.rd (hX (by repeat constructor)))) rfl (pB (by repeat constructor)) rfl (?_))
      refine oV vA ?_
      refine o_nil (c_seq (c_region ?_))
      refine oV vM ?_
      refine oC cl30 (u1 v1) fun g1 _ => ?_
      refine oV vM ?_
      refine oV vE ?_
      refine oV vE ?_
      refine o_step (s_alloc ti55 (dd rfl) (fun b6 => ?_))
      refine o_step (s_store_all ti55 rfl rfl (by first | exact CellsV.lit rfl | exact CellsV.one (by first | exact OneC.lit rfl | exact OneC.sl (hX (by repeat constructor)) )) (by repeat (first | exact OneAll.nil | (refine OneAll.cons ?_ ?_; · first | exact OneC.lit rfl | exact OneC.sl (hX (by repeat constructor)) ) | exact OneAll.rd (hX (by repeat constructor)))) rfl (pB (by repeat constructor)) rfl (?_))
      refine oV vA ?_
      refine o_nil (c_seq ?_)
      by_cases he0 : e = 0
      · skip
        refine c_held [BlkR b1 50 [.int .i64 s.1, .int .i64 s.2.1, l, i, t, n], BlkR b4 50 [.int .i64 w.1, .int .i64 w.2.1, g2.1, g2.2.1, g2.2.2.1, g2.2.2.2], BlkR b6 55 [.int .i64 w.1, .int .i64 w.2.1, g1.1, g1.2.1, g1.2.2.1, g1.2.2.2]] rfl ?_
        refine aO 0 rfl (s_callf_keep cl11 (hal) rfl (dd rfl) (rX (by repeat constructor)) (fun _ => sX) (fun _ _ => aK ?_))
        refine aT 1 rfl vM ?_
        refine a_know (s := 32) rfl (show _ = Value.bool true from rfl) ?_
        refine aN 2 rfl vM ?_
        refine aN 3 rfl vM ?_
        refine aN 4 rfl (v_eq rfl rfl) ?_
        refine aT 5 rfl vT ?_
        refine aT 6 rfl vM ?_
        refine a_know (s := 37) rfl (show _ = Value.bool true from (congrArg Value.bool (decide_eq_true rfl))) ?_
        refine aN 7 rfl (vW Tryz.underlying55 ti55) ?_
        refine aN 9 rfl (vW Tryz.underlying50 ti50) ?_
        refine aP 8 rfl (s_callf cl32 (o1 g1.1 g1.2.1 g1.2.2.1 g1.2.2.2) rfl (dd rfl) (pXs (by repeat constructor)) (fun r8 _ => aK ?_))
        refine aP 10 rfl (s_callf cl31 (s1 r8.1 g1.2.1 g1.2.2.1 r8.2 g2.1 g2.2.1 g2.2.2.1 g2.2.2.2) rfl (dd rfl) (pXs (by repeat constructor)) (fun _ _ => aK ?_))
        refine aT 11 rfl vT ?_
        refine aT 12 rfl vM ?_
        refine a_know (s := 43) rfl (show _ = Value.bool true from (congrArg Value.bool (decide_eq_true rfl))) ?_
        refine aN 13 rfl vM ?_
        refine aN 14 rfl (v_ne rfl rfl) ?_
        refine aN 15 rfl vM ?_
        refine a_know (s := 46) rfl (show _ = Value.bool false from (congrArg Value.bool (decide_eq_false (fun h => h he0)))) ?_
        refine aN 16 rfl (vW Tryz.underlying50 ti50) ?_
        refine aN 17 rfl (vW Tryz.underlying50 ti50) ?_
        refine aP 18 rfl (s_callf cl31 (s2 g2.1 g2.2.1 g2.2.2.1 g2.2.2.2) rfl (dd rfl) (pXs (by repeat constructor)) (fun _ _ => aK ?_))
        refine aN 19 rfl vQ ?_
        refine aN 20 rfl vM ?_
        by_cases hw : w = s
        · skip
          refine a_know (s := 51) rfl (show _ = Value.bool true from (congrArg Value.bool (decide_eq_true hw))) ?_
          refine aX 21 rfl ?_
          refine aX 22 rfl ?_
          refine aN 23 rfl vT ?_
          refine aT 24 rfl vT ?_
          refine aT 25 rfl vA ?_
          refine a_done (by kernel_rfl) ?_ _
          refine c_ret1 Tryz.func6 rfl rfl fun w O hS => ?_
          exact ⟨(), rfl, trivial, trivial⟩
        · rw [hx he0 hw] at f1
          refine a_know (s := 51) rfl (show _ = Value.bool false from (congrArg Value.bool (decide_eq_false hw))) ?_
          refine aN 21 rfl (vW Tryz.underlying50 ti50) ?_
          refine aP 22 rfl (s_callf cl33 (f1) rfl (dd rfl) (pXs (by repeat constructor)) (fun _ _ => aK ?_))
          refine aN 23 rfl vQ ?_
          refine aT 24 rfl vT ?_
          refine aT 25 rfl vA ?_
          refine a_done (by kernel_rfl) ?_ _
          refine c_ret1 Tryz.func6 rfl rfl fun w O hS => ?_
          exact ⟨(), rfl, trivial, trivial⟩
      · skip
        refine c_held [BlkR b1 50 [.int .i64 s.1, .int .i64 s.2.1, l, i, t, n], BlkR b4 50 [.int .i64 w.1, .int .i64 w.2.1, g2.1, g2.2.1, g2.2.2.1, g2.2.2.2], BlkR b6 55 [.int .i64 w.1, .int .i64 w.2.1, g1.1, g1.2.1, g1.2.2.1, g1.2.2.2]] rfl ?_
        refine aO 0 rfl (s_callf_keep cl11 (hal) rfl (dd rfl) (rX (by repeat constructor)) (fun _ => sX) (fun _ _ => aK ?_))
        refine aT 1 rfl vM ?_
        refine a_know (s := 32) rfl (show _ = Value.bool true from rfl) ?_
        refine aN 2 rfl vM ?_
        refine aN 3 rfl vM ?_
        refine aN 4 rfl (v_eq rfl rfl) ?_
        refine aT 5 rfl vT ?_
        refine aT 6 rfl vM ?_
        refine a_know (s := 37) rfl (show _ = Value.bool true from (congrArg Value.bool (decide_eq_true rfl))) ?_
        refine aN 7 rfl (vW Tryz.underlying55 ti55) ?_
        refine aN 9 rfl (vW Tryz.underlying50 ti50) ?_
        refine aP 8 rfl (s_callf cl32 (o1 g1.1 g1.2.1 g1.2.2.1 g1.2.2.2) rfl (dd rfl) (pXs (by repeat constructor)) (fun r8 _ => aK ?_))
        refine aP 10 rfl (s_callf cl31 (s1 r8.1 g1.2.1 g1.2.2.1 r8.2 g2.1 g2.2.1 g2.2.2.1 g2.2.2.2) rfl (dd rfl) (pXs (by repeat constructor)) (fun _ _ => aK ?_))
        refine aT 11 rfl vT ?_
        refine aT 12 rfl vM ?_
        refine a_know (s := 43) rfl (show _ = Value.bool true from (congrArg Value.bool (decide_eq_true rfl))) ?_
        refine aN 13 rfl vM ?_
        refine aN 14 rfl (v_ne rfl rfl) ?_
        refine aN 15 rfl vM ?_
        refine a_know (s := 46) rfl (show _ = Value.bool true from (congrArg Value.bool (decide_eq_true he0))) ?_
        refine aX 16 rfl ?_
        refine aX 17 rfl ?_
        refine aX 18 rfl ?_
        refine aN 19 rfl vT ?_
        refine aN 20 rfl vM ?_
        refine aX 21 rfl ?_
        refine aX 22 rfl ?_
        refine aN 23 rfl vT ?_
        refine aT 24 rfl vT ?_
        refine aT 25 rfl vA ?_
        refine a_done (by kernel_rfl) ?_ _
        refine c_ret1 Tryz.func6 rfl rfl fun w O hS => ?_
        exact ⟨(), rfl, trivial, trivial⟩
set_option maxHeartbeats 2000000 in
set_option maxRecDepth 100000 in
theorem lawAlike_con (x y : Rs9) (l i t n l' i' t' n' : Value) (hs : sizeS x + sizeS y ≤ 1000000000) (te : TypeId) (pe : Value) : Con Tryz.prog 8 [.agg (rsC x l i t n).toArray, .agg (rsC y l' i' t' n').toArray] (rsL x l i t n ++ rsL y l' i' t' n' ++ [G1 te pe, G3]) (γ := Unit) (fun _ => .bool true) (fun _ => True) (fun _ => []) := by
  have hal := alive_con te pe
  have m1 := sizeS_con x l i t n (by omega)
  have m2 := sizeS_con y l' i' t' n' (by omega)
  dsimp only [rsC, rsL, List.cons_append, List.nil_append] at m1 m2 ⊢
  refine con_of Tryz.func8 rfl (dd rfl) fun w0 O0 => ?_
  refine c_seq (c_region ?_)
  refine o_step (s_box rfl (dd rfl) (fun b2 => ?_))
  refine o_step (s_box rfl (dd rfl) (fun b3 => ?_))
  refine oV vA ?_
  refine o_nil (c_seq (c_seq (c_region ?_)))
  refine oV (vW Tryz.underlying50 ti50) ?_
  refine o_step (s_callf_keep cl25 (m1) rfl (dd rfl) (rX (by repeat constructor)) (fun _ => sX) (fun _ _ => ?_))
  refine oV (v_gt rfl rfl) ?_
  refine oV vM ?_
  refine o_guard_f rfl rfl (fun g1 => ?_) (fun g1 => ?_)
  · refine oV (vW Tryz.underlying50 ti50) ?_
    refine oN ?_
    refine o_step (s_callf_keep cl25 (m2) rfl (dd rfl) (rX (by repeat constructor)) (fun _ => sX) (fun _ _ => ?_))
    refine oN ?_
    refine oV (v_gt rfl rfl) ?_
    refine oV vQ ?_
    refine o_nil ?_
    refine c_cond_p rfl (fun h2 => ?_) (fun h2 => ?_)
    · refine c_seq (c_region ?_)
      refine oC cl11 (hal) fun _ _ => ?_
      refine oV vA ?_
      refine o_nil ?_
      refine c_ret1 Tryz.func8 rfl rfl fun w O hS => ?_
      exact ⟨(), rfl, trivial, trivial⟩
    · obtain ⟨-, zx⟩ := size_parts (s := x) (m := 2000) (by omega) (by decide)
      obtain ⟨-, zy⟩ := size_parts (s := y) (m := 2000) (by omega) (by decide)
      have n1 := newS_con x l i t n zx.1.1 zx.2.2.2.1
      have n2 := newS_con y l' i' t' n' zy.1.1 zy.2.2.2.1
      have s1 := fun a b c d => sameRes_con x y a i t b c i' t' d zx zy
      have s2 := sameResR_con x y l i t n l' i' t' n' zx zy
      have o1 := fun v => oldN_con v x.2.2.2.2.2 zx.2.2.2.1
      have o2 := fun a b => oldS_con x a i t b zx.1.1 zx.2.2.2.1
      have e1 := fun v => notesR_con v n x.2.2.2.2.2 x.2.2.2.2.2 zx.2.2.2 zx.2.2.2
      have e2 := fun v => allR_con v l x.2.2.1 x.2.2.1 zx.1 zx.1
      dsimp only [rsC] at n1 n2 o2
      refine c_skip (c_seq ?_)
      refine c_held [BlkR b2 50 [.int .i64 x.1, .int .i64 x.2.1, l, i, t, n], BlkR b3 50 [.int .i64 y.1, .int .i64 y.2.1, l', i', t', n']] rfl ?_
      refine aO 0 rfl (s_callf_keep cl11 (hal) rfl (dd rfl) (rX (by repeat constructor)) (fun _ => sX) (fun _ _ => aK ?_))
      refine aT 1 rfl vM ?_
      refine a_know (s := 15) rfl (show _ = Value.bool true from rfl) ?_
      refine aN 2 rfl (vW Tryz.underlying50 ti50) ?_
      refine aN 4 rfl (vW Tryz.underlying50 ti50) ?_
      refine aN 7 rfl (vW Tryz.underlying50 ti50) ?_
      refine aN 8 rfl (vW Tryz.underlying50 ti50) ?_
      refine aP 3 rfl (s_callf cl27 (n1) rfl (dd rfl) (pXs (by repeat constructor)) (fun ra _ => aK ?_))
      refine aP 5 rfl (s_callf cl27 (n2) rfl (dd rfl) (pXs (by repeat constructor)) (fun rb _ => aK ?_))
      refine aP 6 rfl (s_callf cl34 (s1 ra.1 ra.2 rb.1 rb.2) rfl (dd rfl) (pXs (by repeat constructor)) (fun _ _ => aK ?_))
      refine aP 9 rfl (s_callf cl31 (s2) rfl (dd rfl) (pXs (by repeat constructor)) (fun _ _ => aK ?_))
      refine aN 10 rfl (v_beq Tryz.underlying4 rfl rfl) ?_
      refine aT 11 rfl vT ?_
      refine aT 12 rfl vM ?_
      refine a_know (s := 26) rfl (show _ = Value.bool true from (congrArg Value.bool (decide_eq_true rfl))) ?_
      refine aN 13 rfl (vW Tryz.underlying50 ti50) ?_
      refine aN 17 rfl (vF 5 Tryz.underlying50 ti48) ?_
      refine aN 18 rfl (vL lone48) ?_
      refine aP 14 rfl (s_callf cl27 (n1) rfl (dd rfl) (pXs (by repeat constructor)) (fun rc _ => aK ?_))
      refine aN 15 rfl (v_field Tryz.underlying55 rfl lone53 rfl rfl) ?_
      refine aP 16 rfl (s_callf cl36 (o1 rc.2) rfl (dd rfl) (pXs (by repeat constructor)) (fun rd _ => aK ?_))
      refine aP 19 rfl (s_callf cl35 (e1 rd) rfl (dd rfl) (pXs (by repeat constructor)) (fun _ _ => aK ?_))
      refine aT 20 rfl vT ?_
      refine aT 21 rfl vM ?_
      refine a_know (s := 35) rfl (show _ = Value.bool true from (congrArg Value.bool (decide_eq_true rfl))) ?_
      refine aN 22 rfl (vW Tryz.underlying50 ti50) ?_
      refine aN 26 rfl (vF 2 Tryz.underlying50 ti24) ?_
      refine aN 27 rfl (vL lone24) ?_
      refine aP 23 rfl (s_callf cl27 (n1) rfl (dd rfl) (pXs (by repeat constructor)) (fun re _ => aK ?_))
      refine aP 24 rfl (s_callf cl32 (o2 re.1 re.2) rfl (dd rfl) (pXs (by repeat constructor)) (fun rf _ => aK ?_))
      refine aN 25 rfl (v_field Tryz.underlying50 rfl lone24 rfl rfl) ?_
      refine aP 28 rfl (s_callf cl37 (e2 rf.1) rfl (dd rfl) (pXs (by repeat constructor)) (fun _ _ => aK ?_))
      refine aT 29 rfl vT ?_
      refine aT 30 rfl vA ?_
      refine a_done (by kernel_rfl) ?_ _
      refine c_ret1 Tryz.func8 rfl rfl fun w O hS => ?_
      exact ⟨(), congrArg Value.bool (decide_eq_true rfl), trivial, trivial⟩
  · refine oX ?_
    iterate 2 refine oX ?_
    refine oV vT ?_
    refine o_nil ?_
    refine c_cond_t rfl ?_
    refine c_seq (c_region ?_)
    refine oC cl11 (hal) fun _ _ => ?_
    refine oV vA ?_
    refine o_nil ?_
    refine c_ret1 Tryz.func8 rfl rfl fun w O hS => ?_
    exact ⟨(), rfl, trivial, trivial⟩
end Go.Proofs.YtlfehnnmpkohkaaGreatDoor
/- What the rows of chapter 16 want: the start, the openers of the arguments' types. -/
namespace Go.Proofs.YtlfehnnmpkohkaaGreatDoor
open Go Go.SL Go.RowKit Go.ChangeShapes Go.WideShapes Go.ChangeAt Go.Lib

abbrev laidL : List (String × DataW Unit) := [("math/bits.deBruijn32tab", Rows.laid_math_bits_deBruijn32tab), ("math/bits.deBruijn64tab", Rows.laid_math_bits_deBruijn64tab), ("internal/strconv.uint64pow10", Rows.laid_internal_strconv_uint64pow10), ("unicode/utf8.acceptRanges", Rows.laid_unicode_utf8_acceptRanges), ("strconv.ErrRange", Rows.laid_strconv_ErrRange), ("strconv.ErrSyntax", Rows.laid_strconv_ErrSyntax), ("unicode/utf8.first", Rows.laid_unicode_utf8_first)]
theorem own : ownKnob Tryz.prog.godebug = none := by kernel_rfl
theorem laidOut : laidOutB Tryz.prog = true := by kernel_rfl
theorem start_met (os : Os) (args : Array Value) : laidMetH Tryz.prog laidL ((World.laidAll Tryz.prog os laidL).forCall (fun _ _ => 0) ⟨#[], args, []⟩).memory := by
  rw [MakeChecks.laidMetH_plain _ _ _ (by kernel_rfl)]; exact laidMet_laidAll _ (by kernel_rfl) (by kernel_rfl)
theorem star : "*" ++ "errors.errorString" = "*errors.errorString" := by decide
theorem errRow (u : TypeId) (h : Tryz.prog.typeName? 3 u = some "*errors.errorString") : u = 227 :=
  typeName_ptr_named (nm := "errors.errorString") (by rw [star]; kernel_rfl) (by kernel_rfl) (by decide) u (by rw [star]; exact h)
theorem glob_at {W : World} (h : W.ShapedOpen Tryz.prog) {g : Nat} {t : TypeId} {cs : Array Value} {name : String} (hg : g < Tryz.prog.globals.size) (h0 : (((begin Tryz.prog (fun _ _ => 0) default).world.heap[g]?).bind Obj.row?).map (·.2) = some t) (hn : Tryz.prog.globalNamed name = some g) (hv : W.var? Tryz.prog name = some cs) : (BlkR g t cs.toList).h W (readAll W) := by
  obtain ⟨⟨zero, t'⟩, h0', e0⟩ := Option.map_eq_some_iff.1 h0
  obtain rfl : t' = t := e0
  obtain ⟨ds, hh, _, _⟩ := h.1 g zero t' hg h0'
  have h1 : g < W.heap.size := by
    rcases Nat.lt_or_ge g W.heap.size with h | h
    · exact h
    · rw [Array.getElem?_eq_none h] at hh; cases hh
  unfold World.var? at hv
  rw [hn, Option.bind_some, hh] at hv
  have e : ds = cs := by simpa using hv
  subst e
  exact ⟨readAll_lt h1, (0, 0), by rw [hh]⟩
theorem g13 {W : World} (hs : W.ShapedOpen Tryz.prog) (hl : laidMetH Tryz.prog laidL W) : ∃ te pe, (G1 te pe).h W (readAll W) ∧ G3.h W (readAll W) := by
  rw [MakeChecks.laidMetH_plain _ _ _ (by kernel_rfl)] at hl
  have h3 : laidMet Tryz.prog (("internal/strconv.uint64pow10", tabData .u64 pow10Tab) :: _) W := hl.tail.tail
  have h1 : TabIs Tryz.prog W "internal/strconv.uint64pow10" .u64 pow10Tab := tabIs_of_head (g := 1) (t := 208) (e := 184) (n := 20) (by kernel_rfl) (by kernel_rfl) Tryz.underlying208 Tryz.underlying184 (by kernel_rfl) (by kernel_rfl) h3
  obtain ⟨a0, s0, hv0, -, -, -⟩ := laid_sentinel hl.tail.tail.tail.tail.tail (g := 2) (ti := 165) (tp := 227) (te := 229) (ts := 9) (by kernel_rfl) (by kernel_rfl) Tryz.underlying165 errRow Tryz.underlying227 Tryz.underlying229 rfl rfl Tryz.underlying9 (by kernel_rfl) (by kernel_rfl)
  exact ⟨_, _, glob_at (cs := #[.iface 227 (.pointer (some a0))]) hs (of_decide_eq_true (by kernel_rfl)) (by kernel_rfl) (by kernel_rfl) hv0, glob_at (cs := (pow10Tab.map fun z => Value.int .u64 z).toArray) hs (of_decide_eq_true (by kernel_rfl)) (by kernel_rfl) (by kernel_rfl) h1⟩
theorem op3 : Opens Tryz.prog 3 (eInt .i64) (fun n => -9223372036854775808 ≤ n ∧ n ≤ 9223372036854775807) := opens_good (opens_int Tryz.underlying3) fun n h => by
  have := h
  simp [Lit.wf, IntKind.has, IntKind.min, IntKind.max, IntKind.signed, IntKind.bits] at this
  omega
end Go.Proofs.YtlfehnnmpkohkaaGreatDoor
/- Chapter 16: requests and responses as arguments: what is read holds no more than the argument; the row of a law whose arguments are of bounded bulk. -/
namespace Go.Proofs.YtlfehnnmpkohkaaGreatDoor
open Go Go.SL Go.RowKit Go.ChangeShapes Go.WideShapes Go.ChangeAt Go.Lib
theorem bulk_part {H : Type} : ∀ {l : List (DataW H)} {d : DataW H}, d ∈ l → Rows.uptoBulk d ≤ Rows.uptoBulkAll l
  | x :: r, d, h => by
    simp only [Rows.uptoBulkAll]
    cases List.mem_cons.1 h with
    | inl e => subst e; omega
    | inr e => have := bulk_part e; omega
/-- What is read of an element holds no more than it. -/
def BulkOf {α : Type} (P : Program) (t : TypeId) (e : Enc α) (m : α → Nat) : Prop :=
  ∀ (H : Type) (enc : TypeId × Value → H) (W : World) (O : Perm) (fuel : Nat) (cs : List Value) (x : DataW H × List MemPlace) (z : α), DataW.trod enc P W 0 (fun _ => true) true fuel t cs = some x → e.rd W O cs z → m z ≤ Rows.uptoBulk x.1
theorem bulk_str {P : Program} {t : TypeId} (ht : P.underlying t = some .string) : BulkOf P t eStr (fun s => s.size + 1) := by
  intro H enc W O fuel cs x z h hz
  obtain ⟨s, rfl, rfl, _⟩ := DataW.trod_string ht h
  have e : s = z := by
    have : [Value.string s] = [.string z] := hz
    injection this with h1 _
    injection h1
  subst e
  simp only [Rows.uptoBulk]
  rw [ba_len]; exact Nat.le_refl _
theorem bulk_int {P : Program} {t : TypeId} {K : IntKind} (ht : P.underlying t = some (.int K)) : BulkOf P t (eInt K) (fun _ => 1) := by
  intro H enc W O fuel cs x z h hz
  obtain ⟨n, rfl, rfl, hn⟩ := DataW.trod_int ht h
  simp [Rows.uptoBulk]
def mL {α : Type} (m : α → Nat) (l : List α) : Nat := (l.map m).sum + 1
theorem bulk_slice {α : Type} {P : Program} {t u : TypeId} {e : Enc α} {m : α → Nat} (ht : P.underlying t = some (.slice u)) (hc : P.cellsOf u = e.n) (hn : 0 < e.n) (h : BulkOf P u e m) : BulkOf P t (eSl e) (mL m) := by
  intro H enc W O fuel cs x zs hx hz
  obtain ⟨v, rfl, a', cap', hv, hle, hmx, hcells⟩ := hz
  rcases DataW.trod_slice ht hx with ⟨h1, rfl⟩ | ⟨a, len, cap, elems, rest, n, _, h1, rfl, _, hl, hm, hlen, hel, hsp, _⟩
  · cases h1
    have : zs.length = 0 := by
      injection hv with _ h2 _
      exact h2.symm
    rw [List.length_eq_zero_iff.1 this]
    simp [mL, Rows.uptoBulk]
  · have h2 : v = .slice (some a) len cap := by injection h1
    rw [h2] at hv
    injection hv with ha hlen' hcap'
    subst ha; subst hcap'
    have hsum : ∀ k, k ≤ len → ((zs.take k).map m).sum ≤ Rows.uptoBulkAll ((elems.take k).map (·.1)) := by
      intro k
      induction k with
      | zero => intro _; simp [Rows.uptoBulkAll]
      | succ k ih =>
        intro hk
        have hk1 : k < zs.length := by omega
        have hk2 : k < elems.length := by omega
        have hI := ih (by omega)
        rcases hcells with ⟨_, hz0⟩ | ⟨b, off, cs, hab, _, hr, hcl⟩
        · rw [hz0] at hk1; cases hk1
        · have hel' := hel k (by omega)
          rw [List.getElem?_eq_getElem hk2, Option.bind_eq_some_iff] at hel'
          obtain ⟨c0, hc0, hy0⟩ := hel'
          obtain ⟨_, hl0, hcell⟩ := World.cells?_some hc0
          obtain ⟨c, hrd, hget⟩ := hr.get (i := k) (List.getElem?_eq_getElem hk1)
          have hcl' := e.len hrd
          have haa : a = ⟨b, off, none⟩ := Option.some.inj hab
          have hcc : c = c0 := by
            apply List.ext_getElem?
            intro j
            by_cases hj : j < e.n
            · have g1 := hcell j (by rw [hc]; exact hj)
              have g2 := hcl (k * e.n + j) c[j] (hget j c[j] (List.getElem?_eq_getElem (by omega)))
              rw [haa, Go.Lib.add_plain, Go.Lib.add_plain, hc] at g1
              rw [show off + k * e.n + j = off + (k * e.n + j) by omega] at g1
              rw [List.getElem?_eq_getElem (by omega), ← g1, ← g2]
            · rw [List.getElem?_eq_none (by omega), List.getElem?_eq_none (by omega)]
          subst hcc
          have hb := h H enc W O n c elems[k] zs[k] hy0 hrd
          rw [List.take_succ_eq_append_getElem hk1, List.take_succ_eq_append_getElem hk2, List.map_append, List.map_append, List.sum_append]
          have happ : ∀ (l r : List (DataW H)), Rows.uptoBulkAll (l ++ r) = Rows.uptoBulkAll l + Rows.uptoBulkAll r := by
            intro l r
            induction l with
            | nil => simp [Rows.uptoBulkAll]
            | cons x l ih => simp only [List.cons_append, Rows.uptoBulkAll, ih]; omega
          rw [happ]
          simp only [List.map_cons, List.map_nil, List.sum_cons, List.sum_nil, Rows.uptoBulkAll]
          omega
    have := hsum len (Nat.le_refl _)
    rw [List.take_of_length_le (by omega), List.take_of_length_le (by omega)] at this
    unfold mL
    simp only [Rows.uptoBulk]
    omega
def BulkFrom {α : Type} (P : Program) (fs : Array Field) (i off : Nat) (e : Enc α) (m : α → Nat) : Prop :=
  ∀ (H : Type) (enc : TypeId × Value → H) (W : World) (O : Perm) (n : Nat) (cs : List Value) (xs : List (DataW H × List MemPlace)) (z : α), cs.length = off + e.n → xs.length = fs.size →
    (∀ (j : Nat) (f : Field), i ≤ j → fs[j]? = some f → DataW.trod enc P W 0 (fun _ => true) true n f.type ((cs.drop f.offset).take (P.cellsOf f.type)) = xs[j]?) →
    e.rd W O (cs.drop off) z → m z ≤ Rows.uptoBulkAll ((xs.drop i).map (·.1))
theorem bulk_last {α : Type} {P : Program} {fs : Array Field} {i off : Nat} {f : Field} {e : Enc α} {m : α → Nat} (hf : fs[i]? = some f) (ho : f.offset = off) (hc : P.cellsOf f.type = e.n) (h : BulkOf P f.type e m) : BulkFrom P fs i off e m := by
  intro H enc W O n cs xs z hl hx hr hz
  have hi : i < fs.size := by
    rcases Nat.lt_or_ge i fs.size with h | h
    · exact h
    · rw [Array.getElem?_eq_none h] at hf; cases hf
  have h1 := hr i f (Nat.le_refl _) hf
  have hxi : xs[i]? = some (xs[i]'(by omega)) := List.getElem?_eq_getElem (by omega)
  rw [hxi, ho, hc, List.take_of_length_le (by simp; omega)] at h1
  refine Nat.le_trans (h H enc W O n _ _ z h1 hz) (bulk_part ?_)
  exact List.mem_map.2 ⟨xs[i]'(by omega), by rw [List.drop_eq_getElem_cons (l := xs) (i := i) (by omega)]; exact List.mem_cons_self, rfl⟩
theorem bulk_cons {α β : Type} {P : Program} {fs : Array Field} {i off : Nat} {f : Field} {e : Enc α} {e' : Enc β} {m : α → Nat} {m' : β → Nat} (hf : fs[i]? = some f) (ho : f.offset = off) (hc : P.cellsOf f.type = e.n) (h : BulkOf P f.type e m)
    (hs : BulkFrom P fs (i + 1) (off + e.n) e' m') : BulkFrom P fs i off (ePair e e') (fun x => m x.1 + m' x.2) := by
  intro H enc W O n cs xs z hl hx hr hz
  have hl' : cs.length = off + (e.n + e'.n) := hl
  have hi : i < fs.size := by
    rcases Nat.lt_or_ge i fs.size with h | h
    · exact h
    · rw [Array.getElem?_eq_none h] at hf; cases hf
  have h1 := hr i f (Nat.le_refl _) hf
  have hxi : xs[i]? = some (xs[i]'(by omega)) := List.getElem?_eq_getElem (by omega)
  rw [hxi, ho, hc] at h1
  obtain ⟨c1, c2, e1, r1, r2⟩ := hz
  have hl1 := e.len r1
  rw [e1, List.take_left' hl1] at h1
  have b1 := h H enc W O n _ _ z.1 h1 r1
  have e2 : cs.drop (off + e.n) = c2 := by rw [← List.drop_drop, e1, List.drop_left' hl1]
  have b2 := hs H enc W O n cs xs z.2 (by omega) hx (fun j f hj => hr j f (by omega)) (by rw [e2]; exact r2)
  rw [List.drop_eq_getElem_cons (l := xs) (i := i) (by omega)]
  simp only [List.map_cons, Rows.uptoBulkAll]
  omega
theorem bulk_struct {α : Type} {P : Program} {t : TypeId} {fs : Array Field} {e : Enc α} {m : α → Nat} (ht : P.underlying t = some (.struct fs)) (hc : P.cellsOf t = e.n) (h : BulkFrom P fs 0 0 e m) : BulkOf P t e (fun z => m z + 1) := by
  intro H enc W O fuel cs x z hx hz
  obtain ⟨xs, n, _, rfl, hl, hlen, hr⟩ := DataW.trod_struct ht hx
  have := h H enc W O n cs xs z (by omega) hlen (fun j f _ hj => hr j f hj) (by simpa using hz)
  simp only [Rows.uptoBulk]
  simp only [List.drop_zero] at this
  omega

theorem bulk_bool {P : Program} {t : TypeId} (ht : P.underlying t = some .bool) : BulkOf P t eBool (fun _ => 1) := by
  intro H enc W O fuel cs x z h hz
  obtain ⟨n, rfl, rfl⟩ := DataW.trod_bool ht h
  simp [Rows.uptoBulk]
theorem i3 : Opens Tryz.prog 3 (eInt .i64) I64 := op3
theorem oS : Opens Tryz.prog 9 eStr (fun _ => True) := opens_good (opens_str Tryz.underlying9) fun _ _ => trivial
theorem oSs : Opens Tryz.prog 23 (eSl eStr) (fun _ => True) := opens_good (opens_slice Tryz.underlying23 (by kernel_rfl) (by decide) oS) fun _ _ => trivial
theorem oIs : Opens Tryz.prog 22 (eSl (eInt .i64)) (fun xs => ∀ n ∈ xs, I64 n) := opens_good (opens_slice Tryz.underlying22 (by kernel_rfl) (by decide) i3) fun _ h => h.2
theorem oP : Opens Tryz.prog 129 ePr IntsP := opens_good
  (opens_struct Tryz.underlying129 (by kernel_rfl) (opens_cons rfl rfl (by kernel_rfl) i3 (opens_cons rfl rfl (by kernel_rfl) oS (opens_cons rfl rfl (by kernel_rfl) oS (opens_cons rfl rfl (by kernel_rfl) i3 (opens_cons rfl rfl (by kernel_rfl) oSs (opens_last rfl rfl (by kernel_rfl) oSs))))))) fun _ h => ⟨h.1, h.2.2.2.1⟩
theorem oPs : Opens Tryz.prog 24 (eSl ePr) (fun l => ∀ p ∈ l, IntsP p) := opens_good (opens_slice Tryz.underlying24 (by kernel_rfl) (by decide) oP) fun _ h => h.2
theorem oN : Opens Tryz.prog 121 eNt (fun n => I64 n.1) := opens_good
  (opens_struct Tryz.underlying121 (by kernel_rfl) (opens_cons rfl rfl (by kernel_rfl) i3 (opens_cons rfl rfl (by kernel_rfl) oSs (opens_last rfl rfl (by kernel_rfl) (opens_bool Tryz.underlying4))))) fun _ h => h.1
theorem oNs : Opens Tryz.prog 48 (eSl eNt) (fun l => ∀ n ∈ l, I64 n.1) := opens_good (opens_slice Tryz.underlying48 (by kernel_rfl) (by decide) oN) fun _ h => h.2
theorem opRs : Opens Tryz.prog 50 eRs IntsS := opens_good
  (opens_struct Tryz.underlying50 (by kernel_rfl) (opens_cons rfl rfl (by kernel_rfl) i3 (opens_cons rfl rfl (by kernel_rfl) i3 (opens_cons rfl rfl (by kernel_rfl) oPs (opens_cons rfl rfl (by kernel_rfl) oIs (opens_cons rfl rfl (by kernel_rfl) oSs (opens_last rfl rfl (by kernel_rfl) oNs))))))) fun _ h => ⟨h.1, h.2.1, h.2.2.1, h.2.2.2.1, h.2.2.2.2.2⟩
/-! How much things hold. -/
abbrev mS (s : ByteArray) : Nat := s.size + 1
abbrev mP (p : Pr9) : Nat := 1 + (mS p.2.1 + (mS p.2.2.1 + (1 + (mL mS p.2.2.2.2.1 + mL mS p.2.2.2.2.2)))) + 1
abbrev mN (n : Nt9) : Nat := 1 + (mL mS n.2.1 + 1) + 1
abbrev mRq (q : Rq9) : Nat := 1 + (1 + (1 + (mS q.2.2.2.1 + (mS q.2.2.2.2.1 + (mL (fun _ => 1) q.2.2.2.2.2.1 + (mL mS q.2.2.2.2.2.2.1 + mL mP q.2.2.2.2.2.2.2)))))) + 1
abbrev mRs (s : Rs9) : Nat := 1 + (1 + (mL mP s.2.2.1 + (mL (fun _ => 1) s.2.2.2.1 + (mL mS s.2.2.2.2.1 + mL mN s.2.2.2.2.2)))) + 1
theorem k3 : BulkOf Tryz.prog 3 (eInt .i64) (fun _ => 1) := bulk_int Tryz.underlying3
theorem kS : BulkOf Tryz.prog 9 eStr mS := bulk_str Tryz.underlying9
theorem kSs : BulkOf Tryz.prog 23 (eSl eStr) (mL mS) := bulk_slice Tryz.underlying23 (by kernel_rfl) (by decide) kS
theorem kIs : BulkOf Tryz.prog 22 (eSl (eInt .i64)) (mL fun _ => 1) := bulk_slice Tryz.underlying22 (by kernel_rfl) (by decide) k3
theorem kP : BulkOf Tryz.prog 129 ePr mP := by
  have h := bulk_struct Tryz.underlying129 (by kernel_rfl) (bulk_cons rfl rfl (by kernel_rfl) k3 (bulk_cons rfl rfl (by kernel_rfl) kS (bulk_cons rfl rfl (by kernel_rfl) kS (bulk_cons rfl rfl (by kernel_rfl) k3 (bulk_cons rfl rfl (by kernel_rfl) kSs (bulk_last rfl rfl (by kernel_rfl) kSs))))))
  exact h
theorem kPs : BulkOf Tryz.prog 24 (eSl ePr) (mL mP) := bulk_slice Tryz.underlying24 (by kernel_rfl) (by decide) kP
theorem kN : BulkOf Tryz.prog 121 eNt mN := by
  have h := bulk_struct Tryz.underlying121 (by kernel_rfl) (bulk_cons rfl rfl (by kernel_rfl) k3 (bulk_cons rfl rfl (by kernel_rfl) kSs (bulk_last rfl rfl (by kernel_rfl) (bulk_bool Tryz.underlying4))))
  exact h
theorem kNs : BulkOf Tryz.prog 48 (eSl eNt) (mL mN) := bulk_slice Tryz.underlying48 (by kernel_rfl) (by decide) kN
theorem kRs : BulkOf Tryz.prog 50 eRs mRs := by
  have h := bulk_struct Tryz.underlying50 (by kernel_rfl) (bulk_cons rfl rfl (by kernel_rfl) k3 (bulk_cons rfl rfl (by kernel_rfl) k3 (bulk_cons rfl rfl (by kernel_rfl) kPs (bulk_cons rfl rfl (by kernel_rfl) kIs (bulk_cons rfl rfl (by kernel_rfl) kSs (bulk_last rfl rfl (by kernel_rfl) kNs))))))
  exact h
theorem sum_mono {α : Type} {f g : α → Nat} : ∀ {l : List α}, (∀ x ∈ l, f x ≤ g x) → (l.map f).sum ≤ (l.map g).sum
  | [], _ => Nat.le_refl _
  | x :: l, h => by
    have h1 := h x (by simp)
    have h2 := sum_mono (l := l) fun y hy => h y (by simp [hy])
    simp only [List.map_cons, List.sum_cons]; omega
theorem len_sum {α : Type} {f : α → Nat} : ∀ {l : List α}, (∀ x ∈ l, 1 ≤ f x) → l.length ≤ (l.map f).sum
  | [], _ => Nat.le_refl _
  | x :: l, h => by
    have h1 := h x (by simp)
    have h2 := len_sum (l := l) fun y hy => h y (by simp [hy])
    simp only [List.map_cons, List.sum_cons, List.length_cons]; omega
theorem mL_S (l : List ByteArray) : l.length + sumS l < mL mS l := by
  have h : (l.map mS).sum = (l.map (·.size)).sum + l.length := by
    induction l with
    | nil => rfl
    | cons x l ih => simp only [List.map_cons, List.sum_cons, List.length_cons]; unfold mS at *; omega
  unfold mL sumS; omega
theorem mP_many (p : Pr9) : manyP p + 1 ≤ mP p := by
  have h1 := mL_S p.2.2.2.2.1
  have h2 := mL_S p.2.2.2.2.2
  have h3 : mP p = 1 + (mS p.2.1 + (mS p.2.2.1 + (1 + (mL mS p.2.2.2.2.1 + mL mS p.2.2.2.2.2)))) + 1 := rfl
  have h4 : mS p.2.1 = p.2.1.size + 1 := rfl
  have h5 : mS p.2.2.1 = p.2.2.1.size + 1 := rfl
  unfold manyP; omega
theorem mL_3 (l : List Pr9) : many3 l < mL mP l := by
  have h1 : (l.map fun p => manyP p + 1).sum ≤ (l.map mP).sum := sum_mono fun p _ => mP_many p
  have h2 : (l.map fun p => manyP p + 1).sum = (l.map manyP).sum + l.length := by
    clear h1
    induction l with
    | nil => rfl
    | cons x l ih => simp only [List.map_cons, List.sum_cons, List.length_cons]; omega
  unfold mL many3; omega
theorem mL_1 (l : List Int) : l.length ≤ mL (fun _ => 1) l := by
  have := len_sum (f := fun _ : Int => 1) (l := l) fun _ _ => Nat.le_refl _
  unfold mL; omega
theorem mN_many (n : Nt9) : manyN n + 1 ≤ mN n := by
  have h1 := mL_S n.2.1
  have h2 : mN n = 1 + (mL mS n.2.1 + 1) + 1 := rfl
  unfold manyN; omega
theorem mL_N (l : List Nt9) : l.length + (l.map manyN).sum ≤ mL mN l := by
  have h1 : (l.map fun p => manyN p + 1).sum ≤ (l.map mN).sum := sum_mono fun p _ => mN_many p
  have h2 : (l.map fun p => manyN p + 1).sum = (l.map manyN).sum + l.length := by
    clear h1
    induction l with
    | nil => rfl
    | cons x l ih => simp only [List.map_cons, List.sum_cons, List.length_cons]; omega
  unfold mL; omega
theorem mRs_size (s : Rs9) : sizeS s ≤ mRs s := by
  have h1 := mL_1 s.2.2.2.1
  have h2 := mL_S s.2.2.2.2.1
  have h3 := mL_3 s.2.2.1
  have h5 := mL_N s.2.2.2.2.2
  have h4 : mRs s = 1 + (1 + (mL mP s.2.2.1 + (mL (fun _ => 1) s.2.2.2.1 + (mL mS s.2.2.2.2.1 + mL mN s.2.2.2.2.2)))) + 1 := rfl
  unfold sizeS; omega
theorem stars_mem {w : World} : ∀ {L : List A} {O : Perm} {a : A}, Stars L w O → a ∈ L → a.h w O
  | x :: L, O, a, h, ha => by
    obtain ⟨O1, O2, s, h1, h2⟩ := h
    cases List.mem_cons.1 ha with
    | inl e => subst e; exact a.mono h1 fun b => s.l b
    | inr e => exact a.mono (stars_mem h2 e) fun b => s.r b
theorem bulk_arg {α : Type} {P : Program} {t : TypeId} {e : Enc α} {m : α → Nat} {H : Type} {enc : TypeId × Value → H} {W : World} {v : Value} {d : DataW H} {ps : List MemPlace} {z : α} {O : Perm} (hb : BulkOf P t e m)
    (h : DataW.Trod enc P W 0 (fun _ => true) true t v d ps) (hz : e.rd W O v.cells.toList z) : m z ≤ Rows.uptoBulk d := by
  obtain ⟨fuel, hf⟩ := h
  exact hb H enc W O fuel _ _ z hf hz
/-! The row of a law that returns true and leaves its arguments, where these are of bounded bulk. -/
theorem lift_upto {H : Type} {enc : TypeId × Value → H} {C : Checked} {os : Os} {f : FuncId} {fn : Func} {s : ChangeSpec} {t : TypeId} {laid : List (String × DataW Unit)} {F : Stop.Interp}
    (own : ownKnob C.prog.godebug = none) (started : os.Started) (noInit : C.prog.inits.idxOf? f = none) (hfn : C.prog.funcs[f]? = some fn)
    (hvars : s.vars = []) (hs : ∀ ds : List (DataW H), ds.length = fn.params.size → s.fn H ds = { results := [.lit (.bool true)], args := ds })
    (hres : fn.resultTypes = #[t]) (ht : C.prog.underlying t = some .bool) (hl : laidOutB C.prog = true) (hpar : (fn.params.toList.all fun t => C.prog.readableRec t && decide (t < C.prog.types.size)) = true)
    (witness : ∃ (w : World) (tape : Tape) (i : Input), w.os = os ∧ (w.forCall tape i).Shaped C.prog ∧ i.vars = [] ∧ Input.okWide C.prog (w.forCall tape i) .any w.heap.size f i ∧
      (Rows.OpenSpec.upto s).preRow enc C.prog fn [] false laid (w.forCall tape i).memory i.args ∧ ({} : Assume).holds C.prog (lone (Frame.enter C.prog f i.args .normal) [] (w.forCall tape i)))
    (walk : ∀ (W : World) (base : Nat) (args : Array Value) (ds : List (DataW H)) (ps : List MemPlace), W.ShapedOpen C.prog → laidMetH C.prog laid W → (∀ (j : Nat) t v, fn.params[j]? = some t → args[j]? = some v → Value.okWide C.prog W .any base t v) →
      DataW.TrodAll enc C.prog W 0 (fun _ => true) true fn.params.toList args.toList ds ps → (∀ (j : Nat) t d, fn.params.toList[j]? = some t → ds[j]? = some d → ∀ n ∈ d.weights C.prog t, n ≤ reachBytes) → Rows.uptoBulkAll ds ≤ 1048576 →
      Calls C.prog f args W fun e W' => e = .returned (.bool true) ∧ Below W.heap.size W W') :
    ReturnsInHanded {} C os f .any ((Rows.OpenSpec.upto s).preRow enc C.prog fn [] false laid) (((Rows.OpenSpec.upto s).at F).post enc C.prog fn false true false false) := by
  refine returnsInHanded_of_row own started noInit hfn witness ?_
  intro W base args ds gs before hval hw _ hcond hwt hlaid hsh _
  have hw2 := hw
  obtain ⟨p, q, hA, hV, rfl, hfz, hnd⟩ := hw2
  have hV' : DataW.TrodVars enc C.prog W (fun _ => true) s.vars gs q := hV
  rw [hvars] at hV'
  obtain ⟨rfl, rfl⟩ := ChangeShapes.trodVars_none hV'
  have hlen : ∀ {ts : List TypeId} {vs : List Value} {ds : List (DataW H)} {ps : List MemPlace}, DataW.TrodAll enc C.prog W 0 (fun _ => true) true ts vs ds ps → ds.length = ts.length := by
    intro ts
    induction ts with
    | nil => intro vs ds ps h; cases vs <;> cases ds <;> simp_all [DataW.TrodAll]
    | cons t ts ih =>
      intro vs ds ps h
      cases vs with
      | nil => cases ds <;> simp_all [DataW.TrodAll]
      | cons v vs => cases ds with
        | nil => simp_all [DataW.TrodAll]
        | cons d ds =>
          obtain ⟨_, _, _, h, _⟩ := h
          simp [ih h]
  have hdl : ds.length = fn.params.size := by rw [hlen hA]; simp
  have hsd := hs ds hdl
  have hbulk : Rows.uptoBulkAll ds ≤ 1048576 := by
    have := hcond Rows.uptoSmall rfl
    rw [List.append_nil] at this
    exact of_decide_eq_true this
  refine (walk W base args ds p hsh hlaid hval hA (fun j t d hj hd n hn => ?_) hbulk).mono fun e W' ⟨he, bel⟩ => ?_
  · have := List.all_eq_true.1 hwt n (weights_each (i := j) (u := t) (d := d) (by rw [List.getElem?_append_left (List.getElem?_eq_some_iff.1 hj).1]; exact hj) (by rw [List.getElem?_append_left (List.getElem?_eq_some_iff.1 hd).1]; exact hd) hn)
    simpa using this
  · subst he
    refine ⟨_, rfl, ?_⟩
    show s.post enc C.prog fn false true false false W args _ W'
    refine ⟨ds, [], p ++ [], [], p, [], hw, ?_, ?_, ?_, bel.frame _, fun h => by cases h⟩
    · rw [List.append_nil, hsd, hres]
      exact ChangeShapes.trodAll_mk1 (shut_bool ht _)
    · rw [List.append_nil, hsd]
      exact trodAll_below hl bel hpar hA
    · rw [List.append_nil, hsd, hvars]
      rfl
end Go.Proofs.YtlfehnnmpkohkaaGreatDoor

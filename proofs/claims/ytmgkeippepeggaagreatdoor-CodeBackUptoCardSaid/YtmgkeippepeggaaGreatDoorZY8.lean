/- The texts S4, F2, F3, F4, U2, one behind the other. -/
import Derived.Test.YtmgkeippepeggaaGreatDoorZY7
import Derived.Deep.DeepHandedRow
import Derived.Deep.DeepWitnessRowRef
set_option linter.unusedVariables false
set_option linter.unusedSimpArgs false
/- Chapter 09: changes and patches, as the document and as the program have them. -/
namespace Go.Proofs.YtmgkeippepeggaaGreatDoor
open Go Go.SL Go.Lib
attribute [local irreducible] Cfg Kont StepK Val Con Qops Any Sl Own Blk BlkR Rd Pu ExA AllA Has Pick Ent Elem Beside Callable TI Lone OwnO AndA
set_option maxRecDepth 100000 in
theorem oldPr_con (v : Value) (l : List Pr9) (hl : l.length ≤ 1000000) : Con Tryz.prog 27 [v] [Sl ePr v l] (γ := Value) (fun r => r) (fun _ => True) (fun r => [Own ePr 30 r l]) := by
  refine con_of Tryz.func27 rfl (dd rfl) fun w0 O0 => ?_
  refine c_seq ?_
  refine c_region ?_
  refine o_val (v_assign rfl) (dd rfl) ?_
  refine o_nil ?_
  refine c_seq ?_
  refine c_region ?_
  refine o_val (v_assign rfl) (dd rfl) ?_
  refine o_nil ?_
  refine c_seq ?_
  refine c_seq ?_
  refine c_region ?_
  refine o_val (v_move rfl) (dd rfl) ?_
  refine o_val ((by first | exact v_len_form Tryz.underlying62 rfl | exact v_len_sl Tryz.underlying62 rfl (hX (by repeat constructor)))) (dd rfl) ?_
  refine o_val (v_move rfl) (dd rfl) ?_
  refine o_nil ?_
  refine c_block ?_
  refine c_loopR (γ := Nat × Value) [(2, _), (6, _), (7, _)] (fun g => l.length - g.1) (fun g => g.1 ≤ l.length) (fun g => [(8, .int .i64 g.1), (3, g.2)]) (fun g => [Sl ePr v l, Own ePr 30 g.2 (l.take g.1)]) ((0, .slice none 0 0)) (Nat.zero_le _) (by repeat (first | exact trivial | refine ⟨rfl, ?_⟩)) (eX (by repeat constructor)) ?_
  rintro ⟨k, r⟩ hk IH
  dsimp only at hk ⊢
  try dsimp only [List.cons_append, List.nil_append]
  refine c_seq ?_
  refine c_region ?_
  refine o_val (v_lt rfl rfl) (dd rfl) ?_
  refine o_nil ?_
  refine c_seq ?_
  refine c_cond_p rfl (fun hlt => ?_) (fun hlt => ?_)
  · have hk' : k < l.length := by omega
    refine c_skip ?_
    refine c_seq ?_
    refine c_block ?_
    refine c_seq ?_
    refine c_region ?_
    refine o_val ((by first | exact v_indexAddrN Tryz.underlying62 ti58 rfl rfl (hX (by repeat constructor)) (by omega) | exact v_indexAddr Tryz.underlying62 ti58 rfl rfl (hX (by repeat constructor)) (by omega))) (dd rfl) ?_
    refine o_step (s_load_shape ⟨_, Tryz.underlying58⟩ ti58 rfl (dd rfl) (by repeat (first|exact el1 (by omega)|exact el2 (by omega)|exact el3 (by omega)|apply Elem.there)) (pr_open) (fun g => ?_))
    refine o_step (s_alloc ti58 (dd rfl) (fun b5 => ?_))
    refine o_step (s_store_all ti58 rfl rfl (by first | exact CellsV.lit rfl | exact CellsV.one (by first | exact OneC.lit rfl | exact OneC.sl (hX (by repeat constructor)) )) (by repeat (first | exact OneAll.nil | (refine OneAll.cons ?_ ?_; · first | exact OneC.lit rfl | exact OneC.sl (hX (by repeat constructor)) ) | exact OneAll.rd (hX (by repeat constructor)))) rfl (pB (by repeat constructor)) rfl (?_))
    refine o_nil ?_
    refine c_region ?_
    refine o_val (v_move rfl) (dd rfl) ?_
    refine o_val (v_load_all ⟨_, Tryz.underlying58⟩ ti58 rfl (hX (by repeat constructor)) rfl) (dd rfl) ?_
    refine o_step (s_buildSlice Tryz.underlying31 ti30 rfl rfl rfl (by decide) (by decide) (beside_agg1 (beside_of (Lp := [Sl eStr g.1 l[k].2.2.2.2.1, Sl eStr g.2 l[k].2.2.2.2.2]) (pXs (by repeat constructor)) fun w O => pr_close (z := l[k]) w O)) rfl rfl (dd rfl) fun v1 => ?_)
    refine o_step (s_append Tryz.underlying31 ti30 rfl (by decide) rfl rfl (dd rfl) (pB (by repeat constructor)) (pX (by repeat constructor)) rfl (by (first | omega | (simp only [maxLen, List.length_append, List.length_drop, List.length_take, List.length_nil, List.length_cons]; omega))) (by (first | omega | (simp only [maxLen, List.length_append, List.length_drop, List.length_take, List.length_nil, List.length_cons]; omega))) fun v2 => ?_)
    refine o_val (v_assign rfl) (dd rfl) ?_
    refine o_nil ?_
    refine c_inBlock ?_
    refine c_region ?_
    refine o_val ((by first | exact v_add64 rfl rfl (by omega) | exact v_add rfl rfl)) (dd rfl) ?_
    refine o_val (v_move rfl) (dd rfl) ?_
    refine o_nil ?_
    rw [← List.take_succ_eq_append_getElem hk']
    refine c_use (IH ((k + 1, v2)) (by first | omega | (dsimp only; omega)) (by dsimp only; omega)) (by repeat (first | exact trivial | refine ⟨rfl, ?_⟩)) (eX (by repeat constructor))
  · refine c_exit rfl ?_
    refine c_seq ?_
    refine c_region ?_
    refine o_val (v_move rfl) (dd rfl) ?_
    refine o_val (v_assign rfl) (dd rfl) ?_
    refine o_nil ?_
    refine c_ret1 Tryz.func27 rfl rfl fun w O hS => ?_
    exact ⟨r, rfl, trivial, by rw [List.take_of_length_le (by omega)] at hS; exact Ent.get hS (eX (by repeat constructor))⟩
set_option maxRecDepth 100000 in
theorem newPr_con (v : Value) (l : List Pr9) (hl : l.length ≤ 1000000) : Con Tryz.prog 48 [v] [Sl ePr v l] (γ := Value) (fun r => r) (fun _ => True) (fun r => [Own ePr 58 r l]) := by
  refine con_of Tryz.func48 rfl (dd rfl) fun w0 O0 => ?_
  refine c_seq ?_
  refine c_region ?_
  refine o_val (v_assign rfl) (dd rfl) ?_
  refine o_nil ?_
  refine c_seq ?_
  refine c_region ?_
  refine o_val (v_assign rfl) (dd rfl) ?_
  refine o_nil ?_
  refine c_seq ?_
  refine c_seq ?_
  refine c_region ?_
  refine o_val (v_move rfl) (dd rfl) ?_
  refine o_val ((by first | exact v_len_form Tryz.underlying31 rfl | exact v_len_sl Tryz.underlying31 rfl (hX (by repeat constructor)))) (dd rfl) ?_
  refine o_val (v_move rfl) (dd rfl) ?_
  refine o_nil ?_
  refine c_block ?_
  refine c_loopR (γ := Nat × Value) [(2, _), (6, _), (7, _)] (fun g => l.length - g.1) (fun g => g.1 ≤ l.length) (fun g => [(8, .int .i64 g.1), (3, g.2)]) (fun g => [Sl ePr v l, Own ePr 58 g.2 (l.take g.1)]) ((0, .slice none 0 0)) (Nat.zero_le _) (by repeat (first | exact trivial | refine ⟨rfl, ?_⟩)) (eX (by repeat constructor)) ?_
  rintro ⟨k, r⟩ hk IH
  dsimp only at hk ⊢
  try dsimp only [List.cons_append, List.nil_append]
  refine c_seq ?_
  refine c_region ?_
  refine o_val (v_lt rfl rfl) (dd rfl) ?_
  refine o_nil ?_
  refine c_seq ?_
  refine c_cond_p rfl (fun hlt => ?_) (fun hlt => ?_)
  · have hk' : k < l.length := by omega
    refine c_skip ?_
    refine c_seq ?_
    refine c_block ?_
    refine c_seq ?_
    refine c_region ?_
    refine o_val ((by first | exact v_indexAddrN Tryz.underlying31 ti30 rfl rfl (hX (by repeat constructor)) (by omega) | exact v_indexAddr Tryz.underlying31 ti30 rfl rfl (hX (by repeat constructor)) (by omega))) (dd rfl) ?_
    refine o_step (s_load_shape ⟨_, Tryz.underlying30⟩ ti30 rfl (dd rfl) (by repeat (first|exact el1 (by omega)|exact el2 (by omega)|exact el3 (by omega)|apply Elem.there)) (pr_open) (fun g => ?_))
    refine o_step (s_alloc ti30 (dd rfl) (fun b5 => ?_))
    refine o_step (s_store_all ti30 rfl rfl (by first | exact CellsV.lit rfl | exact CellsV.one (by first | exact OneC.lit rfl | exact OneC.sl (hX (by repeat constructor)) )) (by repeat (first | exact OneAll.nil | (refine OneAll.cons ?_ ?_; · first | exact OneC.lit rfl | exact OneC.sl (hX (by repeat constructor)) ) | exact OneAll.rd (hX (by repeat constructor)))) rfl (pB (by repeat constructor)) rfl (?_))
    refine o_nil ?_
    refine c_region ?_
    refine o_val (v_move rfl) (dd rfl) ?_
    refine o_val (v_load_all ⟨_, Tryz.underlying30⟩ ti30 rfl (hX (by repeat constructor)) rfl) (dd rfl) ?_
    refine o_step (s_buildSlice Tryz.underlying62 ti58 rfl rfl rfl (by decide) (by decide) (beside_agg1 (beside_of (Lp := [Sl eStr g.1 l[k].2.2.2.2.1, Sl eStr g.2 l[k].2.2.2.2.2]) (pXs (by repeat constructor)) fun w O => pr_close (z := l[k]) w O)) rfl rfl (dd rfl) fun v1 => ?_)
    refine o_step (s_append Tryz.underlying62 ti58 rfl (by decide) rfl rfl (dd rfl) (pB (by repeat constructor)) (pX (by repeat constructor)) rfl (by (first | omega | (simp only [maxLen, List.length_append, List.length_drop, List.length_take, List.length_nil, List.length_cons]; omega))) (by (first | omega | (simp only [maxLen, List.length_append, List.length_drop, List.length_take, List.length_nil, List.length_cons]; omega))) fun v2 => ?_)
    refine o_val (v_assign rfl) (dd rfl) ?_
    refine o_nil ?_
    refine c_inBlock ?_
    refine c_region ?_
    refine o_val ((by first | exact v_add64 rfl rfl (by omega) | exact v_add rfl rfl)) (dd rfl) ?_
    refine o_val (v_move rfl) (dd rfl) ?_
    refine o_nil ?_
    rw [← List.take_succ_eq_append_getElem hk']
    refine c_use (IH ((k + 1, v2)) (by first | omega | (dsimp only; omega)) (by dsimp only; omega)) (by repeat (first | exact trivial | refine ⟨rfl, ?_⟩)) (eX (by repeat constructor))
  · refine c_exit rfl ?_
    refine c_seq ?_
    refine c_region ?_
    refine o_val (v_move rfl) (dd rfl) ?_
    refine o_val (v_assign rfl) (dd rfl) ?_
    refine o_nil ?_
    refine c_ret1 Tryz.func48 rfl rfl fun w O hS => ?_
    exact ⟨r, rfl, trivial, by rw [List.take_of_length_le (by omega)] at hS; exact Ent.get hS (eX (by repeat constructor))⟩
set_option maxRecDepth 100000 in
theorem oldT_con (p : Pt9) (dv lv : Value) (hl : p.2.2.2.length ≤ 1000000) : Con Tryz.prog 30 [.agg #[.int .i64 p.1, .string p.2.1, dv, lv]] [Sl (eInt .i64) dv p.2.2.1, Sl ePr lv p.2.2.2] (γ := Value) (fun r => .agg #[.int .i64 p.1, .string p.2.1, dv, r]) (fun _ => True) (fun r => [Sl (eInt .i64) dv p.2.2.1, Sl ePr r p.2.2.2]) := by
  have h := con_pu (oldPr_con lv p.2.2.2 hl) fun _ _ _ h => form_of h
  refine con_of Tryz.func30 rfl (dd rfl) fun w0 O0 => ?_
  refine c_seq ?_
  refine c_region ?_
  refine o_step (s_box rfl (dd rfl) (fun b1 => ?_))
  refine o_step (s_alloc ti34 (dd rfl) (fun b2 => ?_))
  refine o_nil ?_
  refine c_seq ?_
  refine c_held [BlkR b1 67 [.int .i64 p.1, .string p.2.1, dv, lv], Sl (eInt .i64) dv p.2.2.1] rfl ?_
  refine a_take 0 rfl (by kernel_rfl) (by kernel_rfl) (by kernel_rfl) (v_fieldAddrC 0 Tryz.underlying67 rfl ti3 (by decide) rfl) (eX (by repeat constructor)) (dd rfl) ?_
  refine a_take 1 rfl (by kernel_rfl) (by kernel_rfl) (by kernel_rfl) (v_load lone3 rfl (hX (by repeat constructor)) rfl) (eX (by repeat constructor)) (dd rfl) ?_
  refine a_take 2 rfl (by kernel_rfl) (by kernel_rfl) (by kernel_rfl) (v_fieldAddrC 1 Tryz.underlying67 rfl ti9 (by decide) rfl) (eX (by repeat constructor)) (dd rfl) ?_
  refine a_take 3 rfl (by kernel_rfl) (by kernel_rfl) (by kernel_rfl) (v_load lone9 rfl (hX (by repeat constructor)) rfl) (eX (by repeat constructor)) (dd rfl) ?_
  refine a_take 4 rfl (by kernel_rfl) (by kernel_rfl) (by kernel_rfl) (v_fieldAddrC 2 Tryz.underlying67 rfl ti32 (by decide) rfl) (eX (by repeat constructor)) (dd rfl) ?_
  refine a_take 5 rfl (by kernel_rfl) (by kernel_rfl) (by kernel_rfl) (v_load lone32 rfl (hX (by repeat constructor)) rfl) (eX (by repeat constructor)) (dd rfl) ?_
  refine a_take 6 rfl (by kernel_rfl) (by kernel_rfl) (by kernel_rfl) (v_fieldAddrC 3 Tryz.underlying67 rfl ti62 (by decide) rfl) (eX (by repeat constructor)) (dd rfl) ?_
  refine a_take 7 rfl (by kernel_rfl) (by kernel_rfl) (by kernel_rfl) (v_load lone62 rfl (hX (by repeat constructor)) rfl) (eX (by repeat constructor)) (dd rfl) ?_
  refine a_one 8 rfl (by kernel_rfl) (s_callf cl27 (h) rfl (dd rfl) (pXs (by repeat constructor)) (fun r hr => a_on (eX (by repeat constructor)) ?_))
  obtain ⟨-, a0, c0, rfl⟩ := hr
  refine a_take 9 rfl (by kernel_rfl) (by kernel_rfl) (by kernel_rfl) (v_buildS (places := [(0, 1), (1, 1), (2, 1), (3, 1)]) (cells := [_, _, _, _]) Tryz.underlying34 ti34 (by kernel_rfl) rfl (by repeat (first | exact PartsC.nil | (apply PartsC.one (by first | exact OneC.lit rfl | exact OneC.sl (hX (by repeat constructor)) )) | (apply PartsC.lit rfl))) rfl) (eX (by repeat constructor)) (dd rfl) ?_
  refine a_one 10 rfl (by kernel_rfl) (s_store_all ti34 rfl rfl (by first | exact CellsV.lit rfl | exact CellsV.one (by first | exact OneC.lit rfl | exact OneC.sl (hX (by repeat constructor)) )) (by repeat (first | exact OneAll.nil | (refine OneAll.cons ?_ ?_; · first | exact OneC.lit rfl | exact OneC.sl (hX (by repeat constructor)) ) | exact OneAll.rd (hX (by repeat constructor)))) rfl (pB (by repeat constructor)) rfl (a_on (eX (by repeat constructor)) ?_))
  refine a_done (by kernel_rfl) ?_ _
  refine c_ret_cell Tryz.func30 rfl ⟨_, Tryz.underlying34⟩ ti34 rfl (hX (by repeat constructor)) fun w O hS => ?_
  exact ⟨.slice a0 p.2.2.2.length c0, rfl, trivial, Ent.get hS (eX (by repeat constructor))⟩
set_option maxRecDepth 100000 in
theorem newT_con (p : Pt9) (dv lv : Value) (hl : p.2.2.2.length ≤ 1000000) : Con Tryz.prog 50 [.agg #[.int .i64 p.1, .string p.2.1, dv, lv]] [Sl (eInt .i64) dv p.2.2.1, Sl ePr lv p.2.2.2] (γ := Value) (fun r => .agg #[.int .i64 p.1, .string p.2.1, dv, r]) (fun _ => True) (fun r => [Sl (eInt .i64) dv p.2.2.1, Sl ePr r p.2.2.2]) := by
  have h := con_pu (newPr_con lv p.2.2.2 hl) fun _ _ _ h => form_of h
  refine con_of Tryz.func50 rfl (dd rfl) fun w0 O0 => ?_
  refine c_seq ?_
  refine c_region ?_
  refine o_step (s_box rfl (dd rfl) (fun b1 => ?_))
  refine o_step (s_alloc ti67 (dd rfl) (fun b2 => ?_))
  refine o_nil ?_
  refine c_seq ?_
  refine c_held [BlkR b1 34 [.int .i64 p.1, .string p.2.1, dv, lv], Sl (eInt .i64) dv p.2.2.1] rfl ?_
  refine a_take 0 rfl (by kernel_rfl) (by kernel_rfl) (by kernel_rfl) (v_fieldAddrC 0 Tryz.underlying34 rfl ti3 (by decide) rfl) (eX (by repeat constructor)) (dd rfl) ?_
  refine a_take 1 rfl (by kernel_rfl) (by kernel_rfl) (by kernel_rfl) (v_load lone3 rfl (hX (by repeat constructor)) rfl) (eX (by repeat constructor)) (dd rfl) ?_
  refine a_take 2 rfl (by kernel_rfl) (by kernel_rfl) (by kernel_rfl) (v_fieldAddrC 1 Tryz.underlying34 rfl ti9 (by decide) rfl) (eX (by repeat constructor)) (dd rfl) ?_
  refine a_take 3 rfl (by kernel_rfl) (by kernel_rfl) (by kernel_rfl) (v_load lone9 rfl (hX (by repeat constructor)) rfl) (eX (by repeat constructor)) (dd rfl) ?_
  refine a_take 4 rfl (by kernel_rfl) (by kernel_rfl) (by kernel_rfl) (v_fieldAddrC 2 Tryz.underlying34 rfl ti32 (by decide) rfl) (eX (by repeat constructor)) (dd rfl) ?_
  refine a_take 5 rfl (by kernel_rfl) (by kernel_rfl) (by kernel_rfl) (v_load lone32 rfl (hX (by repeat constructor)) rfl) (eX (by repeat constructor)) (dd rfl) ?_
  refine a_take 6 rfl (by kernel_rfl) (by kernel_rfl) (by kernel_rfl) (v_fieldAddrC 3 Tryz.underlying34 rfl ti31 (by decide) rfl) (eX (by repeat constructor)) (dd rfl) ?_
  refine a_take 7 rfl (by kernel_rfl) (by kernel_rfl) (by kernel_rfl) (v_load lone31 rfl (hX (by repeat constructor)) rfl) (eX (by repeat constructor)) (dd rfl) ?_
  refine a_one 8 rfl (by kernel_rfl) (s_callf cl48 (h) rfl (dd rfl) (pXs (by repeat constructor)) (fun r hr => a_on (eX (by repeat constructor)) ?_))
  obtain ⟨-, a0, c0, rfl⟩ := hr
  refine a_take 9 rfl (by kernel_rfl) (by kernel_rfl) (by kernel_rfl) (v_buildS (places := [(0, 1), (1, 1), (2, 1), (3, 1)]) (cells := [_, _, _, _]) Tryz.underlying67 ti67 (by kernel_rfl) rfl (by repeat (first | exact PartsC.nil | (apply PartsC.one (by first | exact OneC.lit rfl | exact OneC.sl (hX (by repeat constructor)) )) | (apply PartsC.lit rfl))) rfl) (eX (by repeat constructor)) (dd rfl) ?_
  refine a_one 10 rfl (by kernel_rfl) (s_store_all ti67 rfl rfl (by first | exact CellsV.lit rfl | exact CellsV.one (by first | exact OneC.lit rfl | exact OneC.sl (hX (by repeat constructor)) )) (by repeat (first | exact OneAll.nil | (refine OneAll.cons ?_ ?_; · first | exact OneC.lit rfl | exact OneC.sl (hX (by repeat constructor)) ) | exact OneAll.rd (hX (by repeat constructor)))) rfl (pB (by repeat constructor)) rfl (a_on (eX (by repeat constructor)) ?_))
  refine a_done (by kernel_rfl) ?_ _
  refine c_ret_cell Tryz.func50 rfl ⟨_, Tryz.underlying67⟩ ti67 rfl (hX (by repeat constructor)) fun w O hS => ?_
  exact ⟨.slice a0 p.2.2.2.length c0, rfl, trivial, Ent.get hS (eX (by repeat constructor))⟩
end Go.Proofs.YtmgkeippepeggaaGreatDoor
/- Chapter 09: a thing is written, and what the document writes for it. -/
namespace Go.Proofs.YtmgkeippepeggaaGreatDoor
open Go Go.SL Go.Lib
/-- The bytes of a thing. -/
def itB (x : It9) : List UInt8 :=
  if x.1 = 0 then numB x.2.1 else if x.1 = 1 then flagB (decide (0 < x.2.1)) else if x.1 = 2 then textB x.2.2.1 else if x.1 = 3 then textsB x.2.2.2.1
  else if x.1 = 4 then primB x.2.2.2.2.1 else if x.1 = 5 then primsB x.2.2.2.2.2.1 else if x.1 = 6 then patchB x.2.2.2.2.2.2 else []
def I64 (n : Int) : Prop := -9223372036854775808 ≤ n ∧ n ≤ 9223372036854775807
def IntsP (p : Pr9) : Prop := I64 p.1 ∧ I64 p.2.2.2.1
def IntsT (p : Pt9) : Prop := I64 p.1 ∧ (∀ n ∈ p.2.2.1, I64 n) ∧ ∀ q ∈ p.2.2.2, IntsP q
def IntsI (x : It9) : Prop := I64 x.1 ∧ I64 x.2.1 ∧ IntsP x.2.2.2.2.1 ∧ (∀ p ∈ x.2.2.2.2.2.1, IntsP p) ∧ IntsT x.2.2.2.2.2.2
theorem sumS_mem {l : List ByteArray} {s : ByteArray} (h : s ∈ l) : s.size ≤ sumS l := by
  induction l with
  | nil => cases h
  | cons x l ih =>
    unfold sumS at *
    simp only [List.map_cons, List.sum_cons]
    cases List.mem_cons.1 h with
    | inl e => subst e; omega
    | inr e => have := ih e; omega
theorem manyP_mem {l : List Pr9} {p : Pr9} (h : p ∈ l) : manyP p + l.length ≤ many3 l := by
  have : manyP p ≤ (l.map manyP).sum := by
    induction l with
    | nil => cases h
    | cons x l ih =>
      simp only [List.map_cons, List.sum_cons]
      cases List.mem_cons.1 h with
      | inl e => subst e; omega
      | inr e => have := ih e; omega
  unfold many3; omega
theorem many3_len (l : List Pr9) : l.length ≤ many3 l := by unfold many3; omega
theorem fitTexts {l : List ByteArray} {m : Nat} (h : l.length + sumS l ≤ m) (hm : m ≤ 1000000) : TextsFit l := ⟨by omega, fun s hs => by have := sumS_mem hs; omega⟩
theorem fitP {p : Pr9} (h : manyP p ≤ 1000000) : PrFit p := by
  unfold manyP at h
  exact ⟨by omega, by omega, fitTexts (m := p.2.2.2.2.1.length + sumS p.2.2.2.2.1) (Nat.le_refl _) (by omega), fitTexts (m := p.2.2.2.2.2.length + sumS p.2.2.2.2.2) (Nat.le_refl _) (by omega)⟩
theorem fitPs {l : List Pr9} (h : many3 l ≤ 100000) : PrsFit l := ⟨by have := many3_len l; omega, fun p hp => fitP (by have := manyP_mem hp; omega)⟩
theorem fitT {q : Pt9} (h : many7 q ≤ 100000) : PtFit q := by
  unfold many7 at h
  exact ⟨by omega, by omega, fitPs (by omega)⟩
theorem countP {p : Pr9} (h : manyP p ≤ 1000000) (hi : IntsP p) : CountP p := by
  unfold manyP at h
  exact ⟨hi.1, hi.2, by omega, by omega⟩
theorem countT {q : Pt9} (h : many7 q ≤ 100000) (hi : IntsT q) : CountT q := by
  unfold many7 at h
  have := many3_len q.2.2.2
  exact ⟨hi.1, ⟨by omega, hi.2.1⟩, by omega, fun p hp => countP (by have := manyP_mem hp; omega) (hi.2.2 p hp)⟩
/-! Sizes of what is written. -/
theorem textsB_sum (l : List ByteArray) : (textsB l).length ≤ 15 + 4 * l.length + 2 * sumS l := by
  have h : ((l.map textB).flatten).length ≤ 4 * l.length + 2 * sumS l := by
    unfold sumS
    induction l with
    | nil => simp
    | cons x l ih =>
      have := textB_len x
      simp only [List.map_cons, List.flatten_cons, List.length_append, List.length_cons, List.sum_cons]
      omega
  have := numB_len l.length
  simp only [textsB, manyB, List.length_append]
  omega
theorem primB_sum (p : Pr9) : (primB p).length ≤ 68 + 4 * manyP p := by
  have a1 := numB_len p.1
  have a2 := textB_len p.2.1
  have a3 := textB_len p.2.2.1
  have a4 := numB_len p.2.2.2.1
  have a5 := textsB_sum p.2.2.2.2.1
  have a6 := textsB_sum p.2.2.2.2.2
  unfold manyP primB
  simp only [List.length_append]
  omega
theorem primsB_sum (l : List Pr9) : (primsB l).length ≤ 15 + 68 * many3 l := by
  have h : ((l.map primB).flatten).length ≤ 68 * l.length + 4 * (l.map manyP).sum := by
    induction l with
    | nil => simp
    | cons x l ih =>
      have := primB_sum x
      simp only [List.map_cons, List.flatten_cons, List.length_append, List.length_cons, List.sum_cons]
      omega
  have := numB_len l.length
  unfold many3
  simp only [primsB, manyB, List.length_append]
  omega
theorem nums_len (l : List Int) : ((l.map numB).flatten).length ≤ 15 * l.length := by
  induction l with
  | nil => simp
  | cons x l ih =>
    have := numB_len x
    simp only [List.map_cons, List.flatten_cons, List.length_append, List.length_cons]
    omega
theorem patchB_sum (q : Pt9) : (patchB q).length ≤ 100 + 68 * many7 q := by
  have a1 := numB_len q.1
  have a2 := textB_len q.2.1
  have a3 := numB_len q.2.2.1.length
  have a4 := nums_len q.2.2.1
  have a5 := primsB_sum q.2.2.2
  unfold many7
  simp only [patchB, manyB, List.length_append]
  omega
theorem itB_len (x : It9) : (itB x).length ≤ 100 + 68 * fewI x := by
  have a1 := numB_len x.2.1
  have a2 := textB_len x.2.2.1
  have a3 := textsB_sum x.2.2.2.1
  have a4 := primB_sum x.2.2.2.2.1
  have a5 := primsB_sum x.2.2.2.2.2.1
  have a6 := patchB_sum x.2.2.2.2.2.2
  have a7 : (flagB (decide (0 < x.2.1))).length ≤ 15 := numB_len _
  unfold itB fewI
  split
  · omega
  split
  · omega
  split
  · omega
  split
  · omega
  split
  · omega
  split
  · omega
  split
  · omega
  · simp
attribute [local irreducible] Cfg Kont StepK Val Con Qops Any Sl Own Blk BlkR Rd Pu ExA AllA Has Pick Ent Elem Beside Callable TI Lone OwnO AndA
set_option maxRecDepth 100000 in
theorem put_con (b : Nat) (v : Value) (l : List UInt8) (x : It9) (g : ItV) (hx : fewI x ≤ 8000) (hi : IntsI x) (hl : l.length ≤ 10000000000) : Con Tryz.prog 11 [ptr b, .agg #[.int .i64 x.1, .int .i64 x.2.1, .string x.2.2.1, g.lv, .int .i64 x.2.2.2.2.1.1, .string x.2.2.2.2.1.2.1, .string x.2.2.2.2.1.2.2.1, .int .i64 x.2.2.2.2.1.2.2.2.1, g.po, g.pw, g.ps, .int .i64 x.2.2.2.2.2.2.1, .string x.2.2.2.2.2.2.2.1, g.qd, g.ql]] [Blk b 27 [v], Own eByte 5 v l, G3, Sl eStr g.lv x.2.2.2.1, Sl eStr g.po x.2.2.2.2.1.2.2.2.2.1, Sl eStr g.pw x.2.2.2.2.1.2.2.2.2.2, Sl ePr g.ps x.2.2.2.2.2.1, Sl (eInt .i64) g.qd x.2.2.2.2.2.2.2.2.1, Sl ePr g.ql x.2.2.2.2.2.2.2.2.2] (γ := Value) (fun _ => .string (sB (itB x))) (fun _ => True) (fun g' => [Blk b 27 [g'], Own eByte 5 g' (l ++ itB x)]) := by
  have hlen := itB_len x
  have hfI : fewI x = x.2.2.1.size + (many3 x.2.2.2.2.2.1 + 1 + manyP x.2.2.2.2.1) + many7 x.2.2.2.2.2.2 + x.2.2.2.1.length + sumS x.2.2.2.1 := rfl
  have hl3 := many3_len x.2.2.2.2.2.1
  have hl7 : x.2.2.2.2.2.2.2.2.2.length ≤ many7 x.2.2.2.2.2.2 := by have := many3_len x.2.2.2.2.2.2.2.2.2; unfold many7; omega
  obtain ⟨lv, po, pw, ps, qd, ql⟩ := g
  dsimp only
  refine con_of Tryz.func11 rfl (dd rfl) fun w0 O0 => ?_
  refine c_seq ?_
  refine c_region ?_
  refine o_step (s_box rfl (dd rfl) (fun b3 => ?_))
  refine o_val (v_assign rfl) (dd rfl) ?_
  refine o_nil ?_
  refine c_seq ?_
  refine c_seq ?_
  refine c_region ?_
  refine o_val (v_fieldAddrC 0 Tryz.underlying36 rfl ti3 (by decide) rfl) (dd rfl) ?_
  refine o_val (v_load lone3 rfl (hX (by repeat constructor)) rfl) (dd rfl) ?_
  refine o_nil ?_
  refine c_block ?_
  refine c_seq ?_
  refine c_region ?_
  refine o_val (v_eq rfl rfl) (dd rfl) ?_
  refine o_val (v_assign rfl) (dd rfl) ?_
  refine o_nil ?_
  refine c_cond_p rfl (fun h0 => ?_) (fun h0 => ?_)
  · have e : itB x = numB x.2.1 := by unfold itB; rw [if_pos h0]
    rw [e] at hlen ⊢
    refine c_seq ?_
    refine c_region ?_
    refine o_val (v_move rfl) (dd rfl) ?_
    refine o_val (v_fieldAddrC 1 Tryz.underlying36 rfl ti3 (by decide) rfl) (dd rfl) ?_
    refine o_val (v_load lone3 rfl (hX (by repeat constructor)) rfl) (dd rfl) ?_
    refine o_step (s_callf cl32 (num_con b v l x.2.1 hi.2.1 (by omega)) rfl (dd rfl) (pXs (by repeat constructor)) fun v1 _ => ?_)
    refine o_nil ?_
    refine c_seq ?_
    refine c_region ?_
    refine o_val (v_fieldAddrC 1 Tryz.underlying36 rfl ti3 (by decide) rfl) (dd rfl) ?_
    refine o_val (v_load lone3 rfl (hX (by repeat constructor)) rfl) (dd rfl) ?_
    refine o_step (s_callf_keep cl43 (numRef_con x.2.1) rfl (dd rfl) (rX (by repeat constructor)) (fun _ => sX) (fun _ _ => ?_))
    refine o_val (v_assign rfl) (dd rfl) ?_
    refine o_nil ?_
    refine c_ret1 Tryz.func11 rfl rfl fun w O hS => ?_
    exact ⟨v1, rfl, trivial, Ent.get hS (eX (by repeat constructor))⟩
  · refine c_seq ?_
    refine c_region ?_
    refine o_val (v_eq rfl rfl) (dd rfl) ?_
    refine o_val (v_assign rfl) (dd rfl) ?_
    refine o_nil ?_
    refine c_cond_p rfl (fun h1 => ?_) (fun h1 => ?_)
    · have e : itB x = flagB (decide (0 < x.2.1)) := by unfold itB; rw [if_neg h0, if_pos h1]
      rw [e] at hlen ⊢
      refine c_seq ?_
      refine c_region ?_
      refine o_val (v_move rfl) (dd rfl) ?_
      refine o_val (v_fieldAddrC 1 Tryz.underlying36 rfl ti3 (by decide) rfl) (dd rfl) ?_
      refine o_val (v_load lone3 rfl (hX (by repeat constructor)) rfl) (dd rfl) ?_
      refine o_val (v_gt rfl rfl) (dd rfl) ?_
      refine o_step (s_callf cl33 (flag_con b v l (decide (0 < x.2.1)) (by omega)) rfl (dd rfl) (pXs (by repeat constructor)) fun v1 _ => ?_)
      refine o_nil ?_
      refine c_seq ?_
      refine c_region ?_
      refine o_val (v_fieldAddrC 1 Tryz.underlying36 rfl ti3 (by decide) rfl) (dd rfl) ?_
      refine o_val (v_load lone3 rfl (hX (by repeat constructor)) rfl) (dd rfl) ?_
      refine o_val (v_gt rfl rfl) (dd rfl) ?_
      refine o_step (s_callf_keep cl44 (flagRef_con (decide (0 < x.2.1))) rfl (dd rfl) (rX (by repeat constructor)) (fun _ => sX) (fun _ _ => ?_))
      refine o_val (v_assign rfl) (dd rfl) ?_
      refine o_nil ?_
      refine c_ret1 Tryz.func11 rfl rfl fun w O hS => ?_
      exact ⟨v1, rfl, trivial, Ent.get hS (eX (by repeat constructor))⟩
    · refine c_seq ?_
      refine c_region ?_
      refine o_val (v_eq rfl rfl) (dd rfl) ?_
      refine o_val (v_assign rfl) (dd rfl) ?_
      refine o_nil ?_
      refine c_cond_p rfl (fun h2 => ?_) (fun h2 => ?_)
      · have e : itB x = textB x.2.2.1 := by unfold itB; rw [if_neg h0, if_neg h1, if_pos h2]
        rw [e] at hlen ⊢
        refine c_seq ?_
        refine c_region ?_
        refine o_val (v_move rfl) (dd rfl) ?_
        refine o_val (v_fieldAddrC 2 Tryz.underlying36 rfl ti9 (by decide) rfl) (dd rfl) ?_
        refine o_val (v_load lone9 rfl (hX (by repeat constructor)) rfl) (dd rfl) ?_
        refine o_step (s_callf cl34 (text_con b v l x.2.2.1 (by omega)) rfl (dd rfl) (pXs (by repeat constructor)) fun v1 _ => ?_)
        refine o_nil ?_
        refine c_seq ?_
        refine c_region ?_
        refine o_val (v_fieldAddrC 2 Tryz.underlying36 rfl ti9 (by decide) rfl) (dd rfl) ?_
        refine o_val (v_load lone9 rfl (hX (by repeat constructor)) rfl) (dd rfl) ?_
        refine o_step (s_callf_keep cl45 (textRef_con x.2.2.1 (by omega)) rfl (dd rfl) (rX (by repeat constructor)) (fun _ => sX) (fun _ _ => ?_))
        refine o_val (v_assign rfl) (dd rfl) ?_
        refine o_nil ?_
        refine c_ret1 Tryz.func11 rfl rfl fun w O hS => ?_
        exact ⟨v1, rfl, trivial, Ent.get hS (eX (by repeat constructor))⟩
      · refine c_seq ?_
        refine c_region ?_
        refine o_val (v_eq rfl rfl) (dd rfl) ?_
        refine o_val (v_assign rfl) (dd rfl) ?_
        refine o_nil ?_
        refine c_cond_p rfl (fun h3 => ?_) (fun h3 => ?_)
        · have e : itB x = textsB x.2.2.2.1 := by unfold itB; rw [if_neg h0, if_neg h1, if_neg h2, if_pos h3]
          rw [e] at hlen ⊢
          refine c_seq ?_
          refine c_region ?_
          refine o_val (v_move rfl) (dd rfl) ?_
          refine o_val (v_fieldAddrC 3 Tryz.underlying36 rfl ti28 (by decide) rfl) (dd rfl) ?_
          refine o_val (v_load lone28 rfl (hX (by repeat constructor)) rfl) (dd rfl) ?_
          refine o_step (s_callf_mix 3 cl35 (texts_con b v lv l x.2.2.2.1 (by omega) (by omega)) rfl (dd rfl) (pXs (by repeat constructor)) (rX (by repeat constructor)) (fun _ => sX) (fun v1 _ => ?_))
          refine o_nil ?_
          refine c_seq ?_
          refine c_region ?_
          refine o_val (v_fieldAddrC 3 Tryz.underlying36 rfl ti28 (by decide) rfl) (dd rfl) ?_
          refine o_val (v_load lone28 rfl (hX (by repeat constructor)) rfl) (dd rfl) ?_
          refine o_step (s_callf_keep cl46 (textsRef_con lv x.2.2.2.1 (fitTexts (m := x.2.2.2.1.length + sumS x.2.2.2.1) (Nat.le_refl _) (by omega))) rfl (dd rfl) (rX (by repeat constructor)) (fun _ => sX) (fun _ _ => ?_))
          refine o_val (v_assign rfl) (dd rfl) ?_
          refine o_nil ?_
          refine c_ret1 Tryz.func11 rfl rfl fun w O hS => ?_
          exact ⟨v1, rfl, trivial, Ent.get hS (eX (by repeat constructor))⟩
        · refine c_seq ?_
          refine c_region ?_
          refine o_val (v_eq rfl rfl) (dd rfl) ?_
          refine o_val (v_assign rfl) (dd rfl) ?_
          refine o_nil ?_
          refine c_cond_p rfl (fun h4 => ?_) (fun h4 => ?_)
          · have e : itB x = primB x.2.2.2.2.1 := by unfold itB; rw [if_neg h0, if_neg h1, if_neg h2, if_neg h3, if_pos h4]
            rw [e] at hlen ⊢
            refine c_seq ?_
            refine c_region ?_
            refine o_val (v_move rfl) (dd rfl) ?_
            refine o_val (v_fieldAddrC 4 Tryz.underlying36 rfl ti30 (by decide) rfl) (dd rfl) ?_
            refine o_val (v_load_sub (ds := [.int .i64 x.2.2.2.2.1.1, .string x.2.2.2.2.1.2.1, .string x.2.2.2.2.1.2.2.1, .int .i64 x.2.2.2.2.1.2.2.2.1, po, pw]) ⟨_, Tryz.underlying30⟩ ti30 rfl (hX (by repeat constructor)) (by exact Nat.le_of_ble_eq_true rfl) rfl) (dd rfl) ?_
            refine o_step (s_callf_mix 3 cl36 (prim_con b v po pw l x.2.2.2.2.1 (countP (by omega) hi.2.2.1) (by omega)) rfl (dd rfl) (pXs (by repeat constructor)) (rX (by repeat constructor)) (fun _ => sX) (fun v1 _ => ?_))
            refine o_nil ?_
            refine c_seq ?_
            refine c_region ?_
            refine o_val (v_fieldAddrC 4 Tryz.underlying36 rfl ti30 (by decide) rfl) (dd rfl) ?_
            refine o_val (v_load_sub (ds := [.int .i64 x.2.2.2.2.1.1, .string x.2.2.2.2.1.2.1, .string x.2.2.2.2.1.2.2.1, .int .i64 x.2.2.2.2.1.2.2.2.1, po, pw]) ⟨_, Tryz.underlying30⟩ ti30 rfl (hX (by repeat constructor)) (by exact Nat.le_of_ble_eq_true rfl) rfl) (dd rfl) ?_
            refine o_step (s_callf_keep cl47 (primRef_con x.2.2.2.2.1 po pw (fitP (by omega))) rfl (dd rfl) (rX (by repeat constructor)) (fun _ => sX) (fun _ _ => ?_))
            refine o_val (v_assign rfl) (dd rfl) ?_
            refine o_nil ?_
            refine c_ret1 Tryz.func11 rfl rfl fun w O hS => ?_
            exact ⟨v1, rfl, trivial, Ent.get hS (eX (by repeat constructor))⟩
          · refine c_seq ?_
            refine c_region ?_
            refine o_val (v_eq rfl rfl) (dd rfl) ?_
            refine o_val (v_assign rfl) (dd rfl) ?_
            refine o_nil ?_
            refine c_cond_p rfl (fun h5 => ?_) (fun h5 => ?_)
            · have e : itB x = primsB x.2.2.2.2.2.1 := by unfold itB; rw [if_neg h0, if_neg h1, if_neg h2, if_neg h3, if_neg h4, if_pos h5]
              rw [e] at hlen ⊢
              refine c_seq ?_
              refine c_region ?_
              refine o_val (v_move rfl) (dd rfl) ?_
              refine o_val (v_fieldAddrC 10 Tryz.underlying36 rfl ti31 (by decide) rfl) (dd rfl) ?_
              refine o_val (v_load lone31 rfl (hX (by repeat constructor)) rfl) (dd rfl) ?_
              refine o_step (s_callf cl48 (newPr_con ps x.2.2.2.2.2.1 (by omega)) rfl (dd rfl) (pXs (by repeat constructor)) fun v2 _ => ?_)
              refine o_step (s_callf cl37 (prims_con b v v2 l x.2.2.2.2.2.1 (by omega) (fun p hp => countP (by have := manyP_mem hp; omega) (hi.2.2.2.1 p hp)) (by omega)) rfl (dd rfl) (pXs (by repeat constructor)) fun v1 _ => ?_)
              refine o_nil ?_
              refine c_seq ?_
              refine c_region ?_
              refine o_val (v_fieldAddrC 10 Tryz.underlying36 rfl ti31 (by decide) rfl) (dd rfl) ?_
              refine o_val (v_load lone31 rfl (hX (by repeat constructor)) rfl) (dd rfl) ?_
              refine o_step (s_callf_keep cl49 (primsRef_con ps x.2.2.2.2.2.1 (fitPs (by omega))) rfl (dd rfl) (rX (by repeat constructor)) (fun _ => sX) (fun _ _ => ?_))
              refine o_val (v_assign rfl) (dd rfl) ?_
              refine o_nil ?_
              refine c_ret1 Tryz.func11 rfl rfl fun w O hS => ?_
              exact ⟨v1, rfl, trivial, Ent.get hS (eX (by repeat constructor))⟩
            · refine c_seq ?_
              refine c_region ?_
              refine o_val (v_eq rfl rfl) (dd rfl) ?_
              refine o_val (v_assign rfl) (dd rfl) ?_
              refine o_nil ?_
              refine c_cond_p rfl (fun h6 => ?_) (fun h6 => ?_)
              · have e : itB x = patchB x.2.2.2.2.2.2 := by unfold itB; rw [if_neg h0, if_neg h1, if_neg h2, if_neg h3, if_neg h4, if_neg h5, if_pos h6]
                rw [e] at hlen ⊢
                refine c_seq ?_
                refine c_region ?_
                refine o_val (v_move rfl) (dd rfl) ?_
                refine o_val (v_fieldAddrC 11 Tryz.underlying36 rfl ti34 (by decide) rfl) (dd rfl) ?_
                refine o_val (v_load_sub (ds := [.int .i64 x.2.2.2.2.2.2.1, .string x.2.2.2.2.2.2.2.1, qd, ql]) ⟨_, Tryz.underlying34⟩ ti34 rfl (hX (by repeat constructor)) (by exact Nat.le_of_ble_eq_true rfl) rfl) (dd rfl) ?_
                refine o_step (s_callf cl50 (newT_con x.2.2.2.2.2.2 qd ql (by omega)) rfl (dd rfl) (pXs (by repeat constructor)) fun v2 _ => ?_)
                refine o_step (s_callf_mix 3 cl38 (patch_con b v qd v2 l x.2.2.2.2.2.2 (countT (by omega) hi.2.2.2.2) (by omega)) rfl (dd rfl) (pXs (by repeat constructor)) (rX (by repeat constructor)) (fun _ => sX) (fun v1 _ => ?_))
                refine o_nil ?_
                refine c_seq ?_
                refine c_region ?_
                refine o_val (v_fieldAddrC 11 Tryz.underlying36 rfl ti34 (by decide) rfl) (dd rfl) ?_
                refine o_val (v_load_sub (ds := [.int .i64 x.2.2.2.2.2.2.1, .string x.2.2.2.2.2.2.2.1, qd, ql]) ⟨_, Tryz.underlying34⟩ ti34 rfl (hX (by repeat constructor)) (by exact Nat.le_of_ble_eq_true rfl) rfl) (dd rfl) ?_
                refine o_step (s_callf_keep cl51 (patchRef_con x.2.2.2.2.2.2 qd ql (fitT (by omega))) rfl (dd rfl) (rX (by repeat constructor)) (fun _ => sX) (fun _ _ => ?_))
                refine o_val (v_assign rfl) (dd rfl) ?_
                refine o_nil ?_
                refine c_ret1 Tryz.func11 rfl rfl fun w O hS => ?_
                exact ⟨v1, rfl, trivial, Ent.get hS (eX (by repeat constructor))⟩
              · have e : itB x = [] := by unfold itB; rw [if_neg h0, if_neg h1, if_neg h2, if_neg h3, if_neg h4, if_neg h5, if_neg h6]
                rw [e, List.append_nil]
                refine c_skip ?_
                refine c_inBlock ?_
                refine c_seq ?_
                refine c_region ?_
                refine o_val (v_assign rfl) (dd rfl) ?_
                refine o_nil ?_
                refine c_ret1 Tryz.func11 rfl rfl fun w O hS => ?_
                exact ⟨v, rfl, trivial, Ent.get hS (eX (by repeat constructor))⟩
end Go.Proofs.YtmgkeippepeggaaGreatDoor
/- Chapter 09: CodeWrites. -/
namespace Go.Proofs.YtmgkeippepeggaaGreatDoor
open Go Go.SL Go.Lib
def wrB (l : List It9) : List UInt8 := (l.map itB).flatten
theorem wrB_take {l : List It9} {k : Nat} (hk : k < l.length) : wrB (l.take (k + 1)) = wrB (l.take k) ++ itB l[k] := by
  unfold wrB; rw [List.take_succ_eq_append_getElem hk, List.map_append, List.flatten_append]; simp
theorem few_mem {l : List It9} (h : (l.map fewI).sum ≤ 8000) {k : Nat} (hk : k < l.length) : fewI l[k] ≤ 8000 := by
  have := sum_mem fewI hk; omega
theorem wrB_len {l : List It9} (h : (l.map fewI).sum ≤ 8000) (h2 : l.length ≤ 30) (k : Nat) : (wrB (l.take k)).length ≤ 547000 := by
  have h3 : ∀ m : List It9, (wrB m).length ≤ 100 * m.length + 68 * (m.map fewI).sum := by
    intro m
    induction m with
    | nil => simp [wrB]
    | cons x m ih =>
      have := itB_len x
      unfold wrB at *
      simp only [List.map_cons, List.flatten_cons, List.length_append, List.length_cons, List.sum_cons]
      omega
  have h4 := h3 (l.take k)
  have h5 := sum_le fewI l k
  have h6 : (l.take k).length ≤ 30 := by rw [List.length_take]; omega
  omega
theorem few_true {l : List It9} (h : fewP l = true) : l.length ≤ 30 ∧ (l.map fewI).sum ≤ 8000 := by
  unfold fewP at h
  rw [Bool.and_eq_true] at h
  exact ⟨of_decide_eq_true h.1, of_decide_eq_true h.2⟩
attribute [local irreducible] Cfg Kont StepK Val Con Qops Any Sl Own Blk BlkR Rd Pu ExA AllA Has Pick Ent Elem Beside Callable TI Lone OwnO AndA
set_option maxRecDepth 100000 in
theorem writes_con (v : Value) (l : List It9) (hl : (l.map fewI).sum ≤ 1000000000000) (hll : l.length ≤ 1000000000000) (hi : ∀ x ∈ l, IntsI x) (te : TypeId) (pe : Value) : Con Tryz.prog 3 [v] [Sl eIt v l, G1 te pe, G3] (γ := Unit) (fun _ => .bool true) (fun _ => True) (fun _ => []) := by
  have hal := alive_con te pe
  have hfw := few_con v l hl hll
  refine con_of Tryz.func3 rfl (dd rfl) fun w0 O0 => ?_
  refine c_seq ?_
  refine c_region ?_
  refine o_val (v_assign rfl) (dd rfl) ?_
  refine o_nil ?_
  refine c_seq ?_
  refine c_seq ?_
  refine c_region ?_
  refine o_val (v_move rfl) (dd rfl) ?_
  refine o_step (s_callf_keep cl9 (hfw) rfl (dd rfl) (rX (by repeat constructor)) (fun _ => sX) (fun _ _ => ?_))
  refine o_val (v_not rfl) (dd rfl) ?_
  refine o_nil ?_
  refine c_cond rfl (fun hf => ?_) (fun hf => ?_)
  · refine c_seq ?_
    refine c_region ?_
    refine o_step (s_callf cl10 (hal) rfl (dd rfl) (pXs (by repeat constructor)) fun _ _ => ?_)
    refine o_val (v_assign rfl) (dd rfl) ?_
    refine o_nil ?_
    refine c_ret1 Tryz.func3 rfl rfl fun w O hS => ?_
    exact ⟨(), rfl, trivial, trivial⟩
  · have hf' : fewP l = true := by simpa using hf
    obtain ⟨h30, h80⟩ := few_true hf'
    refine c_skip ?_
    refine c_seq ?_
    refine c_region ?_
    refine o_step (s_alloc ti27 (dd rfl) (fun b3 => ?_))
    refine o_nil ?_
    refine c_seq ?_
    refine c_region ?_
    refine o_val (v_assign rfl) (dd rfl) ?_
    refine o_nil ?_
    refine c_seq ?_
    refine c_seq ?_
    refine c_region ?_
    refine o_val (v_move rfl) (dd rfl) ?_
    refine o_val ((by first | exact v_len_form Tryz.underlying22 rfl | exact v_len_sl Tryz.underlying22 rfl (hX (by repeat constructor)))) (dd rfl) ?_
    refine o_val (v_move rfl) (dd rfl) ?_
    refine o_nil ?_
    refine c_block ?_
    refine c_loopR (γ := Nat × Value) [(2, _), (3, _), (11, _), (12, _)] (fun g => l.length - g.1) (fun g => g.1 ≤ l.length) (fun g => [(13, .int .i64 g.1), (4, .string (sB (wrB (l.take g.1))))]) (fun g => [Blk b3 27 [g.2], Own eByte 5 g.2 (wrB (l.take g.1)), Sl eIt v l, G1 te pe, G3]) ((0, .slice none 0 0)) (Nat.zero_le _) (by repeat (first | exact trivial | refine ⟨rfl, ?_⟩)) (eX (by repeat constructor)) ?_
    rintro ⟨k, w⟩ hk IH
    dsimp only at hk ⊢
    try dsimp only [List.cons_append, List.nil_append]
    refine c_seq ?_
    refine c_region ?_
    refine o_val (v_lt rfl rfl) (dd rfl) ?_
    refine o_nil ?_
    refine c_seq ?_
    refine c_cond_p rfl (fun hlt => ?_) (fun hlt => ?_)
    · have hk' : k < l.length := by omega
      have hpt := fun b v g => put_con b v (wrB (l.take k)) l[k] g (few_mem h80 hk') (hi _ (List.getElem_mem hk')) (by have := wrB_len h80 h30 k; omega)
      have hst := wrB_take hk'
      have hwl := wrB_len h80 h30 (k + 1)
      have hz1 := sB_size (wrB (l.take k))
      have hz2 := sB_size (itB l[k])
      have hz3 : (wrB (l.take (k + 1))).length = (wrB (l.take k)).length + (itB l[k]).length := by rw [hst, List.length_append]
      refine c_skip ?_
      refine c_seq ?_
      refine c_block ?_
      refine c_seq ?_
      refine c_region ?_
      refine o_val ((by first | exact v_indexAddrN Tryz.underlying22 ti36 rfl rfl (hX (by repeat constructor)) (by omega) | exact v_indexAddr Tryz.underlying22 ti36 rfl rfl (hX (by repeat constructor)) (by omega))) (dd rfl) ?_
      refine o_step (s_load_shape ⟨_, Tryz.underlying36⟩ ti36 rfl (dd rfl) (by repeat (first|exact el1 (by omega)|exact el2 (by omega)|exact el3 (by omega)|apply Elem.there)) (it_open) (fun g => ?_))
      refine o_step (s_alloc ti36 (dd rfl) (fun b6 => ?_))
      refine o_step (s_store_all ti36 rfl rfl (by first | exact CellsV.lit rfl | exact CellsV.one (by first | exact OneC.lit rfl | exact OneC.sl (hX (by repeat constructor)) )) (by repeat (first | exact OneAll.nil | (refine OneAll.cons ?_ ?_; · first | exact OneC.lit rfl | exact OneC.sl (hX (by repeat constructor)) ) | exact OneAll.rd (hX (by repeat constructor)))) rfl (pB (by repeat constructor)) rfl (?_))
      refine o_nil ?_
      refine c_seq ?_
      refine c_region ?_
      refine o_val (v_move rfl) (dd rfl) ?_
      refine o_val (v_load_all ⟨_, Tryz.underlying36⟩ ti36 rfl (hX (by repeat constructor)) rfl) (dd rfl) ?_
      refine o_step (s_callf cl11 (hpt b3 w g) rfl (dd rfl) (pXs (by repeat constructor)) fun w1 _ => ?_)
      refine o_val (v_cat rfl rfl (by first | omega | (simp only [ByteArray.size_append]; omega))) (dd rfl) ?_
      refine o_val (v_assign rfl) (dd rfl) ?_
      refine o_nil ?_
      refine c_seq ?_
      refine c_region ?_
      rw [sB_app, ← hst]
      refine o_step (s_callf_keep cl12 (bytes_con b3 w1 (wrB (l.take (k + 1))) (by omega)) rfl (dd rfl) (rX (by repeat constructor)) (fun _ => sX) (fun r _ => ?_))
      refine o_val (v_conv_bytes Tryz.underlying25 Tryz.underlying5 Tryz.underlying9 rfl (hX (by repeat constructor))) (dd rfl) ?_
      refine o_val (v_move rfl) (dd rfl) ?_
      refine o_val (v_sne rfl rfl) (dd rfl) ?_
      refine o_nil ?_
      refine c_cond_p rfl (fun hne => ?_) (fun hne => ?_)
      · skip
        exact absurd rfl hne
      · refine c_skip ?_
        refine c_inBlock ?_
        refine c_region ?_
        refine o_val ((by first | exact v_add64 rfl rfl (by omega) | exact v_add rfl rfl)) (dd rfl) ?_
        refine o_val (v_move rfl) (dd rfl) ?_
        refine o_nil ?_
        refine c_use (IH ((k + 1, w1)) (by first | omega | (dsimp only; omega)) (by dsimp only; omega)) (by repeat (first | exact trivial | refine ⟨rfl, ?_⟩)) (eX (by repeat constructor))
    · refine c_exit rfl ?_
      refine c_seq ?_
      refine c_region ?_
      refine o_step (s_callf cl10 (hal) rfl (dd rfl) (pXs (by repeat constructor)) fun _ _ => ?_)
      refine o_val (v_assign rfl) (dd rfl) ?_
      refine o_nil ?_
      refine c_ret1 Tryz.func3 rfl rfl fun w O hS => ?_
      exact ⟨(), rfl, trivial, trivial⟩
end Go.Proofs.YtmgkeippepeggaaGreatDoor
/- Chapter 09: CodeApart. -/
namespace Go.Proofs.YtmgkeippepeggaaGreatDoor
open Go Go.SL Go.Lib
theorem stars_mem {w : World} : ∀ {L : List A} {O : Perm} {a : A}, Stars L w O → a ∈ L → a.h w O
  | x :: L, O, a, h, ha => by
    obtain ⟨O1, O2, s, h1, h2⟩ := h
    cases List.mem_cons.1 ha with
    | inl e => subst e; exact a.mono h1 fun b => s.l b
    | inr e => exact a.mono (stars_mem h2 e) fun b => s.r b
theorem it_close {z : It9} {g : ItV} {w : World} {O : Perm} (h : ∀ a ∈ itL z g, a.h w O) : eIt.rd w O (itC z g) z := by
  have k1 := h (Sl eStr g.lv z.2.2.2.1) (by simp)
  have k2 := h (Sl eStr g.po z.2.2.2.2.1.2.2.2.2.1) (by simp)
  have k3 := h (Sl eStr g.pw z.2.2.2.2.1.2.2.2.2.2) (by simp)
  have k4 := h (Sl ePr g.ps z.2.2.2.2.2.1) (by simp)
  have k5 := h (Sl (eInt .i64) g.qd z.2.2.2.2.2.2.2.2.1) (by simp)
  have k6 := h (Sl ePr g.ql z.2.2.2.2.2.2.2.2.2) (by simp)
  exact ⟨[.int .i64 z.1], _, rfl, rfl, [.int .i64 z.2.1], _, rfl, rfl, [.string z.2.2.1], _, rfl, rfl, [g.lv], _, rfl, ⟨g.lv, rfl, k1⟩,
    [.int .i64 z.2.2.2.2.1.1, .string z.2.2.2.2.1.2.1, .string z.2.2.2.2.1.2.2.1, .int .i64 z.2.2.2.2.1.2.2.2.1, g.po, g.pw], _, rfl,
    ⟨[.int .i64 z.2.2.2.2.1.1], _, rfl, rfl, [.string z.2.2.2.2.1.2.1], _, rfl, rfl, [.string z.2.2.2.2.1.2.2.1], _, rfl, rfl, [.int .i64 z.2.2.2.2.1.2.2.2.1], _, rfl, rfl, [g.po], _, rfl, ⟨g.po, rfl, k2⟩, g.pw, rfl, k3⟩,
    [g.ps], _, rfl, ⟨g.ps, rfl, k4⟩, [.int .i64 z.2.2.2.2.2.2.1], _, rfl, rfl, [.string z.2.2.2.2.2.2.2.1], _, rfl, rfl, [g.qd], [g.ql], rfl, ⟨g.qd, rfl, k5⟩, g.ql, rfl, k6⟩
theorem beside_agg2 {α : Type} {e : Enc α} {Lp L : List A} {cs ds : List Value} {z y : α} (hp : Picks Lp L L) (h : ∀ w O, Stars Lp w O → e.rd w O cs z ∧ e.rd w O ds y) : Beside (RowsA e [.agg cs.toArray, .agg ds.toArray] [z, y]) L := fun w O hs => by
  obtain ⟨O1, O2, s, h1, h2⟩ := hp.split w O hs
  obtain ⟨k1, k2⟩ := h w O1 h1
  refine ⟨O1, O2, s, ⟨⟨cs, ds, by simp [Value.cells], k1, ⟨ds, [], by simp, k2, rfl⟩⟩, fun v hv => ?_⟩, h2⟩
  simp only [List.mem_cons, List.not_mem_nil, or_false] at hv
  rcases hv with rfl | rfl
  · show cs.toArray.size = _
    rw [List.size_toArray]; exact e.len k1
  · show ds.toArray.size = _
    rw [List.size_toArray]; exact e.len k2
attribute [local irreducible] Cfg Kont StepK Val Con Qops Any Sl Own Blk BlkR Rd Pu ExA AllA Has Pick Ent Elem Beside Callable TI Lone OwnO AndA
set_option maxRecDepth 100000 in
theorem apart_con (x y : It9) (g g' : ItV) (hi : IntsI x) (hi' : IntsI y) (hs : fewI x + fewI y ≤ 1000000000000) (te : TypeId) (pe : Value) : Con Tryz.prog 4 [.agg (itC x g).toArray, .agg (itC y g').toArray] (itL x g ++ itL y g' ++ [G1 te pe, G3]) (γ := Unit) (fun _ => .bool true) (fun _ => True) (fun _ => []) := by
  have hal := alive_con te pe
  have hfw := fun v => few_con v [x, y] (by simp; omega) (by simp)
  have hcl : ∀ w O, Stars (itL x g ++ itL y g') w O → eIt.rd w O (itC x g) x ∧ eIt.rd w O (itC y g') y := fun w O h => ⟨it_close fun a ha => stars_mem h (List.mem_append_left _ ha), it_close fun a ha => stars_mem h (List.mem_append_right _ ha)⟩
  obtain ⟨lv, po, pw, ps, qd, ql⟩ := g
  obtain ⟨lv', po', pw', ps', qd', ql'⟩ := g'
  dsimp only [itC, itL, List.cons_append, List.nil_append] at hcl ⊢
  obtain ⟨P, hP⟩ : ∃ P, P = decide (fewP [x, y] = false ∨ x.1 < 0 ∨ 3 < x.1 ∨ y.1 < 0 ∨ 6 < y.1 ∨ (x.1 = 0 ∧ (1099511627776 < x.2.1 ∨ x.2.1 < -1099511627776))) := ⟨_, rfl⟩
  refine con_of Tryz.func4 rfl (dd rfl) fun w0 O0 => ?_
  refine c_seq ?_
  refine c_region ?_
  refine o_step (s_box rfl (dd rfl) (fun b2 => ?_))
  refine o_step (s_box rfl (dd rfl) (fun b3 => ?_))
  refine o_val (v_assign rfl) (dd rfl) ?_
  refine o_nil ?_
  refine c_seq ?_
  refine c_seq ?_
  refine c_joinR (γ := Unit) [(2, _), (3, _), (4, _)] (fun _ => True) (fun _ => [(48, .bool P)]) (fun _ => [Blk b2 36 (itC x ⟨lv, po, pw, ps, qd, ql⟩), Blk b3 36 (itC y ⟨lv', po', pw', ps', qd', ql'⟩), Sl eStr lv x.2.2.2.1, Sl eStr po x.2.2.2.2.1.2.2.2.2.1, Sl eStr pw x.2.2.2.2.1.2.2.2.2.2, Sl ePr ps x.2.2.2.2.2.1, Sl (eInt .i64) qd x.2.2.2.2.2.2.2.2.1, Sl ePr ql x.2.2.2.2.2.2.2.2.2, Sl eStr lv' y.2.2.2.1, Sl eStr po' y.2.2.2.2.1.2.2.2.2.1, Sl eStr pw' y.2.2.2.2.1.2.2.2.2.2, Sl ePr ps' y.2.2.2.2.2.1, Sl (eInt .i64) qd' y.2.2.2.2.2.2.2.2.1, Sl ePr ql' y.2.2.2.2.2.2.2.2.2, G1 te pe, G3]) (by repeat (first | exact trivial | refine ⟨rfl, ?_⟩)) ?_ ?_
  rotate_left
  · intro MEET
    refine c_region ?_
    refine o_val (v_load_all ⟨_, Tryz.underlying36⟩ ti36 rfl (hX (by repeat constructor)) rfl) (dd rfl) ?_
    refine o_val (v_load_all ⟨_, Tryz.underlying36⟩ ti36 rfl (hX (by repeat constructor)) rfl) (dd rfl) ?_
    refine o_step (s_buildSlice Tryz.underlying22 ti36 rfl rfl rfl (by decide) (by decide) (beside_agg2 (pXs (by repeat constructor)) hcl) rfl rfl (dd rfl) fun v1 => ?_)
    refine o_step (s_callf cl9 (hfw v1) rfl (dd rfl) (pXs (by repeat constructor)) fun _ _ => ?_)
    refine o_val (v_not rfl) (dd rfl) ?_
    refine o_val (v_move rfl) (dd rfl) ?_
    refine o_guard rfl rfl (fun h5 => ?_) (fun h5 => ?_)
    · have hf : fewP [x, y] = true := by simpa using h5
      simp only [hf, Bool.true_eq_false, false_or] at hP
      refine o_val (v_fieldAddrC 0 Tryz.underlying36 rfl ti3 (by decide) rfl) (dd rfl) ?_
      refine o_on rfl rfl ?_
      refine o_val (v_load lone3 rfl (hX (by repeat constructor)) rfl) (dd rfl) ?_
      refine o_on rfl rfl ?_
      refine o_val (v_lt rfl rfl) (dd rfl) ?_
      refine o_val (v_pick_f rfl rfl) (dd rfl) ?_
      refine o_val (v_move rfl) (dd rfl) ?_
      refine o_guard_f rfl rfl (fun h10 => ?_) (fun h10 => ?_)
      · skip
        refine o_val (v_fieldAddrC 0 Tryz.underlying36 rfl ti3 (by decide) rfl) (dd rfl) ?_
        refine o_on rfl rfl ?_
        refine o_val (v_load lone3 rfl (hX (by repeat constructor)) rfl) (dd rfl) ?_
        refine o_on rfl rfl ?_
        refine o_val (v_gt rfl rfl) (dd rfl) ?_
        refine o_val (v_pick_f rfl rfl) (dd rfl) ?_
        refine o_val (v_move rfl) (dd rfl) ?_
        refine o_guard_f rfl rfl (fun h15 => ?_) (fun h15 => ?_)
        · skip
          refine o_val (v_fieldAddrC 0 Tryz.underlying36 rfl ti3 (by decide) rfl) (dd rfl) ?_
          refine o_on rfl rfl ?_
          refine o_val (v_load lone3 rfl (hX (by repeat constructor)) rfl) (dd rfl) ?_
          refine o_on rfl rfl ?_
          refine o_val (v_lt rfl rfl) (dd rfl) ?_
          refine o_val (v_pick_f rfl rfl) (dd rfl) ?_
          refine o_val (v_move rfl) (dd rfl) ?_
          refine o_guard_f rfl rfl (fun h20 => ?_) (fun h20 => ?_)
          · skip
            refine o_val (v_fieldAddrC 0 Tryz.underlying36 rfl ti3 (by decide) rfl) (dd rfl) ?_
            refine o_on rfl rfl ?_
            refine o_val (v_load lone3 rfl (hX (by repeat constructor)) rfl) (dd rfl) ?_
            refine o_on rfl rfl ?_
            refine o_val (v_gt rfl rfl) (dd rfl) ?_
            refine o_val (v_pick_f rfl rfl) (dd rfl) ?_
            refine o_val (v_move rfl) (dd rfl) ?_
            refine o_guard_f rfl rfl (fun h25 => ?_) (fun h25 => ?_)
            · skip
              refine o_val (v_fieldAddrC 0 Tryz.underlying36 rfl ti3 (by decide) rfl) (dd rfl) ?_
              refine o_on rfl rfl ?_
              refine o_val (v_load lone3 rfl (hX (by repeat constructor)) rfl) (dd rfl) ?_
              refine o_on rfl rfl ?_
              refine o_val (v_eq rfl rfl) (dd rfl) ?_
              refine o_on rfl rfl ?_
              refine o_val (v_move rfl) (dd rfl) ?_
              refine o_guard_t rfl rfl (fun h29 => ?_) (fun h29 => ?_)
              · skip
                refine o_val (v_fieldAddrC 1 Tryz.underlying36 rfl ti3 (by decide) rfl) (dd rfl) ?_
                refine o_on rfl rfl ?_
                refine o_val (v_load lone3 rfl (hX (by repeat constructor)) rfl) (dd rfl) ?_
                refine o_on rfl rfl ?_
                refine o_val (v_gt rfl rfl) (dd rfl) ?_
                refine o_on rfl rfl ?_
                refine o_val (v_move rfl) (dd rfl) ?_
                refine o_guard_f rfl rfl (fun h33 => ?_) (fun h33 => ?_)
                · skip
                  refine o_val (v_fieldAddrC 1 Tryz.underlying36 rfl ti3 (by decide) rfl) (dd rfl) ?_
                  refine o_on rfl rfl ?_
                  refine o_val (v_load lone3 rfl (hX (by repeat constructor)) rfl) (dd rfl) ?_
                  refine o_on rfl rfl ?_
                  refine o_val (v_lt rfl rfl) (dd rfl) ?_
                  refine o_on rfl rfl ?_
                  refine o_val (v_pick_f rfl rfl) (dd rfl) ?_
                  refine o_on rfl rfl ?_
                  refine o_val (v_pick_t rfl rfl) (dd rfl) ?_
                  refine o_val (v_pick_f rfl rfl) (dd rfl) ?_
                  refine o_nil ?_
                  have e : P = decide (x.2.1 < -1099511627776) := by rw [hP]; exact decide_eq_decide.2 (by omega)
                  rw [e] at MEET
                  refine c_use (MEET (()) (trivial)) (by repeat (first | exact trivial | refine ⟨rfl, ?_⟩)) (eX (by repeat constructor))
                · skip
                  refine o_off rfl rfl rfl (dd rfl) ?_
                  refine o_off rfl rfl rfl (dd rfl) ?_
                  refine o_off rfl rfl rfl (dd rfl) ?_
                  refine o_on rfl rfl ?_
                  refine o_val (v_pick_t rfl rfl) (dd rfl) ?_
                  refine o_on rfl rfl ?_
                  refine o_val (v_pick_t rfl rfl) (dd rfl) ?_
                  refine o_val (v_pick_f rfl rfl) (dd rfl) ?_
                  refine o_nil ?_
                  have e : P = true := by rw [hP]; exact decide_eq_true (by omega)
                  rw [e] at MEET
                  refine c_use (MEET (()) (trivial)) (by repeat (first | exact trivial | refine ⟨rfl, ?_⟩)) (eX (by repeat constructor))
              · skip
                refine o_off rfl rfl rfl (dd rfl) ?_
                refine o_off rfl rfl rfl (dd rfl) ?_
                refine o_off rfl rfl rfl (dd rfl) ?_
                refine o_off rfl rfl rfl (dd rfl) ?_
                refine o_offu rfl rfl (dd rfl) ?_
                refine o_offu rfl rfl (dd rfl) ?_
                refine o_offu rfl rfl (dd rfl) ?_
                refine o_off rfl rfl rfl (dd rfl) ?_
                refine o_on rfl rfl ?_
                refine o_val (v_pick_f rfl rfl) (dd rfl) ?_
                refine o_val (v_pick_f rfl rfl) (dd rfl) ?_
                refine o_nil ?_
                have e : P = false := by rw [hP]; exact decide_eq_false (by omega)
                rw [e] at MEET
                refine c_use (MEET (()) (trivial)) (by repeat (first | exact trivial | refine ⟨rfl, ?_⟩)) (eX (by repeat constructor))
            · skip
              refine o_off rfl rfl rfl (dd rfl) ?_
              refine o_off rfl rfl rfl (dd rfl) ?_
              refine o_off rfl rfl rfl (dd rfl) ?_
              refine o_off rfl rfl rfl (dd rfl) ?_
              refine o_offu rfl rfl (dd rfl) ?_
              refine o_offu rfl rfl (dd rfl) ?_
              refine o_offu rfl rfl (dd rfl) ?_
              refine o_offu rfl rfl (dd rfl) ?_
              refine o_offu rfl rfl (dd rfl) ?_
              refine o_offu rfl rfl (dd rfl) ?_
              refine o_offu rfl rfl (dd rfl) ?_
              refine o_offu rfl rfl (dd rfl) ?_
              refine o_off rfl rfl rfl (dd rfl) ?_
              refine o_val (v_pick_t rfl rfl) (dd rfl) ?_
              refine o_nil ?_
              have e : P = true := by rw [hP]; exact decide_eq_true (by omega)
              rw [e] at MEET
              refine c_use (MEET (()) (trivial)) (by repeat (first | exact trivial | refine ⟨rfl, ?_⟩)) (eX (by repeat constructor))
          · skip
            refine o_off rfl rfl rfl (dd rfl) ?_
            refine o_off rfl rfl rfl (dd rfl) ?_
            refine o_off rfl rfl rfl (dd rfl) ?_
            refine o_val (v_pick_t rfl rfl) (dd rfl) ?_
            refine o_val (v_move rfl) (dd rfl) ?_
            refine o_off rfl rfl rfl (dd rfl) ?_
            refine o_off rfl rfl rfl (dd rfl) ?_
            refine o_off rfl rfl rfl (dd rfl) ?_
            refine o_off rfl rfl rfl (dd rfl) ?_
            refine o_offu rfl rfl (dd rfl) ?_
            refine o_offu rfl rfl (dd rfl) ?_
            refine o_offu rfl rfl (dd rfl) ?_
            refine o_offu rfl rfl (dd rfl) ?_
            refine o_offu rfl rfl (dd rfl) ?_
            refine o_offu rfl rfl (dd rfl) ?_
            refine o_offu rfl rfl (dd rfl) ?_
            refine o_offu rfl rfl (dd rfl) ?_
            refine o_off rfl rfl rfl (dd rfl) ?_
            refine o_val (v_pick_t rfl rfl) (dd rfl) ?_
            refine o_nil ?_
            have e : P = true := by rw [hP]; exact decide_eq_true (by omega)
            rw [e] at MEET
            refine c_use (MEET (()) (trivial)) (by repeat (first | exact trivial | refine ⟨rfl, ?_⟩)) (eX (by repeat constructor))
        · skip
          refine o_off rfl rfl rfl (dd rfl) ?_
          refine o_off rfl rfl rfl (dd rfl) ?_
          refine o_off rfl rfl rfl (dd rfl) ?_
          refine o_val (v_pick_t rfl rfl) (dd rfl) ?_
          refine o_val (v_move rfl) (dd rfl) ?_
          refine o_off rfl rfl rfl (dd rfl) ?_
          refine o_off rfl rfl rfl (dd rfl) ?_
          refine o_off rfl rfl rfl (dd rfl) ?_
          refine o_val (v_pick_t rfl rfl) (dd rfl) ?_
          refine o_val (v_move rfl) (dd rfl) ?_
          refine o_off rfl rfl rfl (dd rfl) ?_
          refine o_off rfl rfl rfl (dd rfl) ?_
          refine o_off rfl rfl rfl (dd rfl) ?_
          refine o_off rfl rfl rfl (dd rfl) ?_
          refine o_offu rfl rfl (dd rfl) ?_
          refine o_offu rfl rfl (dd rfl) ?_
          refine o_offu rfl rfl (dd rfl) ?_
          refine o_offu rfl rfl (dd rfl) ?_
          refine o_offu rfl rfl (dd rfl) ?_
          refine o_offu rfl rfl (dd rfl) ?_
          refine o_offu rfl rfl (dd rfl) ?_
          refine o_offu rfl rfl (dd rfl) ?_
          refine o_off rfl rfl rfl (dd rfl) ?_
          refine o_val (v_pick_t rfl rfl) (dd rfl) ?_
          refine o_nil ?_
          have e : P = true := by rw [hP]; exact decide_eq_true (by omega)
          rw [e] at MEET
          refine c_use (MEET (()) (trivial)) (by repeat (first | exact trivial | refine ⟨rfl, ?_⟩)) (eX (by repeat constructor))
      · skip
        refine o_off rfl rfl rfl (dd rfl) ?_
        refine o_off rfl rfl rfl (dd rfl) ?_
        refine o_off rfl rfl rfl (dd rfl) ?_
        refine o_val (v_pick_t rfl rfl) (dd rfl) ?_
        refine o_val (v_move rfl) (dd rfl) ?_
        refine o_off rfl rfl rfl (dd rfl) ?_
        refine o_off rfl rfl rfl (dd rfl) ?_
        refine o_off rfl rfl rfl (dd rfl) ?_
        refine o_val (v_pick_t rfl rfl) (dd rfl) ?_
        refine o_val (v_move rfl) (dd rfl) ?_
        refine o_off rfl rfl rfl (dd rfl) ?_
        refine o_off rfl rfl rfl (dd rfl) ?_
        refine o_off rfl rfl rfl (dd rfl) ?_
        refine o_val (v_pick_t rfl rfl) (dd rfl) ?_
        refine o_val (v_move rfl) (dd rfl) ?_
        refine o_off rfl rfl rfl (dd rfl) ?_
        refine o_off rfl rfl rfl (dd rfl) ?_
        refine o_off rfl rfl rfl (dd rfl) ?_
        refine o_off rfl rfl rfl (dd rfl) ?_
        refine o_offu rfl rfl (dd rfl) ?_
        refine o_offu rfl rfl (dd rfl) ?_
        refine o_offu rfl rfl (dd rfl) ?_
        refine o_offu rfl rfl (dd rfl) ?_
        refine o_offu rfl rfl (dd rfl) ?_
        refine o_offu rfl rfl (dd rfl) ?_
        refine o_offu rfl rfl (dd rfl) ?_
        refine o_offu rfl rfl (dd rfl) ?_
        refine o_off rfl rfl rfl (dd rfl) ?_
        refine o_val (v_pick_t rfl rfl) (dd rfl) ?_
        refine o_nil ?_
        have e : P = true := by rw [hP]; exact decide_eq_true (by omega)
        rw [e] at MEET
        refine c_use (MEET (()) (trivial)) (by repeat (first | exact trivial | refine ⟨rfl, ?_⟩)) (eX (by repeat constructor))
    · have hf : fewP [x, y] = false := by simpa using h5
      refine o_off rfl rfl rfl (dd rfl) ?_
      refine o_off rfl rfl rfl (dd rfl) ?_
      refine o_off rfl rfl rfl (dd rfl) ?_
      refine o_val (v_pick_t rfl rfl) (dd rfl) ?_
      refine o_val (v_move rfl) (dd rfl) ?_
      refine o_off rfl rfl rfl (dd rfl) ?_
      refine o_off rfl rfl rfl (dd rfl) ?_
      refine o_off rfl rfl rfl (dd rfl) ?_
      refine o_val (v_pick_t rfl rfl) (dd rfl) ?_
      refine o_val (v_move rfl) (dd rfl) ?_
      refine o_off rfl rfl rfl (dd rfl) ?_
      refine o_off rfl rfl rfl (dd rfl) ?_
      refine o_off rfl rfl rfl (dd rfl) ?_
      refine o_val (v_pick_t rfl rfl) (dd rfl) ?_
      refine o_val (v_move rfl) (dd rfl) ?_
      refine o_off rfl rfl rfl (dd rfl) ?_
      refine o_off rfl rfl rfl (dd rfl) ?_
      refine o_off rfl rfl rfl (dd rfl) ?_
      refine o_val (v_pick_t rfl rfl) (dd rfl) ?_
      refine o_val (v_move rfl) (dd rfl) ?_
      refine o_off rfl rfl rfl (dd rfl) ?_
      refine o_off rfl rfl rfl (dd rfl) ?_
      refine o_off rfl rfl rfl (dd rfl) ?_
      refine o_off rfl rfl rfl (dd rfl) ?_
      refine o_offu rfl rfl (dd rfl) ?_
      refine o_offu rfl rfl (dd rfl) ?_
      refine o_offu rfl rfl (dd rfl) ?_
      refine o_offu rfl rfl (dd rfl) ?_
      refine o_offu rfl rfl (dd rfl) ?_
      refine o_offu rfl rfl (dd rfl) ?_
      refine o_offu rfl rfl (dd rfl) ?_
      refine o_offu rfl rfl (dd rfl) ?_
      refine o_off rfl rfl rfl (dd rfl) ?_
      refine o_val (v_pick_t rfl rfl) (dd rfl) ?_
      refine o_nil ?_
      have e : P = true := by rw [hP]; exact decide_eq_true (.inl hf)
      rw [e] at MEET
      refine c_use (MEET (()) (trivial)) (by repeat (first | exact trivial | refine ⟨rfl, ?_⟩)) (eX (by repeat constructor))
  rintro - -
  subst hP
  dsimp only [List.cons_append, List.nil_append]
  refine c_cond_p rfl (fun hp => ?_) (fun hp => ?_)
  · refine c_seq ?_
    refine c_region ?_
    refine o_step (s_callf cl10 (hal) rfl (dd rfl) (pXs (by repeat constructor)) fun _ _ => ?_)
    refine o_val (v_assign rfl) (dd rfl) ?_
    refine o_nil ?_
    refine c_ret1 Tryz.func4 rfl rfl fun w O hS => ?_
    exact ⟨(), rfl, trivial, trivial⟩
  · have hf : fewP [x, y] = true := by
      cases h : fewP [x, y] with
      | true => rfl
      | false => exact absurd (.inl h) hp
    simp only [hf, Bool.true_eq_false, false_or] at hp
    obtain ⟨-, h80⟩ := few_true hf
    simp only [List.map_cons, List.map_nil, List.sum_cons, List.sum_nil] at h80
    have hx8 := itB_len x
    have hy8 := itB_len y
    have c1 := fun b v l hl => put_con b v l x ⟨lv, po, pw, ps, qd, ql⟩ (by omega) hi hl
    have c2 := fun b v l hl => put_con b v l y ⟨lv', po', pw', ps', qd', ql'⟩ (by omega) hi' hl
    dsimp only at c1 c2
    have c3 := c1
    refine c_skip ?_
    refine c_seq ?_
    refine c_region ?_
    refine o_step (s_alloc ti27 (dd rfl) (fun b5 => ?_))
    refine o_step (s_alloc ti27 (dd rfl) (fun b6 => ?_))
    refine o_step (s_alloc ti27 (dd rfl) (fun b7 => ?_))
    refine o_nil ?_
    refine c_seq ?_
    refine c_region ?_
    refine o_val (v_load_all ⟨_, Tryz.underlying36⟩ ti36 rfl (hX (by repeat constructor)) rfl) (dd rfl) ?_
    refine o_step (s_callf cl11 (c1 b5 (.slice none 0 0) [] (by simp)) rfl (dd rfl) (pXs (by repeat constructor)) fun v5 _ => ?_)
    refine o_nil ?_
    refine c_seq ?_
    refine c_region ?_
    refine o_val (v_load_all ⟨_, Tryz.underlying36⟩ ti36 rfl (hX (by repeat constructor)) rfl) (dd rfl) ?_
    refine o_step (s_callf cl11 (c2 b5 v5 ([] ++ itB x) (by simp; omega)) rfl (dd rfl) (pXs (by repeat constructor)) fun w5 _ => ?_)
    refine o_nil ?_
    refine c_seq ?_
    refine c_region ?_
    refine o_val (v_load_all ⟨_, Tryz.underlying36⟩ ti36 rfl (hX (by repeat constructor)) rfl) (dd rfl) ?_
    refine o_step (s_callf cl11 (c1 b6 (.slice none 0 0) [] (by simp)) rfl (dd rfl) (pXs (by repeat constructor)) fun v6 _ => ?_)
    refine o_nil ?_
    refine c_seq ?_
    refine c_region ?_
    refine o_val (v_load_all ⟨_, Tryz.underlying36⟩ ti36 rfl (hX (by repeat constructor)) rfl) (dd rfl) ?_
    refine o_step (s_callf cl11 (c2 b7 (.slice none 0 0) [] (by simp)) rfl (dd rfl) (pXs (by repeat constructor)) fun v7 _ => ?_)
    refine o_nil ?_
    refine c_seq ?_
    refine c_seq ?_
    simp only [List.nil_append]
    have hszx : (⟨(itB x).toArray⟩ : ByteArray).size = (itB x).length := sB_size (itB x)
    have hszy : (⟨(itB y).toArray⟩ : ByteArray).size = (itB y).length := sB_size (itB y)
    refine c_joinR (γ := Unit) [(2, _), (4, _), (5, _), (7, _)] (fun _ => True) (fun _ => [(65, .bool (decide (sB (itB x ++ itB y) ≠ sB (itB x) ++ sB (itB y))))]) (fun _ => [Blk b2 36 (itC x ⟨lv, po, pw, ps, qd, ql⟩), Sl eStr lv x.2.2.2.1, Blk b5 27 [w5], Own eByte 5 w5 (itB x ++ itB y), Blk b7 27 [v7], Own eByte 5 v7 (itB y), G1 te pe, G3]) (by repeat (first | exact trivial | refine ⟨rfl, ?_⟩)) ?_ ?_
    rotate_left
    · intro MEET
      skip
      refine c_held [BlkR b5 27 [w5], Sl eByte w5 (itB x ++ itB y), BlkR b6 27 [v6], Sl eByte v6 (itB x), BlkR b7 27 [v7], Sl eByte v7 (itB y)] rfl ?_
      refine a_one 0 rfl (by kernel_rfl) (s_callf_keep cl12 (bytes_con b5 w5 (itB x ++ itB y) (by simp; omega)) rfl (dd rfl) (rX (by repeat constructor)) (fun _ => sX) (fun r1 _ => a_on (eX (by repeat constructor)) ?_))
      refine a_two 1 2 rfl rfl (by kernel_rfl) ?_ ?_
      · skip
        refine s_val (v_conv_bytes Tryz.underlying25 Tryz.underlying5 Tryz.underlying9 rfl (hX (by repeat constructor))) (dd rfl) (a_on (eX (by repeat constructor)) ?_)
        refine a_one 2 rfl (by kernel_rfl) (s_callf_keep cl12 (bytes_con b6 v6 (itB x) (by omega)) rfl (dd rfl) (rX (by repeat constructor)) (fun _ => sX) (fun r2 _ => a_on (eX (by repeat constructor)) ?_))
        refine a_two 3 4 rfl rfl (by kernel_rfl) ?_ ?_
        · skip
          refine s_val (v_conv_bytes Tryz.underlying25 Tryz.underlying5 Tryz.underlying9 rfl (hX (by repeat constructor))) (dd rfl) (a_on (eX (by repeat constructor)) ?_)
          refine a_one 4 rfl (by kernel_rfl) (s_callf_keep cl12 (bytes_con b7 v7 (itB y) (by omega)) rfl (dd rfl) (rX (by repeat constructor)) (fun _ => sX) (fun r3 _ => a_on (eX (by repeat constructor)) ?_))
          refine a_one 5 rfl (by kernel_rfl) (s_val (v_conv_bytes Tryz.underlying25 Tryz.underlying5 Tryz.underlying9 rfl (hX (by repeat constructor))) (dd rfl) (a_on (eX (by repeat constructor)) ?_))
          refine a_take 6 rfl (by kernel_rfl) (by kernel_rfl) (by kernel_rfl) (v_cat rfl rfl (by first | omega | (simp only [ByteArray.size_append]; omega))) (eX (by repeat constructor)) (dd rfl) ?_
          refine a_take 7 rfl (by kernel_rfl) (by kernel_rfl) (by kernel_rfl) (v_sne rfl rfl) (eX (by repeat constructor)) (dd rfl) ?_
          refine a_done (by kernel_rfl) ?_ _
          refine c_use (MEET (()) (trivial)) (by repeat (first | exact trivial | refine ⟨rfl, ?_⟩)) (eX (by repeat constructor))
        · skip
          refine s_callf_keep cl12 (bytes_con b7 v7 (itB y) (by omega)) rfl (dd rfl) (rX (by repeat constructor)) (fun _ => sX) (fun r3 _ => a_on (eX (by repeat constructor)) ?_)
          refine a_two 3 5 rfl rfl (by kernel_rfl) ?_ ?_
          · skip
            refine s_val (v_conv_bytes Tryz.underlying25 Tryz.underlying5 Tryz.underlying9 rfl (hX (by repeat constructor))) (dd rfl) (a_on (eX (by repeat constructor)) ?_)
            refine a_one 5 rfl (by kernel_rfl) (s_val (v_conv_bytes Tryz.underlying25 Tryz.underlying5 Tryz.underlying9 rfl (hX (by repeat constructor))) (dd rfl) (a_on (eX (by repeat constructor)) ?_))
            refine a_take 6 rfl (by kernel_rfl) (by kernel_rfl) (by kernel_rfl) (v_cat rfl rfl (by first | omega | (simp only [ByteArray.size_append]; omega))) (eX (by repeat constructor)) (dd rfl) ?_
            refine a_take 7 rfl (by kernel_rfl) (by kernel_rfl) (by kernel_rfl) (v_sne rfl rfl) (eX (by repeat constructor)) (dd rfl) ?_
            refine a_done (by kernel_rfl) ?_ _
            refine c_use (MEET (()) (trivial)) (by repeat (first | exact trivial | refine ⟨rfl, ?_⟩)) (eX (by repeat constructor))
          · skip
            refine s_val (v_conv_bytes Tryz.underlying25 Tryz.underlying5 Tryz.underlying9 rfl (hX (by repeat constructor))) (dd rfl) (a_on (eX (by repeat constructor)) ?_)
            refine a_one 3 rfl (by kernel_rfl) (s_val (v_conv_bytes Tryz.underlying25 Tryz.underlying5 Tryz.underlying9 rfl (hX (by repeat constructor))) (dd rfl) (a_on (eX (by repeat constructor)) ?_))
            refine a_take 6 rfl (by kernel_rfl) (by kernel_rfl) (by kernel_rfl) (v_cat rfl rfl (by first | omega | (simp only [ByteArray.size_append]; omega))) (eX (by repeat constructor)) (dd rfl) ?_
            refine a_take 7 rfl (by kernel_rfl) (by kernel_rfl) (by kernel_rfl) (v_sne rfl rfl) (eX (by repeat constructor)) (dd rfl) ?_
            refine a_done (by kernel_rfl) ?_ _
            refine c_use (MEET (()) (trivial)) (by repeat (first | exact trivial | refine ⟨rfl, ?_⟩)) (eX (by repeat constructor))
      · skip
        refine s_callf_keep cl12 (bytes_con b6 v6 (itB x) (by omega)) rfl (dd rfl) (rX (by repeat constructor)) (fun _ => sX) (fun r2 _ => a_on (eX (by repeat constructor)) ?_)
        refine a_three 1 3 4 rfl rfl rfl (by kernel_rfl) ?_ ?_ ?_
        · skip
          refine s_val (v_conv_bytes Tryz.underlying25 Tryz.underlying5 Tryz.underlying9 rfl (hX (by repeat constructor))) (dd rfl) (a_on (eX (by repeat constructor)) ?_)
          refine a_two 3 4 rfl rfl (by kernel_rfl) ?_ ?_
          · skip
            refine s_val (v_conv_bytes Tryz.underlying25 Tryz.underlying5 Tryz.underlying9 rfl (hX (by repeat constructor))) (dd rfl) (a_on (eX (by repeat constructor)) ?_)
            refine a_one 4 rfl (by kernel_rfl) (s_callf_keep cl12 (bytes_con b7 v7 (itB y) (by omega)) rfl (dd rfl) (rX (by repeat constructor)) (fun _ => sX) (fun r3 _ => a_on (eX (by repeat constructor)) ?_))
            refine a_one 5 rfl (by kernel_rfl) (s_val (v_conv_bytes Tryz.underlying25 Tryz.underlying5 Tryz.underlying9 rfl (hX (by repeat constructor))) (dd rfl) (a_on (eX (by repeat constructor)) ?_))
            refine a_take 6 rfl (by kernel_rfl) (by kernel_rfl) (by kernel_rfl) (v_cat rfl rfl (by first | omega | (simp only [ByteArray.size_append]; omega))) (eX (by repeat constructor)) (dd rfl) ?_
            refine a_take 7 rfl (by kernel_rfl) (by kernel_rfl) (by kernel_rfl) (v_sne rfl rfl) (eX (by repeat constructor)) (dd rfl) ?_
            refine a_done (by kernel_rfl) ?_ _
            refine c_use (MEET (()) (trivial)) (by repeat (first | exact trivial | refine ⟨rfl, ?_⟩)) (eX (by repeat constructor))
          · skip
            refine s_callf_keep cl12 (bytes_con b7 v7 (itB y) (by omega)) rfl (dd rfl) (rX (by repeat constructor)) (fun _ => sX) (fun r3 _ => a_on (eX (by repeat constructor)) ?_)
            refine a_two 3 5 rfl rfl (by kernel_rfl) ?_ ?_
            · skip
              refine s_val (v_conv_bytes Tryz.underlying25 Tryz.underlying5 Tryz.underlying9 rfl (hX (by repeat constructor))) (dd rfl) (a_on (eX (by repeat constructor)) ?_)
              refine a_one 5 rfl (by kernel_rfl) (s_val (v_conv_bytes Tryz.underlying25 Tryz.underlying5 Tryz.underlying9 rfl (hX (by repeat constructor))) (dd rfl) (a_on (eX (by repeat constructor)) ?_))
              refine a_take 6 rfl (by kernel_rfl) (by kernel_rfl) (by kernel_rfl) (v_cat rfl rfl (by first | omega | (simp only [ByteArray.size_append]; omega))) (eX (by repeat constructor)) (dd rfl) ?_
              refine a_take 7 rfl (by kernel_rfl) (by kernel_rfl) (by kernel_rfl) (v_sne rfl rfl) (eX (by repeat constructor)) (dd rfl) ?_
              refine a_done (by kernel_rfl) ?_ _
              refine c_use (MEET (()) (trivial)) (by repeat (first | exact trivial | refine ⟨rfl, ?_⟩)) (eX (by repeat constructor))
            · skip
              refine s_val (v_conv_bytes Tryz.underlying25 Tryz.underlying5 Tryz.underlying9 rfl (hX (by repeat constructor))) (dd rfl) (a_on (eX (by repeat constructor)) ?_)
              refine a_one 3 rfl (by kernel_rfl) (s_val (v_conv_bytes Tryz.underlying25 Tryz.underlying5 Tryz.underlying9 rfl (hX (by repeat constructor))) (dd rfl) (a_on (eX (by repeat constructor)) ?_))
              refine a_take 6 rfl (by kernel_rfl) (by kernel_rfl) (by kernel_rfl) (v_cat rfl rfl (by first | omega | (simp only [ByteArray.size_append]; omega))) (eX (by repeat constructor)) (dd rfl) ?_
              refine a_take 7 rfl (by kernel_rfl) (by kernel_rfl) (by kernel_rfl) (v_sne rfl rfl) (eX (by repeat constructor)) (dd rfl) ?_
              refine a_done (by kernel_rfl) ?_ _
              refine c_use (MEET (()) (trivial)) (by repeat (first | exact trivial | refine ⟨rfl, ?_⟩)) (eX (by repeat constructor))
        · skip
          refine s_val (v_conv_bytes Tryz.underlying25 Tryz.underlying5 Tryz.underlying9 rfl (hX (by repeat constructor))) (dd rfl) (a_on (eX (by repeat constructor)) ?_)
          refine a_two 1 4 rfl rfl (by kernel_rfl) ?_ ?_
          · skip
            refine s_val (v_conv_bytes Tryz.underlying25 Tryz.underlying5 Tryz.underlying9 rfl (hX (by repeat constructor))) (dd rfl) (a_on (eX (by repeat constructor)) ?_)
            refine a_one 4 rfl (by kernel_rfl) (s_callf_keep cl12 (bytes_con b7 v7 (itB y) (by omega)) rfl (dd rfl) (rX (by repeat constructor)) (fun _ => sX) (fun r3 _ => a_on (eX (by repeat constructor)) ?_))
            refine a_one 5 rfl (by kernel_rfl) (s_val (v_conv_bytes Tryz.underlying25 Tryz.underlying5 Tryz.underlying9 rfl (hX (by repeat constructor))) (dd rfl) (a_on (eX (by repeat constructor)) ?_))
            refine a_take 6 rfl (by kernel_rfl) (by kernel_rfl) (by kernel_rfl) (v_cat rfl rfl (by first | omega | (simp only [ByteArray.size_append]; omega))) (eX (by repeat constructor)) (dd rfl) ?_
            refine a_take 7 rfl (by kernel_rfl) (by kernel_rfl) (by kernel_rfl) (v_sne rfl rfl) (eX (by repeat constructor)) (dd rfl) ?_
            refine a_done (by kernel_rfl) ?_ _
            refine c_use (MEET (()) (trivial)) (by repeat (first | exact trivial | refine ⟨rfl, ?_⟩)) (eX (by repeat constructor))
          · skip
            refine s_callf_keep cl12 (bytes_con b7 v7 (itB y) (by omega)) rfl (dd rfl) (rX (by repeat constructor)) (fun _ => sX) (fun r3 _ => a_on (eX (by repeat constructor)) ?_)
            refine a_two 1 5 rfl rfl (by kernel_rfl) ?_ ?_
            · skip
              refine s_val (v_conv_bytes Tryz.underlying25 Tryz.underlying5 Tryz.underlying9 rfl (hX (by repeat constructor))) (dd rfl) (a_on (eX (by repeat constructor)) ?_)
              refine a_one 5 rfl (by kernel_rfl) (s_val (v_conv_bytes Tryz.underlying25 Tryz.underlying5 Tryz.underlying9 rfl (hX (by repeat constructor))) (dd rfl) (a_on (eX (by repeat constructor)) ?_))
              refine a_take 6 rfl (by kernel_rfl) (by kernel_rfl) (by kernel_rfl) (v_cat rfl rfl (by first | omega | (simp only [ByteArray.size_append]; omega))) (eX (by repeat constructor)) (dd rfl) ?_
              refine a_take 7 rfl (by kernel_rfl) (by kernel_rfl) (by kernel_rfl) (v_sne rfl rfl) (eX (by repeat constructor)) (dd rfl) ?_
              refine a_done (by kernel_rfl) ?_ _
              refine c_use (MEET (()) (trivial)) (by repeat (first | exact trivial | refine ⟨rfl, ?_⟩)) (eX (by repeat constructor))
            · skip
              refine s_val (v_conv_bytes Tryz.underlying25 Tryz.underlying5 Tryz.underlying9 rfl (hX (by repeat constructor))) (dd rfl) (a_on (eX (by repeat constructor)) ?_)
              refine a_take 6 rfl (by kernel_rfl) (by kernel_rfl) (by kernel_rfl) (v_cat rfl rfl (by first | omega | (simp only [ByteArray.size_append]; omega))) (eX (by repeat constructor)) (dd rfl) ?_
              refine a_one 1 rfl (by kernel_rfl) (s_val (v_conv_bytes Tryz.underlying25 Tryz.underlying5 Tryz.underlying9 rfl (hX (by repeat constructor))) (dd rfl) (a_on (eX (by repeat constructor)) ?_))
              refine a_take 7 rfl (by kernel_rfl) (by kernel_rfl) (by kernel_rfl) (v_sne rfl rfl) (eX (by repeat constructor)) (dd rfl) ?_
              refine a_done (by kernel_rfl) ?_ _
              refine c_use (MEET (()) (trivial)) (by repeat (first | exact trivial | refine ⟨rfl, ?_⟩)) (eX (by repeat constructor))
        · skip
          refine s_callf_keep cl12 (bytes_con b7 v7 (itB y) (by omega)) rfl (dd rfl) (rX (by repeat constructor)) (fun _ => sX) (fun r3 _ => a_on (eX (by repeat constructor)) ?_)
          refine a_three 1 3 5 rfl rfl rfl (by kernel_rfl) ?_ ?_ ?_
          · skip
            refine s_val (v_conv_bytes Tryz.underlying25 Tryz.underlying5 Tryz.underlying9 rfl (hX (by repeat constructor))) (dd rfl) (a_on (eX (by repeat constructor)) ?_)
            refine a_two 3 5 rfl rfl (by kernel_rfl) ?_ ?_
            · skip
              refine s_val (v_conv_bytes Tryz.underlying25 Tryz.underlying5 Tryz.underlying9 rfl (hX (by repeat constructor))) (dd rfl) (a_on (eX (by repeat constructor)) ?_)
              refine a_one 5 rfl (by kernel_rfl) (s_val (v_conv_bytes Tryz.underlying25 Tryz.underlying5 Tryz.underlying9 rfl (hX (by repeat constructor))) (dd rfl) (a_on (eX (by repeat constructor)) ?_))
              refine a_take 6 rfl (by kernel_rfl) (by kernel_rfl) (by kernel_rfl) (v_cat rfl rfl (by first | omega | (simp only [ByteArray.size_append]; omega))) (eX (by repeat constructor)) (dd rfl) ?_
              refine a_take 7 rfl (by kernel_rfl) (by kernel_rfl) (by kernel_rfl) (v_sne rfl rfl) (eX (by repeat constructor)) (dd rfl) ?_
              refine a_done (by kernel_rfl) ?_ _
              refine c_use (MEET (()) (trivial)) (by repeat (first | exact trivial | refine ⟨rfl, ?_⟩)) (eX (by repeat constructor))
            · skip
              refine s_val (v_conv_bytes Tryz.underlying25 Tryz.underlying5 Tryz.underlying9 rfl (hX (by repeat constructor))) (dd rfl) (a_on (eX (by repeat constructor)) ?_)
              refine a_one 3 rfl (by kernel_rfl) (s_val (v_conv_bytes Tryz.underlying25 Tryz.underlying5 Tryz.underlying9 rfl (hX (by repeat constructor))) (dd rfl) (a_on (eX (by repeat constructor)) ?_))
              refine a_take 6 rfl (by kernel_rfl) (by kernel_rfl) (by kernel_rfl) (v_cat rfl rfl (by first | omega | (simp only [ByteArray.size_append]; omega))) (eX (by repeat constructor)) (dd rfl) ?_
              refine a_take 7 rfl (by kernel_rfl) (by kernel_rfl) (by kernel_rfl) (v_sne rfl rfl) (eX (by repeat constructor)) (dd rfl) ?_
              refine a_done (by kernel_rfl) ?_ _
              refine c_use (MEET (()) (trivial)) (by repeat (first | exact trivial | refine ⟨rfl, ?_⟩)) (eX (by repeat constructor))
          · skip
            refine s_val (v_conv_bytes Tryz.underlying25 Tryz.underlying5 Tryz.underlying9 rfl (hX (by repeat constructor))) (dd rfl) (a_on (eX (by repeat constructor)) ?_)
            refine a_two 1 5 rfl rfl (by kernel_rfl) ?_ ?_
            · skip
              refine s_val (v_conv_bytes Tryz.underlying25 Tryz.underlying5 Tryz.underlying9 rfl (hX (by repeat constructor))) (dd rfl) (a_on (eX (by repeat constructor)) ?_)
              refine a_one 5 rfl (by kernel_rfl) (s_val (v_conv_bytes Tryz.underlying25 Tryz.underlying5 Tryz.underlying9 rfl (hX (by repeat constructor))) (dd rfl) (a_on (eX (by repeat constructor)) ?_))
              refine a_take 6 rfl (by kernel_rfl) (by kernel_rfl) (by kernel_rfl) (v_cat rfl rfl (by first | omega | (simp only [ByteArray.size_append]; omega))) (eX (by repeat constructor)) (dd rfl) ?_
              refine a_take 7 rfl (by kernel_rfl) (by kernel_rfl) (by kernel_rfl) (v_sne rfl rfl) (eX (by repeat constructor)) (dd rfl) ?_
              refine a_done (by kernel_rfl) ?_ _
              refine c_use (MEET (()) (trivial)) (by repeat (first | exact trivial | refine ⟨rfl, ?_⟩)) (eX (by repeat constructor))
            · skip
              refine s_val (v_conv_bytes Tryz.underlying25 Tryz.underlying5 Tryz.underlying9 rfl (hX (by repeat constructor))) (dd rfl) (a_on (eX (by repeat constructor)) ?_)
              refine a_take 6 rfl (by kernel_rfl) (by kernel_rfl) (by kernel_rfl) (v_cat rfl rfl (by first | omega | (simp only [ByteArray.size_append]; omega))) (eX (by repeat constructor)) (dd rfl) ?_
              refine a_one 1 rfl (by kernel_rfl) (s_val (v_conv_bytes Tryz.underlying25 Tryz.underlying5 Tryz.underlying9 rfl (hX (by repeat constructor))) (dd rfl) (a_on (eX (by repeat constructor)) ?_))
              refine a_take 7 rfl (by kernel_rfl) (by kernel_rfl) (by kernel_rfl) (v_sne rfl rfl) (eX (by repeat constructor)) (dd rfl) ?_
              refine a_done (by kernel_rfl) ?_ _
              refine c_use (MEET (()) (trivial)) (by repeat (first | exact trivial | refine ⟨rfl, ?_⟩)) (eX (by repeat constructor))
          · skip
            refine s_val (v_conv_bytes Tryz.underlying25 Tryz.underlying5 Tryz.underlying9 rfl (hX (by repeat constructor))) (dd rfl) (a_on (eX (by repeat constructor)) ?_)
            refine a_two 1 3 rfl rfl (by kernel_rfl) ?_ ?_
            · skip
              refine s_val (v_conv_bytes Tryz.underlying25 Tryz.underlying5 Tryz.underlying9 rfl (hX (by repeat constructor))) (dd rfl) (a_on (eX (by repeat constructor)) ?_)
              refine a_one 3 rfl (by kernel_rfl) (s_val (v_conv_bytes Tryz.underlying25 Tryz.underlying5 Tryz.underlying9 rfl (hX (by repeat constructor))) (dd rfl) (a_on (eX (by repeat constructor)) ?_))
              refine a_take 6 rfl (by kernel_rfl) (by kernel_rfl) (by kernel_rfl) (v_cat rfl rfl (by first | omega | (simp only [ByteArray.size_append]; omega))) (eX (by repeat constructor)) (dd rfl) ?_
              refine a_take 7 rfl (by kernel_rfl) (by kernel_rfl) (by kernel_rfl) (v_sne rfl rfl) (eX (by repeat constructor)) (dd rfl) ?_
              refine a_done (by kernel_rfl) ?_ _
              refine c_use (MEET (()) (trivial)) (by repeat (first | exact trivial | refine ⟨rfl, ?_⟩)) (eX (by repeat constructor))
            · skip
              refine s_val (v_conv_bytes Tryz.underlying25 Tryz.underlying5 Tryz.underlying9 rfl (hX (by repeat constructor))) (dd rfl) (a_on (eX (by repeat constructor)) ?_)
              refine a_take 6 rfl (by kernel_rfl) (by kernel_rfl) (by kernel_rfl) (v_cat rfl rfl (by first | omega | (simp only [ByteArray.size_append]; omega))) (eX (by repeat constructor)) (dd rfl) ?_
              refine a_one 1 rfl (by kernel_rfl) (s_val (v_conv_bytes Tryz.underlying25 Tryz.underlying5 Tryz.underlying9 rfl (hX (by repeat constructor))) (dd rfl) (a_on (eX (by repeat constructor)) ?_))
              refine a_take 7 rfl (by kernel_rfl) (by kernel_rfl) (by kernel_rfl) (v_sne rfl rfl) (eX (by repeat constructor)) (dd rfl) ?_
              refine a_done (by kernel_rfl) ?_ _
              refine c_use (MEET (()) (trivial)) (by repeat (first | exact trivial | refine ⟨rfl, ?_⟩)) (eX (by repeat constructor))
    rintro - -
    dsimp only [List.cons_append, List.nil_append]
    refine c_cond_p rfl (fun hne => ?_) (fun hne => ?_)
    · skip
      exact absurd (sB_app _ _).symm hne
    refine c_skip ?_
    refine c_seq ?_
    refine c_region ?_
    refine o_step (s_callf_keep cl12 (bytes_con b5 w5 (itB x ++ itB y) (by simp; omega)) rfl (dd rfl) (rX (by repeat constructor)) (fun _ => sX) (fun r _ => ?_))
    refine o_step (s_callf cl13 (of_con r (itB x ++ itB y) (by simp; omega)) rfl (dd rfl) (pXs (by repeat constructor)) fun i _ => ?_)
    refine o_val (v_assign rfl) (dd rfl) ?_
    refine o_nil ?_
    refine c_seq ?_
    refine c_seq ?_
    refine c_region ?_
    refine o_val (v_move rfl) (dd rfl) ?_
    refine o_val (v_eq_ptr_nil Tryz.underlying40 rfl rfl) (dd rfl) ?_
    refine o_nil ?_
    refine c_cond_f rfl ?_
    refine c_skip ?_
    refine c_seq ?_
    refine c_seq ?_
    refine c_region ?_
    refine o_val (v_fieldAddrC 0 Tryz.underlying36 rfl ti3 (by decide) rfl) (dd rfl) ?_
    refine o_val (v_load lone3 rfl (hX (by repeat constructor)) rfl) (dd rfl) ?_
    refine o_nil ?_
    refine c_block ?_
    refine c_seq ?_
    refine c_region ?_
    refine o_val (v_eq rfl rfl) (dd rfl) ?_
    refine o_val (v_assign rfl) (dd rfl) ?_
    refine o_nil ?_
    obtain ⟨i, bv⟩ := i
    dsimp only
    refine c_joinR (γ := Value) [(4, _), (7, _)] (fun _ => True) (fun _ => [(8, ptr i)]) (fun w => [Blk i 92 [w, .bool false], Sl eByte w (itB y), Blk b7 27 [v7], Own eByte 5 v7 (itB y), G1 te pe, G3]) (by repeat (first | exact trivial | refine ⟨rfl, ?_⟩)) ?_ ?_
    rotate_left
    · intro MEET
      refine c_cond_p rfl (fun h0 => ?_) (fun h0 => ?_)
      · have e : takeNum (itB x ++ itB y, false) = ((itB y, false), x.2.1) := by
          rw [show itB x = numB x.2.1 by unfold itB; rw [if_pos h0]]
          exact takeNum_enc (by unfold far9; omega) _
        have hr := inNum_con i bv (itB x ++ itB y, false) te pe
        rw [e] at hr
        dsimp only at hr
        refine c_region ?_
        refine o_val (v_move rfl) (dd rfl) ?_
        refine o_step (s_callf cl14 (hr) rfl (dd rfl) (pXs (by repeat constructor)) fun q _ => ?_)
        refine o_nil ?_
        refine c_use (MEET (q) (trivial)) (by repeat (first | exact trivial | refine ⟨rfl, ?_⟩)) (eX (by repeat constructor))
      · skip
        refine c_seq ?_
        refine c_region ?_
        refine o_val (v_eq rfl rfl) (dd rfl) ?_
        refine o_val (v_assign rfl) (dd rfl) ?_
        refine o_nil ?_
        refine c_cond_p rfl (fun h1 => ?_) (fun h1 => ?_)
        · have e : takeFlag (itB x ++ itB y, false) = ((itB y, false), decide (0 < x.2.1)) := by
            rw [show itB x = flagB (decide (0 < x.2.1)) by unfold itB; rw [if_neg h0, if_pos h1]]
            exact takeFlag_enc _ _
          have hr := inFlag_con i bv (itB x ++ itB y, false) te pe
          rw [e] at hr
          dsimp only at hr
          refine c_region ?_
          refine o_val (v_move rfl) (dd rfl) ?_
          refine o_step (s_callf cl15 (hr) rfl (dd rfl) (pXs (by repeat constructor)) fun q _ => ?_)
          refine o_nil ?_
          refine c_use (MEET (q) (trivial)) (by repeat (first | exact trivial | refine ⟨rfl, ?_⟩)) (eX (by repeat constructor))
        · skip
          refine c_seq ?_
          refine c_region ?_
          refine o_val (v_eq rfl rfl) (dd rfl) ?_
          refine o_val (v_assign rfl) (dd rfl) ?_
          refine o_nil ?_
          refine c_cond_p rfl (fun h2 => ?_) (fun h2 => ?_)
          · have e : takeText x.2.2.1.size (itB x ++ itB y, false) = ((itB y, false), x.2.2.1) := by
              rw [show itB x = textB x.2.2.1 by unfold itB; rw [if_neg h0, if_neg h1, if_pos h2]]
              exact takeText_enc (Int.le_refl _) (by unfold far9; unfold fewI at h80; omega) _
            have hr := inText_con i bv (itB x ++ itB y, false) x.2.2.1.size te pe
            rw [e] at hr
            dsimp only at hr
            refine c_region ?_
            refine o_val (v_move rfl) (dd rfl) ?_
            refine o_val (v_fieldAddrC 2 Tryz.underlying36 rfl ti9 (by decide) rfl) (dd rfl) ?_
            refine o_val (v_load lone9 rfl (hX (by repeat constructor)) rfl) (dd rfl) ?_
            refine o_val (v_len_str Tryz.underlying9 rfl) (dd rfl) ?_
            refine o_step (s_callf cl16 (hr) rfl (dd rfl) (pXs (by repeat constructor)) fun q _ => ?_)
            refine o_nil ?_
            refine c_use (MEET (q) (trivial)) (by repeat (first | exact trivial | refine ⟨rfl, ?_⟩)) (eX (by repeat constructor))
          · have h3 : x.1 = 3 := by omega
            have e : takeTexts x.2.2.2.1.length 8000 (itB x ++ itB y, false) = ((itB y, false), x.2.2.2.1) := by
              rw [show itB x = textsB x.2.2.2.1 by unfold itB; rw [if_neg h0, if_neg h1, if_neg h2, if_pos h3]]
              exact takeSome_enc (ok := fun s => s.size ≤ 8000) (fun s r hs => takeText_enc (by omega) (by unfold far9; omega) r) (Int.le_refl _) (by unfold far9; unfold fewI at h80; omega) (fun s hs => by have := sumS_mem hs; unfold fewI at h80; omega) _
            have hr := inTexts_con i bv (itB x ++ itB y, false) x.2.2.2.1.length 8000 te pe
            rw [e] at hr
            dsimp only at hr
            refine c_seq ?_
            refine c_region ?_
            refine o_val (v_eq rfl rfl) (dd rfl) ?_
            refine o_val (v_assign rfl) (dd rfl) ?_
            refine o_nil ?_
            refine c_cond_p rfl (fun h3' => ?_) (fun h3' => ?_)
            · skip
              refine c_region ?_
              refine o_val (v_move rfl) (dd rfl) ?_
              refine o_val (v_fieldAddrC 3 Tryz.underlying36 rfl ti28 (by decide) rfl) (dd rfl) ?_
              refine o_val (v_load lone28 rfl (hX (by repeat constructor)) rfl) (dd rfl) ?_
              refine o_val ((by first | exact v_len_form Tryz.underlying28 rfl | exact v_len_sl Tryz.underlying28 rfl (hX (by repeat constructor)))) (dd rfl) ?_
              refine o_step (s_callf cl17 (hr) rfl (dd rfl) (pXs (by repeat constructor)) fun q _ => ?_)
              refine o_nil ?_
              refine c_use (MEET (q.1) (trivial)) (by repeat (first | exact trivial | refine ⟨rfl, ?_⟩)) (eX (by repeat constructor))
            · skip
              exact absurd h3 h3'
    rintro w -
    dsimp only [List.cons_append, List.nil_append]
    have hlf := left_con i w (itB y, false)
    refine c_inBlock ?_
    refine c_seq ?_
    refine c_region ?_
    refine o_step (s_callf_keep cl10 (hal) rfl (dd rfl) (rX (by repeat constructor)) (fun _ => sX) (fun _ _ => ?_))
    refine o_val (v_move rfl) (dd rfl) ?_
    refine o_guard rfl rfl (fun _ => ?_) (fun h_ => absurd ((show _ = true from rfl).symm.trans h_) (by decide))
    refine o_val (v_move rfl) (dd rfl) ?_
    refine o_on rfl rfl ?_
    refine o_step (s_callf_keep cl18 (hlf) rfl (dd rfl) (rX (by repeat constructor)) (fun _ => sX) (fun _ _ => ?_))
    refine o_on rfl rfl ?_
    refine o_step (s_callf_keep cl12 (bytes_con b7 v7 (itB y) (by omega)) rfl (dd rfl) (rX (by repeat constructor)) (fun _ => sX) (fun r9 _ => ?_))
    refine o_on rfl rfl ?_
    refine o_val ((by first | exact v_len_form Tryz.underlying25 rfl | exact v_len_sl Tryz.underlying25 rfl (hX (by repeat constructor)))) (dd rfl) ?_
    refine o_on rfl rfl ?_
    refine o_val (v_eq rfl rfl) (dd rfl) ?_
    refine o_val (v_pick_t rfl rfl) (dd rfl) ?_
    refine o_val (v_assign rfl) (dd rfl) ?_
    refine o_nil ?_
    refine c_ret1 Tryz.func4 rfl rfl fun w O hS => ?_
    exact ⟨(), congrArg Value.bool (decide_eq_true rfl), trivial, trivial⟩
end Go.Proofs.YtmgkeippepeggaaGreatDoor
/- Chapter 09: things as arguments, and the row of a law whose arguments are of bounded bulk. -/
namespace Go.Proofs.YtmgkeippepeggaaGreatDoor
open Go Go.SL Go.RowKit Go.ChangeShapes Go.WideShapes Go.ChangeAt Go.Lib
theorem i3 : Opens Tryz.prog 3 (eInt .i64) I64 := op3
theorem o9 : Opens Tryz.prog 9 eStr (fun _ => True) := opens_good (opens_str Tryz.underlying9) fun _ _ => trivial
theorem o28 : Opens Tryz.prog 28 (eSl eStr) (fun _ => True) := opens_good (opens_slice Tryz.underlying28 (by kernel_rfl) (by decide) o9) fun _ _ => trivial
theorem o32 : Opens Tryz.prog 32 (eSl (eInt .i64)) (fun xs => ∀ n ∈ xs, I64 n) := opens_good (opens_slice Tryz.underlying32 (by kernel_rfl) (by decide) i3) fun _ h => h.2
theorem o30 : Opens Tryz.prog 30 ePr IntsP := opens_good
  (opens_struct Tryz.underlying30 (by kernel_rfl) (opens_cons rfl rfl (by kernel_rfl) i3 (opens_cons rfl rfl (by kernel_rfl) o9 (opens_cons rfl rfl (by kernel_rfl) o9 (opens_cons rfl rfl (by kernel_rfl) i3 (opens_cons rfl rfl (by kernel_rfl) o28 (opens_last rfl rfl (by kernel_rfl) o28))))))) fun _ h => ⟨h.1, h.2.2.2.1⟩
theorem o31 : Opens Tryz.prog 31 (eSl ePr) (fun l => ∀ p ∈ l, IntsP p) := opens_good (opens_slice Tryz.underlying31 (by kernel_rfl) (by decide) o30) fun _ h => h.2
theorem o34 : Opens Tryz.prog 34 ePt IntsT := opens_good
  (opens_struct Tryz.underlying34 (by kernel_rfl) (opens_cons rfl rfl (by kernel_rfl) i3 (opens_cons rfl rfl (by kernel_rfl) o9 (opens_cons rfl rfl (by kernel_rfl) o32 (opens_last rfl rfl (by kernel_rfl) o31))))) fun _ h => ⟨h.1, h.2.2.1, h.2.2.2⟩
theorem op36 : Opens Tryz.prog 36 eIt IntsI := opens_good
  (opens_struct Tryz.underlying36 (by kernel_rfl) (opens_cons rfl rfl (by kernel_rfl) i3 (opens_cons rfl rfl (by kernel_rfl) i3 (opens_cons rfl rfl (by kernel_rfl) o9 (opens_cons rfl rfl (by kernel_rfl) o28 (opens_cons rfl rfl (by kernel_rfl) o30 (opens_cons rfl rfl (by kernel_rfl) o31 (opens_last rfl rfl (by kernel_rfl) o34)))))))) fun _ h => ⟨h.1, h.2.1, h.2.2.2.2.1, h.2.2.2.2.2.1, h.2.2.2.2.2.2⟩
theorem op22 : Opens Tryz.prog 22 (eSl eIt) (fun l => ∀ x ∈ l, IntsI x) := opens_good (opens_slice Tryz.underlying22 (by kernel_rfl) (by decide) op36) fun _ h => h.2
/-! How much things hold. -/
abbrev mS (s : ByteArray) : Nat := s.size + 1
abbrev mP (p : Pr9) : Nat := 1 + (mS p.2.1 + (mS p.2.2.1 + (1 + (mL mS p.2.2.2.2.1 + mL mS p.2.2.2.2.2)))) + 1
abbrev mT (q : Pt9) : Nat := 1 + (mS q.2.1 + (mL (fun _ => 1) q.2.2.1 + mL mP q.2.2.2)) + 1
abbrev mI (x : It9) : Nat := 1 + (1 + (mS x.2.2.1 + (mL mS x.2.2.2.1 + (mP x.2.2.2.2.1 + (mL mP x.2.2.2.2.2.1 + mT x.2.2.2.2.2.2))))) + 1
theorem k3 : BulkOf Tryz.prog 3 (eInt .i64) (fun _ => 1) := bulk_int Tryz.underlying3
theorem k9 : BulkOf Tryz.prog 9 eStr mS := bulk_str Tryz.underlying9
theorem k28 : BulkOf Tryz.prog 28 (eSl eStr) (mL mS) := bulk_slice Tryz.underlying28 (by kernel_rfl) (by decide) k9
theorem k32 : BulkOf Tryz.prog 32 (eSl (eInt .i64)) (mL fun _ => 1) := bulk_slice Tryz.underlying32 (by kernel_rfl) (by decide) k3
theorem k30 : BulkOf Tryz.prog 30 ePr mP := by
  have h := bulk_struct Tryz.underlying30 (by kernel_rfl) (bulk_cons rfl rfl (by kernel_rfl) k3 (bulk_cons rfl rfl (by kernel_rfl) k9 (bulk_cons rfl rfl (by kernel_rfl) k9 (bulk_cons rfl rfl (by kernel_rfl) k3 (bulk_cons rfl rfl (by kernel_rfl) k28 (bulk_last rfl rfl (by kernel_rfl) k28))))))
  exact h
theorem k31 : BulkOf Tryz.prog 31 (eSl ePr) (mL mP) := bulk_slice Tryz.underlying31 (by kernel_rfl) (by decide) k30
theorem k34 : BulkOf Tryz.prog 34 ePt mT := by
  have h := bulk_struct Tryz.underlying34 (by kernel_rfl) (bulk_cons rfl rfl (by kernel_rfl) k3 (bulk_cons rfl rfl (by kernel_rfl) k9 (bulk_cons rfl rfl (by kernel_rfl) k32 (bulk_last rfl rfl (by kernel_rfl) k31))))
  exact h
theorem k36 : BulkOf Tryz.prog 36 eIt mI := by
  have h := bulk_struct Tryz.underlying36 (by kernel_rfl) (bulk_cons rfl rfl (by kernel_rfl) k3 (bulk_cons rfl rfl (by kernel_rfl) k3 (bulk_cons rfl rfl (by kernel_rfl) k9 (bulk_cons rfl rfl (by kernel_rfl) k28 (bulk_cons rfl rfl (by kernel_rfl) k30 (bulk_cons rfl rfl (by kernel_rfl) k31 (bulk_last rfl rfl (by kernel_rfl) k34)))))))
  exact h
theorem k22 : BulkOf Tryz.prog 22 (eSl eIt) (mL mI) := bulk_slice Tryz.underlying22 (by kernel_rfl) (by decide) k36
theorem sum_mono {α : Type} {f g : α → Nat} : ∀ {l : List α}, (∀ x ∈ l, f x ≤ g x) → (l.map f).sum ≤ (l.map g).sum
  | [], _ => Nat.le_refl _
  | x :: l, h => by
    have h1 := h x (by simp)
    have h2 := sum_mono (l := l) fun y hy => h y (by simp [hy])
    simp only [List.map_cons, List.sum_cons]; omega
theorem len_sum {α : Type} {f : α → Nat} : ∀ {l : List α}, (∀ x ∈ l, 1 ≤ f x) → l.length ≤ (l.map f).sum
  | [], _ => Nat.le_refl _
  | x :: l, h => by
    have h1 := h x (by simp)
    have h2 := len_sum (l := l) fun y hy => h y (by simp [hy])
    simp only [List.map_cons, List.sum_cons, List.length_cons]; omega
theorem mL_S (l : List ByteArray) : l.length + sumS l < mL mS l := by
  have h : (l.map mS).sum = (l.map (·.size)).sum + l.length := by
    induction l with
    | nil => rfl
    | cons x l ih => simp only [List.map_cons, List.sum_cons, List.length_cons]; unfold mS at *; omega
  unfold mL sumS; omega
theorem mP_many (p : Pr9) : manyP p + 1 ≤ mP p := by
  have h1 := mL_S p.2.2.2.2.1
  have h2 := mL_S p.2.2.2.2.2
  have h3 : mP p = 1 + (mS p.2.1 + (mS p.2.2.1 + (1 + (mL mS p.2.2.2.2.1 + mL mS p.2.2.2.2.2)))) + 1 := rfl
  have h4 : mS p.2.1 = p.2.1.size + 1 := rfl
  have h5 : mS p.2.2.1 = p.2.2.1.size + 1 := rfl
  unfold manyP; omega
theorem mL_3 (l : List Pr9) : many3 l < mL mP l := by
  have h1 : (l.map fun p => manyP p + 1).sum ≤ (l.map mP).sum := sum_mono fun p _ => mP_many p
  have h2 : (l.map fun p => manyP p + 1).sum = (l.map manyP).sum + l.length := by
    clear h1
    induction l with
    | nil => rfl
    | cons x l ih => simp only [List.map_cons, List.sum_cons, List.length_cons]; omega
  unfold mL many3; omega
theorem mT_many (q : Pt9) : many7 q ≤ mT q := by
  have h1 := mL_3 q.2.2.2
  have h2 : q.2.2.1.length ≤ mL (fun _ => 1) q.2.2.1 := by
    have := len_sum (f := fun _ : Int => 1) (l := q.2.2.1) fun _ _ => Nat.le_refl _
    unfold mL; omega
  have h3 : mT q = 1 + (mS q.2.1 + (mL (fun _ => 1) q.2.2.1 + mL mP q.2.2.2)) + 1 := rfl
  have h4 : mS q.2.1 = q.2.1.size + 1 := rfl
  unfold many7; omega
theorem mI_few (x : It9) : fewI x + 1 ≤ mI x := by
  have h1 := mL_S x.2.2.2.1
  have h2 := mP_many x.2.2.2.2.1
  have h3 := mL_3 x.2.2.2.2.2.1
  have h4 := mT_many x.2.2.2.2.2.2
  have h5 : fewI x = x.2.2.1.size + (many3 x.2.2.2.2.2.1 + 1 + manyP x.2.2.2.2.1) + many7 x.2.2.2.2.2.2 + x.2.2.2.1.length + sumS x.2.2.2.1 := rfl
  have h6 : mI x = 1 + (1 + (mS x.2.2.1 + (mL mS x.2.2.2.1 + (mP x.2.2.2.2.1 + (mL mP x.2.2.2.2.2.1 + mT x.2.2.2.2.2.2))))) + 1 := rfl
  have h7 : mS x.2.2.1 = x.2.2.1.size + 1 := rfl
  omega
theorem mL_few (l : List It9) : (l.map fewI).sum + l.length ≤ mL mI l := by
  have h1 : (l.map fun x => fewI x + 1).sum ≤ (l.map mI).sum := sum_mono fun x _ => mI_few x
  have h2 : (l.map fun x => fewI x + 1).sum = (l.map fewI).sum + l.length := by
    clear h1
    induction l with
    | nil => rfl
    | cons x l ih => simp only [List.map_cons, List.sum_cons, List.length_cons]; omega
  unfold mL; omega
theorem bulk_arg {α : Type} {P : Program} {t : TypeId} {e : Enc α} {m : α → Nat} {H : Type} {enc : TypeId × Value → H} {W : World} {v : Value} {d : DataW H} {ps : List MemPlace} {z : α} {O : Perm} (hb : BulkOf P t e m)
    (h : DataW.Trod enc P W 0 (fun _ => true) true t v d ps) (hz : e.rd W O v.cells.toList z) : m z ≤ Rows.uptoBulk d := by
  obtain ⟨fuel, hf⟩ := h
  exact hb H enc W O fuel _ _ z hf hz
/-! The row of a law that returns true and leaves its arguments, where these are of bounded bulk. -/
theorem lift_upto {H : Type} {enc : TypeId × Value → H} {C : Checked} {os : Os} {f : FuncId} {fn : Func} {s : ChangeSpec} {t : TypeId} {laid : List (String × DataW Unit)} {F : Stop.Interp}
    (own : ownKnob C.prog.godebug = none) (started : os.Started) (noInit : C.prog.inits.idxOf? f = none) (hfn : C.prog.funcs[f]? = some fn)
    (hvars : s.vars = []) (hs : ∀ ds : List (DataW H), ds.length = fn.params.size → s.fn H ds = { results := [.lit (.bool true)], args := ds })
    (hres : fn.resultTypes = #[t]) (ht : C.prog.underlying t = some .bool) (hl : laidOutB C.prog = true) (hpar : (fn.params.toList.all fun t => C.prog.readableRec t && decide (t < C.prog.types.size)) = true)
    (witness : ∃ (w : World) (tape : Tape) (i : Input), w.os = os ∧ (w.forCall tape i).Shaped C.prog ∧ i.vars = [] ∧ Input.okWide C.prog (w.forCall tape i) .any w.heap.size f i ∧
      (Rows.OpenSpec.upto s).preRow enc C.prog fn [] false laid (w.forCall tape i).memory i.args ∧ ({} : Assume).holds C.prog (lone (Frame.enter C.prog f i.args .normal) [] (w.forCall tape i)))
    (walk : ∀ (W : World) (base : Nat) (args : Array Value) (ds : List (DataW H)) (ps : List MemPlace), W.ShapedOpen C.prog → laidMetH C.prog laid W → (∀ (j : Nat) t v, fn.params[j]? = some t → args[j]? = some v → Value.okWide C.prog W .any base t v) →
      DataW.TrodAll enc C.prog W 0 (fun _ => true) true fn.params.toList args.toList ds ps → (∀ (j : Nat) t d, fn.params.toList[j]? = some t → ds[j]? = some d → ∀ n ∈ d.weights C.prog t, n ≤ reachBytes) → Rows.uptoBulkAll ds ≤ 1048576 →
      Calls C.prog f args W fun e W' => e = .returned (.bool true) ∧ Below W.heap.size W W') :
    ReturnsInHanded {} C os f .any ((Rows.OpenSpec.upto s).preRow enc C.prog fn [] false laid) (((Rows.OpenSpec.upto s).at F).post enc C.prog fn false true false false) := by
  refine returnsInHanded_of_row own started noInit hfn witness ?_
  intro W base args ds gs before hval hw _ hcond hwt hlaid hsh _
  have hw2 := hw
  obtain ⟨p, q, hA, hV, rfl, hfz, hnd⟩ := hw2
  have hV' : DataW.TrodVars enc C.prog W (fun _ => true) s.vars gs q := hV
  rw [hvars] at hV'
  obtain ⟨rfl, rfl⟩ := ChangeShapes.trodVars_none hV'
  have hlen : ∀ {ts : List TypeId} {vs : List Value} {ds : List (DataW H)} {ps : List MemPlace}, DataW.TrodAll enc C.prog W 0 (fun _ => true) true ts vs ds ps → ds.length = ts.length := by
    intro ts
    induction ts with
    | nil => intro vs ds ps h; cases vs <;> cases ds <;> simp_all [DataW.TrodAll]
    | cons t ts ih =>
      intro vs ds ps h
      cases vs with
      | nil => cases ds <;> simp_all [DataW.TrodAll]
      | cons v vs => cases ds with
        | nil => simp_all [DataW.TrodAll]
        | cons d ds =>
          obtain ⟨_, _, _, h, _⟩ := h
          simp [ih h]
  have hdl : ds.length = fn.params.size := by rw [hlen hA]; simp
  have hsd := hs ds hdl
  have hbulk : Rows.uptoBulkAll ds ≤ 1048576 := by
    have := hcond Rows.uptoSmall rfl
    rw [List.append_nil] at this
    exact of_decide_eq_true this
  refine (walk W base args ds p hsh hlaid hval hA (fun j t d hj hd n hn => ?_) hbulk).mono fun e W' ⟨he, bel⟩ => ?_
  · have := List.all_eq_true.1 hwt n (weights_each (i := j) (u := t) (d := d) (by rw [List.getElem?_append_left (List.getElem?_eq_some_iff.1 hj).1]; exact hj) (by rw [List.getElem?_append_left (List.getElem?_eq_some_iff.1 hd).1]; exact hd) hn)
    simpa using this
  · subst he
    refine ⟨_, rfl, ?_⟩
    show s.post enc C.prog fn false true false false W args _ W'
    refine ⟨ds, [], p ++ [], [], p, [], hw, ?_, ?_, ?_, bel.frame _, fun h => by cases h⟩
    · rw [List.append_nil, hsd, hres]
      exact ChangeShapes.trodAll_mk1 (shut_bool ht _)
    · rw [List.append_nil, hsd]
      exact trodAll_below hl bel hpar hA
    · rw [List.append_nil, hsd, hvars]
      rfl
end Go.Proofs.YtmgkeippepeggaaGreatDoor

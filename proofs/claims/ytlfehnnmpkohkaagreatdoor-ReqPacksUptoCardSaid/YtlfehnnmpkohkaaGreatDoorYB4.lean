/- The texts H1, H2, H3, H4, E5, H5, E6, H6, one behind the other. -/
import Derived.Test.YtlfehnnmpkohkaaGreatDoorYB3
set_option linter.unusedVariables false
set_option linter.unusedSimpArgs false
/- Chapter 16: notes, and what is the same. -/
namespace Go.Proofs.YtlfehnnmpkohkaaGreatDoor
open Go Go.SL Go.Lib
abbrev eNt : Enc Nt9 := ePair (eInt .i64) (ePair (eSl eStr) eBool)
theorem nt_open {z : Nt9} (w : World) (O : Perm) (c : List Value) (h : eNt.rd w O c z) : ∃ u : Value, c = [.int .i64 z.1, u, .bool z.2.2] ∧ Stars [Sl eStr u z.2.1] w O := by
  obtain ⟨c1, c2, rfl, h1, c3, c4, rfl, ⟨u, rfl, h2⟩, h3⟩ := h
  have e1 : c1 = [.int .i64 z.1] := h1
  have e3 : c4 = [.bool z.2.2] := h3
  subst e1; subst e3
  exact ⟨u, rfl, O, fun _ => 0, ⟨fun _ => Nat.le_refl _, fun _ => Nat.zero_le _, fun _ _ => rfl, fun _ h => by omega⟩, h2, trivial⟩
theorem nt_rd {ver : Int} {b : Bool} {u : Value} {l : List ByteArray} (w : World) (O : Perm) (h : Stars [Sl eStr u l] w O) : eNt.rd w O [.int .i64 ver, u, .bool b] (ver, l, b) := by
  obtain ⟨O1, O2, s, h1, _⟩ := h
  exact ⟨[.int .i64 ver], [u, .bool b], rfl, rfl, [u], [.bool b], rfl, ⟨u, rfl, SlP.mono h1 s.l⟩, rfl⟩
theorem nt_ext {x y : Nt9} : x = y ↔ x.1 = y.1 ∧ x.2.2 = y.2.2 ∧ x.2.1 = y.2.1 := by
  obtain ⟨a, b, c⟩ := x; obtain ⟨a', b', c'⟩ := y
  simp only [Prod.mk.injEq]
  exact ⟨fun ⟨h1, h2, h3⟩ => ⟨h1, h3, h2⟩, fun ⟨h1, h2, h3⟩ => ⟨h1, h3, h2⟩⟩
/-- Sizes at which notes are looked at. -/
def SizeN (l : List Nt9) : Prop := l.length ≤ 1000000 ∧ ∀ n ∈ l, n.2.1.length ≤ 1000000
attribute [local irreducible] Cfg Kont StepK Val Con Qops Any Sl Own Blk BlkR Rd Pu ExA AllA Has Pick Ent Elem Beside Callable TI Lone OwnO AndA
set_option maxRecDepth 100000 in
theorem numsR_con (v u : Value) (xs ys : List Int) (hx : xs.length ≤ 1000000) (hy : ys.length ≤ 1000000) : Con Tryz.prog 48 [v, u] [Sl (eInt .i64) v xs, Sl (eInt .i64) u ys] (γ := Unit) (fun _ => .bool (decide (xs = ys))) (fun _ => True) (fun _ => []) := by
  refine con_of Tryz.func48 rfl (dd rfl) fun w0 O0 => ?_
  refine c_seq (c_region ?_)
  refine oV vA ?_
  refine o_nil (c_seq (c_seq (c_region ?_)))
  refine oV vM ?_
  refine oV ((by first | exact v_len_form Tryz.underlying22 rfl | exact v_len_sl Tryz.underlying22 rfl (hX (by repeat constructor)))) ?_
  refine oV vM ?_
  refine oV ((by first | exact v_len_form Tryz.underlying22 rfl | exact v_len_sl Tryz.underlying22 rfl (hX (by repeat constructor)))) ?_
  refine oV (v_ne rfl rfl) ?_
  refine o_nil ?_
  refine c_cond_p rfl (fun h => ?_) (fun h => ?_)
  · refine c_seq (c_region ?_)
    refine oV vA ?_
    refine o_nil ?_
    refine c_ret1 Tryz.func48 rfl rfl fun w O hS => ?_
    exact ⟨(), by rw [decide_eq_false (fun e => h (by rw [e]))], trivial, trivial⟩
  · refine c_skip (c_seq (c_seq (c_region ?_)))
    refine oV vA ?_
    refine o_nil (c_block ?_)
    refine c_loopR (γ := Nat) [(0, _), (1, _), (4, _)] (fun k => xs.length - k) (fun k => k ≤ xs.length ∧ xs.take k = ys.take k) (fun k => [(5, .int .i64 k)]) (fun _ => [Sl (eInt .i64) v xs, Sl (eInt .i64) u ys]) (0) (⟨Nat.zero_le _, rfl⟩) (by repeat (first | exact trivial | refine ⟨rfl, ?_⟩)) (eX (by repeat constructor)) ?_
    rintro k ⟨hk, he⟩ IH
    try dsimp only [List.cons_append, List.nil_append]
    refine c_seq (c_seq (c_region ?_))
    iterate 2 refine oV vM ?_
    refine oV ((by first | exact v_len_form Tryz.underlying22 rfl | exact v_len_sl Tryz.underlying22 rfl (hX (by repeat constructor)))) ?_
    refine oV (v_lt rfl rfl) ?_
    refine o_nil ?_
    refine c_cond_p rfl (fun hlt => ?_) (fun hlt => ?_)
    · have hkx : k < xs.length := by omega
      have hky : k < ys.length := by omega
      refine c_skip (c_seq (c_block (c_seq ?_)))
      refine c_quiet rfl (by kernel_rfl) ?_
      refine qV vM ?_
      refine qV vM ?_
      refine qV ((by first | exact v_indexAddrN Tryz.underlying22 ti3 rfl rfl (hX (by repeat constructor)) (by omega) | exact v_indexAddr Tryz.underlying22 ti3 rfl rfl (hX (by repeat constructor)) (by omega))) ?_
      refine qV (v_load_int lone3 rfl (by repeat (first | exact Elem.sl (List.getElem?_eq_getElem (by omega)) | exact Elem.own (List.getElem?_eq_getElem (by omega)) | exact Elem.ownO (List.getElem?_eq_getElem (by omega)) | apply Elem.there))) ?_
      refine qV vM ?_
      refine qV vM ?_
      refine qV ((by first | exact v_indexAddrN Tryz.underlying22 ti3 rfl rfl (hX (by repeat constructor)) (by omega) | exact v_indexAddr Tryz.underlying22 ti3 rfl rfl (hX (by repeat constructor)) (by omega))) ?_
      refine qV (v_load_int lone3 rfl (by repeat (first | exact Elem.sl (List.getElem?_eq_getElem (by omega)) | exact Elem.own (List.getElem?_eq_getElem (by omega)) | exact Elem.ownO (List.getElem?_eq_getElem (by omega)) | apply Elem.there))) ?_
      refine qV (v_ne rfl rfl) ?_
      refine q_nil ?_
      refine c_cond_p rfl (fun hne => ?_) (fun hne => ?_)
      · refine c_seq (c_region ?_)
        refine oV vA ?_
        refine o_nil ?_
        refine c_ret1 Tryz.func48 rfl rfl fun w O hS => ?_
        exact ⟨(), by rw [decide_eq_false]; intro q; subst q; exact hne rfl, trivial, trivial⟩
      · have heq : xs[k] = ys[k] := Classical.byContradiction fun q => hne q
        refine c_skip (c_inBlock (c_region ?_))
        refine oV vM ?_
        refine oV ((by first | exact v_add64 rfl rfl (by omega) | exact v_add rfl rfl)) ?_
        refine oV vA ?_
        refine o_nil ?_
        refine cU (IH (k + 1) (by first | omega | (dsimp only; omega)) (⟨by omega, take_next hkx hky he heq⟩))
    · refine c_exit rfl ?_
      refine c_seq (c_region ?_)
      refine oV vA ?_
      refine o_nil ?_
      refine c_ret1 Tryz.func48 rfl rfl fun w O hS => ?_
      refine ⟨(), ?_, trivial, trivial⟩
      rw [List.take_of_length_le (by omega), List.take_of_length_le (by omega)] at he
      rw [decide_eq_true he]
set_option maxRecDepth 100000 in
theorem sameNote_con (x y : Nt9) (u t : Value) (hx : x.2.1.length ≤ 1000000) (hy : y.2.1.length ≤ 1000000) : Con Tryz.prog 79 [.agg #[.int .i64 x.1, u, .bool x.2.2], .agg #[.int .i64 y.1, t, .bool y.2.2]] [Sl eStr u x.2.1, Sl eStr t y.2.1] (γ := Unit) (fun _ => .bool (decide (x = y))) (fun _ => True) (fun _ => []) := by
  have hs := same_con u t x.2.1 y.2.1 hx hy
  refine con_of Tryz.func79 rfl (dd rfl) fun w0 O0 => ?_
  refine c_seq (c_region ?_)
  refine o_step (s_box rfl (dd rfl) (fun b2 => ?_))
  refine o_step (s_box rfl (dd rfl) (fun b3 => ?_))
  refine oV vA ?_
  refine o_nil (c_seq (c_region ?_))
  refine oV (vF 0 Tryz.underlying72 ti3) ?_
  refine oV (vL lone3) ?_
  refine oV (vF 0 Tryz.underlying72 ti3) ?_
  refine oV (vL lone3) ?_
  refine oV (v_eq rfl rfl) ?_
  refine oV vM ?_
  refine o_guard_t rfl rfl (fun g1 => ?_) (fun g1 => ?_)
  · refine oV (vF 2 Tryz.underlying72 ti4) ?_
    refine oN ?_
    refine oV (vL lone4) ?_
    refine oN ?_
    refine oV (vF 2 Tryz.underlying72 ti4) ?_
    refine oN ?_
    refine oV (vL lone4) ?_
    refine oN ?_
    refine oV (v_beq Tryz.underlying4 rfl rfl) ?_
    refine oV vT ?_
    refine oV vM ?_
    refine o_guard_t rfl rfl (fun g2 => ?_) (fun g2 => ?_)
    · refine oV (vF 1 Tryz.underlying72 ti23) ?_
      refine oN ?_
      refine oV (vL lone23) ?_
      refine oN ?_
      refine oV (vF 1 Tryz.underlying72 ti23) ?_
      refine oN ?_
      refine oV (vL lone23) ?_
      refine oN ?_
      refine o_step (s_callf_keep cl46 (hs) rfl (dd rfl) (rX (by repeat constructor)) (fun _ => sX) (fun _ _ => ?_))
      refine oV vT ?_
      refine oV vA ?_
      refine o_nil ?_
      refine c_ret1 Tryz.func79 rfl rfl fun w O hS => ?_
      exact ⟨(), congrArg Value.bool (decide_eq_decide.2 ⟨fun h => nt_ext.2 ⟨g1, g2, h⟩, fun h => by rw [h]⟩), trivial, trivial⟩
    · refine oX ?_
      iterate 4 refine oX ?_
      refine oV vQ ?_
      refine oV vA ?_
      refine o_nil ?_
      refine c_ret1 Tryz.func79 rfl rfl fun w O hS => ?_
      exact ⟨(), congrArg Value.bool (decide_eq_false fun h => g2 (by rw [h])).symm, trivial, trivial⟩
  · refine oX ?_
    iterate 4 refine oX ?_
    refine oV vQ ?_
    refine oV vM ?_
    iterate 5 refine oX ?_
    refine oV vQ ?_
    refine oV vA ?_
    refine o_nil ?_
    refine c_ret1 Tryz.func79 rfl rfl fun w O hS => ?_
    exact ⟨(), congrArg Value.bool (decide_eq_false fun h => g1 (by rw [h])).symm, trivial, trivial⟩
set_option maxRecDepth 100000 in
theorem eqNotes_con (v u : Value) (xs ys : List Nt9) (hx : SizeN xs) (hy : SizeN ys) : Con Tryz.prog 78 [v, u, .func (.func 79) #[] #[]] [Sl eNt v xs, Sl eNt u ys] (γ := Unit) (fun _ => .bool (decide (xs = ys))) (fun _ => True) (fun _ => []) := by
  obtain ⟨hx1, hx2⟩ := hx
  obtain ⟨hy1, hy2⟩ := hy
  refine con_of Tryz.func78 rfl (dd rfl) fun w0 O0 => ?_
  refine c_seq (c_region ?_)
  refine oV vA ?_
  refine o_nil (c_seq (c_seq (c_region ?_)))
  refine oV vM ?_
  refine oV ((by first | exact v_len_form Tryz.underlying53 rfl | exact v_len_sl Tryz.underlying53 rfl (hX (by repeat constructor)))) ?_
  refine oV vM ?_
  refine oV ((by first | exact v_len_form Tryz.underlying53 rfl | exact v_len_sl Tryz.underlying53 rfl (hX (by repeat constructor)))) ?_
  refine oV (v_ne rfl rfl) ?_
  refine o_nil ?_
  refine c_cond_p rfl (fun h => ?_) (fun h => ?_)
  · refine c_seq (c_region ?_)
    refine oV vA ?_
    refine o_nil ?_
    refine c_ret1 Tryz.func78 rfl rfl fun w O hS => ?_
    exact ⟨(), by rw [decide_eq_false (fun e => h (by rw [e]))], trivial, trivial⟩
  · refine c_skip (c_seq (c_seq (c_region ?_)))
    refine oV vM ?_
    refine oV ((by first | exact v_len_form Tryz.underlying53 rfl | exact v_len_sl Tryz.underlying53 rfl (hX (by repeat constructor)))) ?_
    refine oV vM ?_
    refine o_nil (c_block ?_)
    refine c_loopR (γ := Nat) [(1, _), (2, _), (6, _), (15, _), (16, _)] (fun k => xs.length - k) (fun k => k ≤ xs.length ∧ xs.take k = ys.take k) (fun k => [(17, .int .i64 k)]) (fun _ => [Sl eNt v xs, Sl eNt u ys]) (0) (⟨Nat.zero_le _, rfl⟩) (by repeat (first | exact trivial | refine ⟨rfl, ?_⟩)) (eX (by repeat constructor)) ?_
    rintro k ⟨hk, he⟩ IH
    try dsimp only [List.cons_append, List.nil_append]
    refine c_seq (c_region ?_)
    refine oV (v_lt rfl rfl) ?_
    refine o_nil (c_seq ?_)
    refine c_cond_p rfl (fun hlt => ?_) (fun hlt => ?_)
    · have hkx : k < xs.length := by omega
      have hky : k < ys.length := by omega
      have hS := fun u t => sameNote_con xs[k] ys[k] u t (hx2 _ (List.getElem_mem hkx)) (hy2 _ (List.getElem_mem hky))
      refine c_skip (c_seq (c_block (c_seq (c_region ?_))))
      refine oV vM ?_
      refine oV ((by first | exact v_indexAddrN Tryz.underlying53 ti72 rfl rfl (hX (by repeat constructor)) (by omega) | exact v_indexAddr Tryz.underlying53 ti72 rfl rfl (hX (by repeat constructor)) (by omega))) ?_
      refine o_step (s_load_shape ⟨_, Tryz.underlying72⟩ ti72 rfl (dd rfl) (by repeat (first|exact el1 (by omega)|exact el2 (by omega)|exact el3 (by omega)|apply Elem.there)) (nt_open) (fun g => ?_))
      refine o_step (s_alloc ti72 (dd rfl) (fun b8 => ?_))
      refine oV vA ?_
      refine o_step (s_store_all ti72 rfl rfl (by first | exact CellsV.lit rfl | exact CellsV.one (by first | exact OneC.lit rfl | exact OneC.sl (hX (by repeat constructor)) )) (by repeat (first | exact OneAll.nil | (refine OneAll.cons ?_ ?_; · first | exact OneC.lit rfl | exact OneC.sl (hX (by repeat constructor)) ) | exact OneAll.rd (hX (by repeat constructor)))) rfl (pB (by repeat constructor)) rfl (?_))
      refine o_nil (c_seq (c_region ?_))
      iterate 2 refine oV vM ?_
      refine oV ((by first | exact v_indexAddrN Tryz.underlying53 ti72 rfl rfl (hX (by repeat constructor)) (by omega) | exact v_indexAddr Tryz.underlying53 ti72 rfl rfl (hX (by repeat constructor)) (by omega))) ?_
      refine o_step (s_load_shape ⟨_, Tryz.underlying72⟩ ti72 rfl (dd rfl) (by repeat (first|exact el1 (by omega)|exact el2 (by omega)|exact el3 (by omega)|apply Elem.there)) (nt_open) (fun g' => ?_))
      refine o_step (s_alloc ti72 (dd rfl) (fun b9 => ?_))
      refine o_step (s_store_all ti72 rfl rfl (by first | exact CellsV.lit rfl | exact CellsV.one (by first | exact OneC.lit rfl | exact OneC.sl (hX (by repeat constructor)) )) (by repeat (first | exact OneAll.nil | (refine OneAll.cons ?_ ?_; · first | exact OneC.lit rfl | exact OneC.sl (hX (by repeat constructor)) ) | exact OneAll.rd (hX (by repeat constructor)))) rfl (pB (by repeat constructor)) rfl (?_))
      refine o_nil (c_seq (c_region ?_))
      refine oV vM ?_
      refine oV (vW Tryz.underlying72 ti72) ?_
      refine oV (vW Tryz.underlying72 ti72) ?_
      refine o_step (s_call_keep cl79 (hS g g') (first := []) (cap := []) rfl rfl rfl (dd rfl) (rX (by repeat constructor)) (fun _ => sX) (fun _ _ => ?_))
      refine oV (v_not rfl) ?_
      refine o_nil ?_
      refine c_cond rfl (fun hb => ?_) (fun hb => ?_)
      · have hne : ¬ xs[k] = ys[k] := by intro q; rw [decide_eq_true q] at hb; cases hb
        refine c_seq (c_region ?_)
        refine oV vA ?_
        refine o_nil ?_
        refine c_ret1 Tryz.func78 rfl rfl fun w O hS => ?_
        exact ⟨(), by rw [decide_eq_false]; intro q; subst q; exact hne rfl, trivial, trivial⟩
      · have heq : xs[k] = ys[k] := Classical.byContradiction fun q => by rw [decide_eq_false q] at hb; cases hb
        refine c_skip (c_inBlock (c_region ?_))
        refine oV ((by first | exact v_add64 rfl rfl (by omega) | exact v_add rfl rfl)) ?_
        refine oV vM ?_
        refine o_nil ?_
        refine cU (IH (k + 1) (by first | omega | (dsimp only; omega)) (⟨by omega, take_next hkx hky he heq⟩))
    · refine c_exit rfl ?_
      refine c_seq (c_region ?_)
      refine oV vA ?_
      refine o_nil ?_
      refine c_ret1 Tryz.func78 rfl rfl fun w O hS => ?_
      refine ⟨(), ?_, trivial, trivial⟩
      rw [List.take_of_length_le (by omega), List.take_of_length_le (by omega)] at he
      rw [decide_eq_true he]
/-! Requests and responses. -/
def SizeQ (q : Rq9) : Prop := q.2.2.2.2.2.1.length ≤ 1000000 ∧ q.2.2.2.2.2.2.1.length ≤ 1000000 ∧ ShortL q.2.2.2.2.2.2.2
def SizeS (s : Rs9) : Prop := ShortL s.2.2.1 ∧ s.2.2.2.1.length ≤ 1000000 ∧ s.2.2.2.2.1.length ≤ 1000000 ∧ SizeN s.2.2.2.2.2
instance decT3 : DecidableEq (List Int × List ByteArray × List Pr9) := inferInstance
instance decT5 : DecidableEq (ByteArray × ByteArray × List Int × List ByteArray × List Pr9) := inferInstance
instance decRq9 : DecidableEq Rq9 := inferInstanceAs (DecidableEq (Int × Int × Int × ByteArray × ByteArray × List Int × List ByteArray × List Pr9))
instance decU1 : DecidableEq (List ByteArray × List Nt9) := inferInstanceAs (DecidableEq (List ByteArray × List Nt9))
instance decU3 : DecidableEq (List Int × List ByteArray × List Nt9) := instDecidableEqProd
instance decU4 : DecidableEq (List Pr9 × List Int × List ByteArray × List Nt9) := instDecidableEqProd
instance decRs9 : DecidableEq Rs9 := inferInstanceAs (DecidableEq (Int × Int × List Pr9 × List Int × List ByteArray × List Nt9))
theorem rq_ext {x y : Rq9} : x = y ↔ x.1 = y.1 ∧ x.2.1 = y.2.1 ∧ x.2.2.1 = y.2.2.1 ∧ x.2.2.2.1 = y.2.2.2.1 ∧ x.2.2.2.2.1 = y.2.2.2.2.1 ∧ x.2.2.2.2.2.1 = y.2.2.2.2.2.1 ∧ x.2.2.2.2.2.2.1 = y.2.2.2.2.2.2.1 ∧ x.2.2.2.2.2.2.2 = y.2.2.2.2.2.2.2 :=
  ⟨fun h => by subst h; exact ⟨rfl, rfl, rfl, rfl, rfl, rfl, rfl, rfl⟩, fun ⟨a, b, c, d, e, f, g, h⟩ => Prod.ext a (Prod.ext b (Prod.ext c (Prod.ext d (Prod.ext e (Prod.ext f (Prod.ext g h))))))⟩
theorem rs_ext {x y : Rs9} : x = y ↔ x.1 = y.1 ∧ x.2.1 = y.2.1 ∧ x.2.2.1 = y.2.2.1 ∧ x.2.2.2.1 = y.2.2.2.1 ∧ x.2.2.2.2.1 = y.2.2.2.2.1 ∧ x.2.2.2.2.2 = y.2.2.2.2.2 :=
  ⟨fun h => by subst h; exact ⟨rfl, rfl, rfl, rfl, rfl, rfl⟩, fun ⟨a, b, c, d, e, f⟩ => Prod.ext a (Prod.ext b (Prod.ext c (Prod.ext d (Prod.ext e f))))⟩
set_option maxRecDepth 100000 in
theorem sameReq_con (x y : Rq9) (d f l d' f' l' : Value) (hx : SizeQ x) (hy : SizeQ y) : Con Tryz.prog 15 [.agg #[.int .i64 x.1, .int .i64 x.2.1, .int .i64 x.2.2.1, .string x.2.2.2.1, .string x.2.2.2.2.1, d, f, l], .agg #[.int .i64 y.1, .int .i64 y.2.1, .int .i64 y.2.2.1, .string y.2.2.2.1, .string y.2.2.2.2.1, d', f', l']] [Sl (eInt .i64) d x.2.2.2.2.2.1, Sl eStr f x.2.2.2.2.2.2.1, Sl ePr l x.2.2.2.2.2.2.2, Sl (eInt .i64) d' y.2.2.2.2.2.1, Sl eStr f' y.2.2.2.2.2.2.1, Sl ePr l' y.2.2.2.2.2.2.2] (γ := Unit) (fun _ => .bool (decide (x = y))) (fun _ => True) (fun _ => []) := by
  have c1 := eqInts_con d d' x.2.2.2.2.2.1 y.2.2.2.2.2.1 hx.1 hy.1
  have c2 := same_con f f' x.2.2.2.2.2.2.1 y.2.2.2.2.2.2.1 hx.2.1 hy.2.1
  have c3 := samePrims_con l l' x.2.2.2.2.2.2.2 y.2.2.2.2.2.2.2 hx.2.2 hy.2.2
  refine con_of Tryz.func15 rfl (dd rfl) fun w0 O0 => ?_
  refine c_seq (c_region ?_)
  refine o_step (s_box rfl (dd rfl) (fun b2 => ?_))
  refine o_step (s_box rfl (dd rfl) (fun b3 => ?_))
  refine oV vA ?_
  refine o_nil (c_seq (c_region ?_))
  refine oV (vF 0 Tryz.underlying32 ti3) ?_
  refine oV (vL lone3) ?_
  refine oV (vF 0 Tryz.underlying32 ti3) ?_
  refine oV (vL lone3) ?_
  refine oV (v_eq rfl rfl) ?_
  refine oV vM ?_
  refine o_guard_t rfl rfl (fun g1 => ?_) (fun g1 => ?_)
  · refine oV (vF 1 Tryz.underlying32 ti3) ?_
    refine oN ?_
    refine oV (vL lone3) ?_
    refine oN ?_
    refine oV (vF 1 Tryz.underlying32 ti3) ?_
    refine oN ?_
    refine oV (vL lone3) ?_
    refine oN ?_
    refine oV (v_eq rfl rfl) ?_
    refine oV vT ?_
    refine oV vM ?_
    refine o_guard_t rfl rfl (fun g2 => ?_) (fun g2 => ?_)
    · refine oV (vF 2 Tryz.underlying32 ti3) ?_
      refine oN ?_
      refine oV (vL lone3) ?_
      refine oN ?_
      refine oV (vF 2 Tryz.underlying32 ti3) ?_
      refine oN ?_
      refine oV (vL lone3) ?_
      refine oN ?_
      refine oV (v_eq rfl rfl) ?_
      refine oV vT ?_
      refine oV vM ?_
      refine o_guard_t rfl rfl (fun g3 => ?_) (fun g3 => ?_)
      · refine oV (vF 3 Tryz.underlying32 ti9) ?_
        refine oN ?_
        refine oV (vL lone9) ?_
        refine oN ?_
        refine oV (vF 3 Tryz.underlying32 ti9) ?_
        refine oN ?_
        refine oV (vL lone9) ?_
        refine oN ?_
        refine oV (v_seq rfl rfl) ?_
        refine oV vT ?_
        refine oV vM ?_
        refine o_guard_t rfl rfl (fun g4 => ?_) (fun g4 => ?_)
        · refine oV (vF 4 Tryz.underlying32 ti9) ?_
          refine oN ?_
          refine oV (vL lone9) ?_
          refine oN ?_
          refine oV (vF 4 Tryz.underlying32 ti9) ?_
          refine oN ?_
          refine oV (vL lone9) ?_
          refine oN ?_
          refine oV (v_seq rfl rfl) ?_
          refine oV vT ?_
          refine oV vM ?_
          refine o_guard_t rfl rfl (fun g5 => ?_) (fun g5 => ?_)
          · refine oV (vF 5 Tryz.underlying32 ti22) ?_
            refine oN ?_
            refine oV (vL lone22) ?_
            refine oN ?_
            refine oV (vF 5 Tryz.underlying32 ti22) ?_
            refine oN ?_
            refine oV (vL lone22) ?_
            refine oN ?_
            refine o_step (s_callf_keep cl45 (c1) rfl (dd rfl) (rX (by repeat constructor)) (fun _ => sX) (fun _ _ => ?_))
            refine oV vT ?_
            refine oV vM ?_
            refine o_guard rfl rfl (fun g6 => ?_) (fun g6 => ?_)
            · refine oV (vF 6 Tryz.underlying32 ti23) ?_
              refine oN ?_
              refine oV (vL lone23) ?_
              refine oN ?_
              refine oV (vF 6 Tryz.underlying32 ti23) ?_
              refine oN ?_
              refine oV (vL lone23) ?_
              refine oN ?_
              refine o_step (s_callf_keep cl46 (c2) rfl (dd rfl) (rX (by repeat constructor)) (fun _ => sX) (fun _ _ => ?_))
              refine oV vT ?_
              refine oV vM ?_
              refine o_guard rfl rfl (fun g7 => ?_) (fun g7 => ?_)
              · refine oV (vF 7 Tryz.underlying32 ti30) ?_
                refine oN ?_
                refine oV (vL lone30) ?_
                refine oN ?_
                refine oV (vF 7 Tryz.underlying32 ti30) ?_
                refine oN ?_
                refine oV (vL lone30) ?_
                refine oN ?_
                refine o_step (s_callf_keep cl47 (c3) rfl (dd rfl) (rX (by repeat constructor)) (fun _ => sX) (fun _ _ => ?_))
                refine oV vT ?_
                refine oV vA ?_
                refine o_nil ?_
                refine c_ret1 Tryz.func15 rfl rfl fun w O hS => ?_
                exact ⟨(), congrArg Value.bool (decide_eq_decide.2 ⟨fun h => rq_ext.2 ⟨g1, g2, g3, g4, g5, of_decide_eq_true g6, of_decide_eq_true g7, h⟩, fun h => by rw [h]⟩), trivial, trivial⟩
              · skip
                iterate 5 refine oX ?_
                refine oV vQ ?_
                refine oV vA ?_
                refine o_nil ?_
                refine c_ret1 Tryz.func15 rfl rfl fun w O hS => ?_
                exact ⟨(), congrArg Value.bool (decide_eq_false fun h => of_decide_eq_false g7 (by rw [h])).symm, trivial, trivial⟩
            · skip
              iterate 5 refine oX ?_
              refine oV vQ ?_
              refine oV vM ?_
              iterate 5 refine oX ?_
              refine oV vQ ?_
              refine oV vA ?_
              refine o_nil ?_
              refine c_ret1 Tryz.func15 rfl rfl fun w O hS => ?_
              exact ⟨(), congrArg Value.bool (decide_eq_false fun h => of_decide_eq_false g6 (by rw [h])).symm, trivial, trivial⟩
          · skip
            iterate 5 refine oX ?_
            refine oV vQ ?_
            refine oV vM ?_
            iterate 5 refine oX ?_
            refine oV vQ ?_
            refine oV vM ?_
            iterate 5 refine oX ?_
            refine oV vQ ?_
            refine oV vA ?_
            refine o_nil ?_
            refine c_ret1 Tryz.func15 rfl rfl fun w O hS => ?_
            exact ⟨(), congrArg Value.bool (decide_eq_false fun h => g5 (by rw [h])).symm, trivial, trivial⟩
        · skip
          iterate 5 refine oX ?_
          refine oV vQ ?_
          refine oV vM ?_
          iterate 5 refine oX ?_
          refine oV vQ ?_
          refine oV vM ?_
          iterate 5 refine oX ?_
          refine oV vQ ?_
          refine oV vM ?_
          iterate 5 refine oX ?_
          refine oV vQ ?_
          refine oV vA ?_
          refine o_nil ?_
          refine c_ret1 Tryz.func15 rfl rfl fun w O hS => ?_
          exact ⟨(), congrArg Value.bool (decide_eq_false fun h => g4 (by rw [h])).symm, trivial, trivial⟩
      · skip
        iterate 5 refine oX ?_
        refine oV vQ ?_
        refine oV vM ?_
        iterate 5 refine oX ?_
        refine oV vQ ?_
        refine oV vM ?_
        iterate 5 refine oX ?_
        refine oV vQ ?_
        refine oV vM ?_
        iterate 5 refine oX ?_
        refine oV vQ ?_
        refine oV vM ?_
        iterate 5 refine oX ?_
        refine oV vQ ?_
        refine oV vA ?_
        refine o_nil ?_
        refine c_ret1 Tryz.func15 rfl rfl fun w O hS => ?_
        exact ⟨(), congrArg Value.bool (decide_eq_false fun h => g3 (by rw [h])).symm, trivial, trivial⟩
    · skip
      iterate 5 refine oX ?_
      refine oV vQ ?_
      refine oV vM ?_
      iterate 5 refine oX ?_
      refine oV vQ ?_
      refine oV vM ?_
      iterate 5 refine oX ?_
      refine oV vQ ?_
      refine oV vM ?_
      iterate 5 refine oX ?_
      refine oV vQ ?_
      refine oV vM ?_
      iterate 5 refine oX ?_
      refine oV vQ ?_
      refine oV vM ?_
      iterate 5 refine oX ?_
      refine oV vQ ?_
      refine oV vA ?_
      refine o_nil ?_
      refine c_ret1 Tryz.func15 rfl rfl fun w O hS => ?_
      exact ⟨(), congrArg Value.bool (decide_eq_false fun h => g2 (by rw [h])).symm, trivial, trivial⟩
  · skip
    iterate 5 refine oX ?_
    refine oV vQ ?_
    refine oV vM ?_
    iterate 5 refine oX ?_
    refine oV vQ ?_
    refine oV vM ?_
    iterate 5 refine oX ?_
    refine oV vQ ?_
    refine oV vM ?_
    iterate 5 refine oX ?_
    refine oV vQ ?_
    refine oV vM ?_
    iterate 5 refine oX ?_
    refine oV vQ ?_
    refine oV vM ?_
    iterate 5 refine oX ?_
    refine oV vQ ?_
    refine oV vM ?_
    iterate 5 refine oX ?_
    refine oV vQ ?_
    refine oV vA ?_
    refine o_nil ?_
    refine c_ret1 Tryz.func15 rfl rfl fun w O hS => ?_
    exact ⟨(), congrArg Value.bool (decide_eq_false fun h => g1 (by rw [h])).symm, trivial, trivial⟩
set_option maxRecDepth 100000 in
theorem sameReqR_con (x y : Rq9) (d f l d' f' l' : Value) (hx : SizeQ x) (hy : SizeQ y) : Con Tryz.prog 16 [.agg #[.int .i64 x.1, .int .i64 x.2.1, .int .i64 x.2.2.1, .string x.2.2.2.1, .string x.2.2.2.2.1, d, f, l], .agg #[.int .i64 y.1, .int .i64 y.2.1, .int .i64 y.2.2.1, .string y.2.2.2.1, .string y.2.2.2.2.1, d', f', l']] [Sl (eInt .i64) d x.2.2.2.2.2.1, Sl eStr f x.2.2.2.2.2.2.1, Sl ePr l x.2.2.2.2.2.2.2, Sl (eInt .i64) d' y.2.2.2.2.2.1, Sl eStr f' y.2.2.2.2.2.2.1, Sl ePr l' y.2.2.2.2.2.2.2] (γ := Unit) (fun _ => .bool (decide (x = y))) (fun _ => True) (fun _ => []) := by
  have c1 := numsR_con d d' x.2.2.2.2.2.1 y.2.2.2.2.2.1 hx.1 hy.1
  have c2 := same_ref_con f f' x.2.2.2.2.2.2.1 y.2.2.2.2.2.2.1 hx.2.1 hy.2.1
  have c3 := allR_con l l' x.2.2.2.2.2.2.2 y.2.2.2.2.2.2.2 hx.2.2 hy.2.2
  refine con_of Tryz.func16 rfl (dd rfl) fun w0 O0 => ?_
  refine c_seq (c_region ?_)
  refine o_step (s_box rfl (dd rfl) (fun b2 => ?_))
  refine o_step (s_box rfl (dd rfl) (fun b3 => ?_))
  refine oV vA ?_
  refine o_nil (c_seq (c_region ?_))
  refine oV (vF 0 Tryz.underlying26 ti3) ?_
  refine oV (vL lone3) ?_
  refine oV (vF 0 Tryz.underlying26 ti3) ?_
  refine oV (vL lone3) ?_
  refine oV (v_eq rfl rfl) ?_
  refine oV vM ?_
  refine o_guard_t rfl rfl (fun g1 => ?_) (fun g1 => ?_)
  · refine oV (vF 1 Tryz.underlying26 ti3) ?_
    refine oN ?_
    refine oV (vL lone3) ?_
    refine oN ?_
    refine oV (vF 1 Tryz.underlying26 ti3) ?_
    refine oN ?_
    refine oV (vL lone3) ?_
    refine oN ?_
    refine oV (v_eq rfl rfl) ?_
    refine oV vT ?_
    refine oV vM ?_
    refine o_guard_t rfl rfl (fun g2 => ?_) (fun g2 => ?_)
    · refine oV (vF 2 Tryz.underlying26 ti3) ?_
      refine oN ?_
      refine oV (vL lone3) ?_
      refine oN ?_
      refine oV (vF 2 Tryz.underlying26 ti3) ?_
      refine oN ?_
      refine oV (vL lone3) ?_
      refine oN ?_
      refine oV (v_eq rfl rfl) ?_
      refine oV vT ?_
      refine oV vM ?_
      refine o_guard_t rfl rfl (fun g3 => ?_) (fun g3 => ?_)
      · refine oV (vF 3 Tryz.underlying26 ti9) ?_
        refine oN ?_
        refine oV (vL lone9) ?_
        refine oN ?_
        refine oV (vF 3 Tryz.underlying26 ti9) ?_
        refine oN ?_
        refine oV (vL lone9) ?_
        refine oN ?_
        refine oV (v_seq rfl rfl) ?_
        refine oV vT ?_
        refine oV vM ?_
        refine o_guard_t rfl rfl (fun g4 => ?_) (fun g4 => ?_)
        · refine oV (vF 4 Tryz.underlying26 ti9) ?_
          refine oN ?_
          refine oV (vL lone9) ?_
          refine oN ?_
          refine oV (vF 4 Tryz.underlying26 ti9) ?_
          refine oN ?_
          refine oV (vL lone9) ?_
          refine oN ?_
          refine oV (v_seq rfl rfl) ?_
          refine oV vT ?_
          refine oV vM ?_
          refine o_guard_t rfl rfl (fun g5 => ?_) (fun g5 => ?_)
          · refine oV (vF 5 Tryz.underlying26 ti22) ?_
            refine oN ?_
            refine oV (vL lone22) ?_
            refine oN ?_
            refine oV (vF 5 Tryz.underlying26 ti22) ?_
            refine oN ?_
            refine oV (vL lone22) ?_
            refine oN ?_
            refine o_step (s_callf_keep cl48 (c1) rfl (dd rfl) (rX (by repeat constructor)) (fun _ => sX) (fun _ _ => ?_))
            refine oV vT ?_
            refine oV vM ?_
            refine o_guard rfl rfl (fun g6 => ?_) (fun g6 => ?_)
            · refine oV (vF 6 Tryz.underlying26 ti23) ?_
              refine oN ?_
              refine oV (vL lone23) ?_
              refine oN ?_
              refine oV (vF 6 Tryz.underlying26 ti23) ?_
              refine oN ?_
              refine oV (vL lone23) ?_
              refine oN ?_
              refine o_step (s_callf_keep cl49 (c2) rfl (dd rfl) (rX (by repeat constructor)) (fun _ => sX) (fun _ _ => ?_))
              refine oV vT ?_
              refine oV vM ?_
              refine o_guard rfl rfl (fun g7 => ?_) (fun g7 => ?_)
              · refine oV (vF 7 Tryz.underlying26 ti24) ?_
                refine oN ?_
                refine oV (vL lone24) ?_
                refine oN ?_
                refine oV (vF 7 Tryz.underlying26 ti24) ?_
                refine oN ?_
                refine oV (vL lone24) ?_
                refine oN ?_
                refine o_step (s_callf_keep cl37 (c3) rfl (dd rfl) (rX (by repeat constructor)) (fun _ => sX) (fun _ _ => ?_))
                refine oV vT ?_
                refine oV vA ?_
                refine o_nil ?_
                refine c_ret1 Tryz.func16 rfl rfl fun w O hS => ?_
                exact ⟨(), congrArg Value.bool (decide_eq_decide.2 ⟨fun h => rq_ext.2 ⟨g1, g2, g3, g4, g5, of_decide_eq_true g6, of_decide_eq_true g7, h⟩, fun h => by rw [h]⟩), trivial, trivial⟩
              · skip
                iterate 5 refine oX ?_
                refine oV vQ ?_
                refine oV vA ?_
                refine o_nil ?_
                refine c_ret1 Tryz.func16 rfl rfl fun w O hS => ?_
                exact ⟨(), congrArg Value.bool (decide_eq_false fun h => of_decide_eq_false g7 (by rw [h])).symm, trivial, trivial⟩
            · skip
              iterate 5 refine oX ?_
              refine oV vQ ?_
              refine oV vM ?_
              iterate 5 refine oX ?_
              refine oV vQ ?_
              refine oV vA ?_
              refine o_nil ?_
              refine c_ret1 Tryz.func16 rfl rfl fun w O hS => ?_
              exact ⟨(), congrArg Value.bool (decide_eq_false fun h => of_decide_eq_false g6 (by rw [h])).symm, trivial, trivial⟩
          · skip
            iterate 5 refine oX ?_
            refine oV vQ ?_
            refine oV vM ?_
            iterate 5 refine oX ?_
            refine oV vQ ?_
            refine oV vM ?_
            iterate 5 refine oX ?_
            refine oV vQ ?_
            refine oV vA ?_
            refine o_nil ?_
            refine c_ret1 Tryz.func16 rfl rfl fun w O hS => ?_
            exact ⟨(), congrArg Value.bool (decide_eq_false fun h => g5 (by rw [h])).symm, trivial, trivial⟩
        · skip
          iterate 5 refine oX ?_
          refine oV vQ ?_
          refine oV vM ?_
          iterate 5 refine oX ?_
          refine oV vQ ?_
          refine oV vM ?_
          iterate 5 refine oX ?_
          refine oV vQ ?_
          refine oV vM ?_
          iterate 5 refine oX ?_
          refine oV vQ ?_
          refine oV vA ?_
          refine o_nil ?_
          refine c_ret1 Tryz.func16 rfl rfl fun w O hS => ?_
          exact ⟨(), congrArg Value.bool (decide_eq_false fun h => g4 (by rw [h])).symm, trivial, trivial⟩
      · skip
        iterate 5 refine oX ?_
        refine oV vQ ?_
        refine oV vM ?_
        iterate 5 refine oX ?_
        refine oV vQ ?_
        refine oV vM ?_
        iterate 5 refine oX ?_
        refine oV vQ ?_
        refine oV vM ?_
        iterate 5 refine oX ?_
        refine oV vQ ?_
        refine oV vM ?_
        iterate 5 refine oX ?_
        refine oV vQ ?_
        refine oV vA ?_
        refine o_nil ?_
        refine c_ret1 Tryz.func16 rfl rfl fun w O hS => ?_
        exact ⟨(), congrArg Value.bool (decide_eq_false fun h => g3 (by rw [h])).symm, trivial, trivial⟩
    · skip
      iterate 5 refine oX ?_
      refine oV vQ ?_
      refine oV vM ?_
      iterate 5 refine oX ?_
      refine oV vQ ?_
      refine oV vM ?_
      iterate 5 refine oX ?_
      refine oV vQ ?_
      refine oV vM ?_
      iterate 5 refine oX ?_
      refine oV vQ ?_
      refine oV vM ?_
      iterate 5 refine oX ?_
      refine oV vQ ?_
      refine oV vM ?_
      iterate 5 refine oX ?_
      refine oV vQ ?_
      refine oV vA ?_
      refine o_nil ?_
      refine c_ret1 Tryz.func16 rfl rfl fun w O hS => ?_
      exact ⟨(), congrArg Value.bool (decide_eq_false fun h => g2 (by rw [h])).symm, trivial, trivial⟩
  · skip
    iterate 5 refine oX ?_
    refine oV vQ ?_
    refine oV vM ?_
    iterate 5 refine oX ?_
    refine oV vQ ?_
    refine oV vM ?_
    iterate 5 refine oX ?_
    refine oV vQ ?_
    refine oV vM ?_
    iterate 5 refine oX ?_
    refine oV vQ ?_
    refine oV vM ?_
    iterate 5 refine oX ?_
    refine oV vQ ?_
    refine oV vM ?_
    iterate 5 refine oX ?_
    refine oV vQ ?_
    refine oV vM ?_
    iterate 5 refine oX ?_
    refine oV vQ ?_
    refine oV vA ?_
    refine o_nil ?_
    refine c_ret1 Tryz.func16 rfl rfl fun w O hS => ?_
    exact ⟨(), congrArg Value.bool (decide_eq_false fun h => g1 (by rw [h])).symm, trivial, trivial⟩
set_option maxRecDepth 100000 in
theorem sameRes_con (x y : Rs9) (l i t n l' i' t' n' : Value) (hx : SizeS x) (hy : SizeS y) : Con Tryz.prog 34 [.agg #[.int .i64 x.1, .int .i64 x.2.1, l, i, t, n], .agg #[.int .i64 y.1, .int .i64 y.2.1, l', i', t', n']] [Sl ePr l x.2.2.1, Sl (eInt .i64) i x.2.2.2.1, Sl eStr t x.2.2.2.2.1, Sl eNt n x.2.2.2.2.2, Sl ePr l' y.2.2.1, Sl (eInt .i64) i' y.2.2.2.1, Sl eStr t' y.2.2.2.2.1, Sl eNt n' y.2.2.2.2.2] (γ := Unit) (fun _ => .bool (decide (x = y))) (fun _ => True) (fun _ => []) := by
  have c1 := samePrims_con l l' x.2.2.1 y.2.2.1 hx.1 hy.1
  have c2 := eqInts_con i i' x.2.2.2.1 y.2.2.2.1 hx.2.1 hy.2.1
  have c3 := same_con t t' x.2.2.2.2.1 y.2.2.2.2.1 hx.2.2.1 hy.2.2.1
  have c4 := eqNotes_con n n' x.2.2.2.2.2 y.2.2.2.2.2 hx.2.2.2 hy.2.2.2
  refine con_of Tryz.func34 rfl (dd rfl) fun w0 O0 => ?_
  refine c_seq (c_region ?_)
  refine o_step (s_box rfl (dd rfl) (fun b2 => ?_))
  refine o_step (s_box rfl (dd rfl) (fun b3 => ?_))
  refine oV vA ?_
  refine o_nil (c_seq (c_region ?_))
  refine oV (vF 0 Tryz.underlying55 ti3) ?_
  refine oV (vL lone3) ?_
  refine oV (vF 0 Tryz.underlying55 ti3) ?_
  refine oV (vL lone3) ?_
  refine oV (v_eq rfl rfl) ?_
  refine oV vM ?_
  refine o_guard_t rfl rfl (fun g1 => ?_) (fun g1 => ?_)
  · refine oV (vF 1 Tryz.underlying55 ti3) ?_
    refine oN ?_
    refine oV (vL lone3) ?_
    refine oN ?_
    refine oV (vF 1 Tryz.underlying55 ti3) ?_
    refine oN ?_
    refine oV (vL lone3) ?_
    refine oN ?_
    refine oV (v_eq rfl rfl) ?_
    refine oV vT ?_
    refine oV vM ?_
    refine o_guard_t rfl rfl (fun g2 => ?_) (fun g2 => ?_)
    · refine oV (vF 2 Tryz.underlying55 ti30) ?_
      refine oN ?_
      refine oV (vL lone30) ?_
      refine oN ?_
      refine oV (vF 2 Tryz.underlying55 ti30) ?_
      refine oN ?_
      refine oV (vL lone30) ?_
      refine oN ?_
      refine o_step (s_callf_keep cl47 (c1) rfl (dd rfl) (rX (by repeat constructor)) (fun _ => sX) (fun _ _ => ?_))
      refine oV vT ?_
      refine oV vM ?_
      refine o_guard rfl rfl (fun g3 => ?_) (fun g3 => ?_)
      · refine oV (vF 3 Tryz.underlying55 ti22) ?_
        refine oN ?_
        refine oV (vL lone22) ?_
        refine oN ?_
        refine oV (vF 3 Tryz.underlying55 ti22) ?_
        refine oN ?_
        refine oV (vL lone22) ?_
        refine oN ?_
        refine o_step (s_callf_keep cl45 (c2) rfl (dd rfl) (rX (by repeat constructor)) (fun _ => sX) (fun _ _ => ?_))
        refine oV vT ?_
        refine oV vM ?_
        refine o_guard rfl rfl (fun g4 => ?_) (fun g4 => ?_)
        · refine oV (vF 4 Tryz.underlying55 ti23) ?_
          refine oN ?_
          refine oV (vL lone23) ?_
          refine oN ?_
          refine oV (vF 4 Tryz.underlying55 ti23) ?_
          refine oN ?_
          refine oV (vL lone23) ?_
          refine oN ?_
          refine o_step (s_callf_keep cl46 (c3) rfl (dd rfl) (rX (by repeat constructor)) (fun _ => sX) (fun _ _ => ?_))
          refine oV vT ?_
          refine oV vM ?_
          refine o_guard rfl rfl (fun g5 => ?_) (fun g5 => ?_)
          · refine oV (vF 5 Tryz.underlying55 ti53) ?_
            refine oN ?_
            refine oV (vL lone53) ?_
            refine oN ?_
            refine oV (vF 5 Tryz.underlying55 ti53) ?_
            refine oN ?_
            refine oV (vL lone53) ?_
            refine oN ?_
            refine o_step (s_callf_keep cl78 (c4) rfl (dd rfl) (rX (by repeat constructor)) (fun _ => sX) (fun _ _ => ?_))
            refine oV vT ?_
            refine oV vA ?_
            refine o_nil ?_
            refine c_ret1 Tryz.func34 rfl rfl fun w O hS => ?_
            exact ⟨(), congrArg Value.bool (decide_eq_decide.2 ⟨fun h => rs_ext.2 ⟨g1, g2, of_decide_eq_true g3, of_decide_eq_true g4, of_decide_eq_true g5, h⟩, fun h => by rw [h]⟩), trivial, trivial⟩
          · skip
            iterate 5 refine oX ?_
            refine oV vQ ?_
            refine oV vA ?_
            refine o_nil ?_
            refine c_ret1 Tryz.func34 rfl rfl fun w O hS => ?_
            exact ⟨(), congrArg Value.bool (decide_eq_false fun h => of_decide_eq_false g5 (by rw [h])).symm, trivial, trivial⟩
        · skip
          iterate 5 refine oX ?_
          refine oV vQ ?_
          refine oV vM ?_
          iterate 5 refine oX ?_
          refine oV vQ ?_
          refine oV vA ?_
          refine o_nil ?_
          refine c_ret1 Tryz.func34 rfl rfl fun w O hS => ?_
          exact ⟨(), congrArg Value.bool (decide_eq_false fun h => of_decide_eq_false g4 (by rw [h])).symm, trivial, trivial⟩
      · skip
        iterate 5 refine oX ?_
        refine oV vQ ?_
        refine oV vM ?_
        iterate 5 refine oX ?_
        refine oV vQ ?_
        refine oV vM ?_
        iterate 5 refine oX ?_
        refine oV vQ ?_
        refine oV vA ?_
        refine o_nil ?_
        refine c_ret1 Tryz.func34 rfl rfl fun w O hS => ?_
        exact ⟨(), congrArg Value.bool (decide_eq_false fun h => of_decide_eq_false g3 (by rw [h])).symm, trivial, trivial⟩
    · skip
      iterate 5 refine oX ?_
      refine oV vQ ?_
      refine oV vM ?_
      iterate 5 refine oX ?_
      refine oV vQ ?_
      refine oV vM ?_
      iterate 5 refine oX ?_
      refine oV vQ ?_
      refine oV vM ?_
      iterate 5 refine oX ?_
      refine oV vQ ?_
      refine oV vA ?_
      refine o_nil ?_
      refine c_ret1 Tryz.func34 rfl rfl fun w O hS => ?_
      exact ⟨(), congrArg Value.bool (decide_eq_false fun h => g2 (by rw [h])).symm, trivial, trivial⟩
  · skip
    iterate 5 refine oX ?_
    refine oV vQ ?_
    refine oV vM ?_
    iterate 5 refine oX ?_
    refine oV vQ ?_
    refine oV vM ?_
    iterate 5 refine oX ?_
    refine oV vQ ?_
    refine oV vM ?_
    iterate 5 refine oX ?_
    refine oV vQ ?_
    refine oV vM ?_
    iterate 5 refine oX ?_
    refine oV vQ ?_
    refine oV vA ?_
    refine o_nil ?_
    refine c_ret1 Tryz.func34 rfl rfl fun w O hS => ?_
    exact ⟨(), congrArg Value.bool (decide_eq_false fun h => g1 (by rw [h])).symm, trivial, trivial⟩
end Go.Proofs.YtlfehnnmpkohkaaGreatDoor
/- Chapter 16: what all kinds need: ids, dependences, files. -/
namespace Go.Proofs.YtlfehnnmpkohkaaGreatDoor
open Go Go.SL Go.Lib
abbrev ptr1 (b : Nat) : Value := .pointer (some ⟨b, 0, none⟩)
theorem deps_step {i last : Int} {l : List Int} {k : Nat} (hk : k < l.length) : depsP i last (l.drop k) = (!decide (l[k] ≤ last ∨ 1000000000 < l[k] ∨ l[k] = i) && depsP i l[k] (l.drop (k + 1))) := by
  rw [List.drop_eq_getElem_cons hk, depsP]
  congr 1
  rw [Bool.eq_iff_iff]
  simp only [Bool.and_eq_true, decide_eq_true_eq, Bool.not_eq_true', decide_eq_false_iff_not]
  omega
theorem files_step {last : ByteArray} {l : List ByteArray} {k : Nat} (hk : k < l.length) : filesP last (l.drop k) = (!(!namedP l[k] || (Op.bytesLess l[k].data.toList last.data.toList || decide (l[k] = last))) && filesP l[k] (l.drop (k + 1))) := by
  rw [List.drop_eq_getElem_cons hk, filesP]
  simp only [Bool.not_or, Bool.not_not]
attribute [local irreducible] Cfg Kont StepK Val Con Qops Any Sl Own Blk BlkR Rd Pu ExA AllA Has Pick Ent Elem Beside Callable TI Lone OwnO AndA
set_option maxRecDepth 100000 in
theorem id_con (c0 c1 c3 c4 c5 c6 c7 : Value) (i : Int) : Con Tryz.prog 91 [.agg #[c0, c1, .int .i64 i, c3, c4, c5, c6, c7]] [] (γ := Unit) (fun _ => .bool (decide (1 ≤ i ∧ i ≤ 1000000000))) (fun _ => True) (fun _ => []) := by
  refine con_of Tryz.func91 rfl (dd rfl) fun w0 O0 => ?_
  refine c_seq (c_region ?_)
  refine o_step (s_box rfl (dd rfl) (fun b1 => ?_))
  refine oV vA ?_
  refine o_nil (c_seq (c_region ?_))
  refine oV (vF 2 Tryz.underlying32 ti3) ?_
  refine oV (vL lone3) ?_
  refine oV (v_ge rfl rfl) ?_
  refine oV vM ?_
  refine o_guard_t rfl rfl (fun g => ?_) (fun g => ?_)
  · refine oV (vF 2 Tryz.underlying32 ti3) ?_
    refine oN ?_
    refine oV (vL lone3) ?_
    refine oN ?_
    refine oV (v_le rfl rfl) ?_
    refine oV vT ?_
    refine oV vA ?_
    refine o_nil ?_
    refine c_ret1 Tryz.func91 rfl rfl fun w O hS => ?_
    exact ⟨(), congrArg Value.bool (decide_eq_decide.2 ⟨fun h => ⟨g, h⟩, fun h => h.2⟩), trivial, trivial⟩
  · refine oX ?_
    iterate 2 refine oX ?_
    refine oV vQ ?_
    refine oV vA ?_
    refine o_nil ?_
    refine c_ret1 Tryz.func91 rfl rfl fun w O hS => ?_
    exact ⟨(), congrArg Value.bool (decide_eq_false fun h => g h.1).symm, trivial, trivial⟩
set_option maxRecDepth 100000 in
theorem wrongD_con (n last : Int) (bl bq : Nat) (i : Int) (c0 c1 c3 c4 c5 c6 c7 : Value) : Con Tryz.prog 132 [.int .i64 n, ptr1 bl, ptr1 bq] [Blk bl 3 [.int .i64 last], BlkR bq 32 [c0, c1, .int .i64 i, c3, c4, c5, c6, c7]] (γ := Unit) (fun _ => .bool (decide (n ≤ last ∨ 1000000000 < n ∨ n = i))) (fun _ => True) (fun _ => [Blk bl 3 [.int .i64 n]]) := by
  refine con_of Tryz.func132 rfl (dd rfl) fun w0 O0 => ?_
  refine c_seq (c_region ?_)
  refine oV vA ?_
  refine o_nil (c_seq ?_)
  refine c_env (env' := [(0, _), (1, _), (2, _), (4, _)]) (by repeat (first | exact trivial | refine ⟨rfl, ?_⟩)) ?_
  refine c_joinb (d := 5) (decide (n ≤ last ∨ 1000000000 < n ∨ n = i)) ?_ ?_
  rotate_left
  · intro J
    refine c_region ?_
    refine oV vM ?_
    refine oV (vL lone3) ?_
    refine oV (v_le rfl rfl) ?_
    refine oV vM ?_
    first | refine o_guard_f rfl rfl (fun g9 => ?_) (fun g9 => ?_) | refine o_guard rfl rfl (fun g9 => ?_) (fun g9 => ?_)
    · refine oV vM ?_
      refine oN ?_
      refine oV (v_gt rfl rfl) ?_
      refine oV vQ ?_
      refine oV vM ?_
      first | refine o_guard_f rfl rfl (fun g13 => ?_) (fun g13 => ?_) | refine o_guard rfl rfl (fun g13 => ?_) (fun g13 => ?_)
      · refine oV vM ?_
        refine oN ?_
        refine oV (vF 2 Tryz.underlying32 ti3) ?_
        refine oN ?_
        refine oV (vL lone3) ?_
        refine oN ?_
        refine oV (v_eq rfl rfl) ?_
        refine oV vQ ?_
        refine oV vA ?_
        refine o_nil ?_
        exact cJ J rfl (by first | rfl | (simp_all; done) | (simp_all; omega) | exact decide_eq_decide.2 (by omega) | exact (decide_eq_true (by omega)).symm)
      · refine oX ?_
        iterate 3 refine oX ?_
        refine oV vT ?_
        refine oV vA ?_
        refine o_nil ?_
        exact cJ J rfl (by first | rfl | (simp_all; done) | (simp_all; omega) | exact decide_eq_decide.2 (by omega) | exact (decide_eq_true (by omega)).symm)
    · refine oX ?_
      refine oX ?_
      refine oV vT ?_
      refine oV vM ?_
      iterate 4 refine oX ?_
      refine oV vT ?_
      refine oV vA ?_
      refine o_nil ?_
      exact cJ J rfl (by first | rfl | (simp_all; done) | (simp_all; omega) | exact decide_eq_decide.2 (by omega) | exact (decide_eq_true (by omega)).symm)
  refine c_seq (c_region ?_)
  refine oV vM ?_
  refine o_step (s_store1 ti3 rfl rfl (by first | exact OneC.lit rfl | exact OneC.sl (hX (by repeat constructor)) ) (pB (by repeat constructor)) (by first | decide | exact Nat.le_of_ble_eq_true rfl | simp) (by first | (dsimp only [List.set_cons_succ, List.set_cons_zero]; first | done | exact rfl) | rfl) (?_))
  refine o_nil (c_seq (c_region ?_))
  refine oV vM ?_
  refine oV vA ?_
  refine o_nil ?_
  refine c_ret1 Tryz.func132 rfl rfl fun w O hS => ?_
  exact ⟨(), rfl, trivial, Ent.get hS (eX (by repeat constructor))⟩
set_option maxRecDepth 100000 in
theorem indexD_con (v : Value) (d : List Int) (bl bq : Nat) (i : Int) (c0 c1 c3 c4 c5 c6 c7 : Value) (hd : d.length ≤ 1000000) : Con Tryz.prog 158 [v, .func (.func 132) #[] #[ptr1 bl, ptr1 bq]] [Sl (eInt .i64) v d, Blk bl 3 [.int .i64 0], BlkR bq 32 [c0, c1, .int .i64 i, c3, c4, c5, c6, c7]] (γ := Int) (fun r => .int .i64 r) (fun r => 0 ≤ r ↔ depsP i 0 d = false) (fun _ => []) := by
  refine con_of Tryz.func158 rfl (dd rfl) fun w0 O0 => ?_
  refine c_seq (c_region ?_)
  refine oV vA ?_
  refine o_nil (c_seq (c_seq (c_region ?_)))
  refine oV vM ?_
  refine oV ((by first | exact v_len_form Tryz.underlying22 rfl | exact v_len_sl Tryz.underlying22 rfl (hX (by repeat constructor)))) ?_
  refine oV vM ?_
  refine o_nil (c_block ?_)
  refine c_loopR (γ := Nat × Int) [(0, _), (1, _), (4, _), (7, _)] (fun k => d.length - k.1) (fun k => k.1 ≤ d.length ∧ depsP i 0 d = depsP i k.2 (d.drop k.1)) (fun k => [(8, .int .i64 k.1)]) (fun k => [Sl (eInt .i64) v d, Blk bl 3 [.int .i64 k.2], BlkR bq 32 [c0, c1, .int .i64 i, c3, c4, c5, c6, c7]]) ((0, 0)) (⟨Nat.zero_le _, rfl⟩) (by repeat (first | exact trivial | refine ⟨rfl, ?_⟩)) (eX (by repeat constructor)) ?_
  rintro ⟨k, last⟩ ⟨hk, hc⟩ IH
  dsimp only at hk hc ⊢
  try dsimp only [List.cons_append, List.nil_append]
  refine c_seq (c_region ?_)
  refine oV (v_lt rfl rfl) ?_
  refine o_nil (c_seq ?_)
  refine c_cond_p rfl (fun hlt => ?_) (fun hlt => ?_)
  · have hk' : k < d.length := by omega
    have hW := wrongD_con d[k] last bl bq i c0 c1 c3 c4 c5 c6 c7
    rw [deps_step hk'] at hc
    refine c_skip (c_seq (c_block (c_seq (c_region ?_))))
    refine oV vM ?_
    refine oV vA ?_
    refine o_nil (c_seq (c_region ?_))
    iterate 3 refine oV vM ?_
    refine oV ((by first | exact v_indexAddrN Tryz.underlying22 ti3 rfl rfl (hX (by repeat constructor)) (by omega) | exact v_indexAddr Tryz.underlying22 ti3 rfl rfl (hX (by repeat constructor)) (by omega))) ?_
    refine oV (v_load_int lone3 rfl (by repeat (first | exact Elem.sl (List.getElem?_eq_getElem (by omega)) | exact Elem.own (List.getElem?_eq_getElem (by omega)) | exact Elem.ownO (List.getElem?_eq_getElem (by omega)) | apply Elem.there))) ?_
    refine o_step (s_call cl132 (hW) (first := []) (cap := [ptr1 bl, ptr1 bq]) rfl rfl (by rfl) (dd rfl) (pXs (by repeat constructor)) fun _ _ => ?_)
    refine o_nil ?_
    refine c_cond_p rfl (fun hb => ?_) (fun hb => ?_)
    · rw [decide_eq_true hb] at hc
      refine c_seq (c_region ?_)
      refine oV vM ?_
      refine oV vA ?_
      refine o_nil ?_
      refine c_ret1 Tryz.func158 rfl rfl fun w O hS => ?_
      exact ⟨k, rfl, ⟨fun _ => hc, fun _ => by omega⟩, trivial⟩
    · rw [decide_eq_false hb] at hc
      refine c_skip (c_inBlock (c_region ?_))
      refine oV ((by first | exact v_add64 rfl rfl (by omega) | exact v_add rfl rfl)) ?_
      refine oV vM ?_
      refine o_nil ?_
      refine cU (IH ((k + 1, d[k])) (by first | omega | (dsimp only; omega)) (⟨by dsimp only; omega, hc⟩))
  · rw [List.drop_of_length_le (by omega)] at hc
    refine c_exit rfl ?_
    refine c_seq (c_region ?_)
    refine oV vA ?_
    refine o_nil ?_
    refine c_ret1 Tryz.func158 rfl rfl fun w O hS => ?_
    exact ⟨-1, rfl, ⟨fun h => absurd h (by decide), fun h => by rw [hc] at h; cases h⟩, trivial⟩
set_option maxRecDepth 100000 in
theorem containsD_con (v : Value) (d : List Int) (bl bq : Nat) (i : Int) (c0 c1 c3 c4 c5 c6 c7 : Value) (hd : d.length ≤ 1000000) : Con Tryz.prog 131 [v, .func (.func 132) #[] #[ptr1 bl, ptr1 bq]] [Sl (eInt .i64) v d, Blk bl 3 [.int .i64 0], BlkR bq 32 [c0, c1, .int .i64 i, c3, c4, c5, c6, c7]] (γ := Unit) (fun _ => .bool (!depsP i 0 d)) (fun _ => True) (fun _ => []) := by
  have hI := indexD_con v d bl bq i c0 c1 c3 c4 c5 c6 c7 hd
  refine con_of Tryz.func131 rfl (dd rfl) fun w0 O0 => ?_
  refine c_seq (c_region ?_)
  refine oV vA ?_
  refine o_nil (c_seq (c_region ?_))
  iterate 2 refine oV vM ?_
  refine oC cl158 (hI) fun r hr => ?_
  refine oV (v_ge rfl rfl) ?_
  refine oV vA ?_
  refine o_nil ?_
  refine c_ret1 Tryz.func131 rfl rfl fun w O hS => ?_
  refine ⟨(), congrArg Value.bool ?_, trivial, trivial⟩
  rw [Bool.eq_iff_iff, decide_eq_true_eq, Bool.not_eq_true', ← hr]
set_option maxRecDepth 100000 in
theorem deps_con (c0 c1 c3 c4 dv c6 c7 : Value) (i : Int) (d : List Int) (hd : d.length ≤ 1000000) : Con Tryz.prog 93 [.agg #[c0, c1, .int .i64 i, c3, c4, dv, c6, c7]] [Sl (eInt .i64) dv d] (γ := Unit) (fun _ => .bool (decide (d.length ≤ 8) && depsP i 0 d)) (fun _ => True) (fun _ => []) := by
  have hD := fun bl bq => containsD_con dv d bl bq i c0 c1 c3 c4 dv c6 c7 hd
  refine con_of Tryz.func93 rfl (dd rfl) fun w0 O0 => ?_
  refine c_seq (c_region ?_)
  refine o_step (s_box rfl (dd rfl) (fun b1 => ?_))
  refine oV vA ?_
  refine o_nil (c_seq (c_region ?_))
  refine o_step (s_alloc ti3 (dd rfl) (fun b3 => ?_))
  refine o_step (s_store1 ti3 rfl rfl (by first | exact OneC.lit rfl | exact OneC.sl (hX (by repeat constructor)) ) (pB (by repeat constructor)) (by first | decide | exact Nat.le_of_ble_eq_true rfl | simp) (by first | (dsimp only [List.set_cons_succ, List.set_cons_zero]; first | done | exact rfl) | rfl) (?_))
  refine o_nil (c_seq (c_region ?_))
  refine oV (vF 5 Tryz.underlying32 ti22) ?_
  refine oV (vL lone22) ?_
  refine oV ((by first | exact v_len_form Tryz.underlying22 rfl | exact v_len_sl Tryz.underlying22 rfl (hX (by repeat constructor)))) ?_
  refine oV (v_le rfl rfl) ?_
  refine oV vM ?_
  refine o_guard_t rfl rfl (fun g => ?_) (fun g => ?_)
  · rw [decide_eq_true (p := d.length ≤ 8) (by omega), Bool.true_and]
    refine oV (vF 5 Tryz.underlying32 ti22) ?_
    refine oN ?_
    refine oV (vL lone22) ?_
    refine oN ?_
    refine oV (v_makeFunc rfl rfl) ?_
    refine oN ?_
    refine o_step (s_callf_mix 2 cl131 (hD b3 b1) rfl (dd rfl) (pXs (by repeat constructor)) (rX (by repeat constructor)) (fun _ => sX) (fun _ _ => ?_))
    refine oN ?_
    refine oV (v_not rfl) ?_
    refine oV vT ?_
    refine oV vA ?_
    refine o_nil ?_
    refine c_ret1 Tryz.func93 rfl rfl fun w O hS => ?_
    exact ⟨(), by rw [Bool.not_not], trivial, trivial⟩
  · rw [decide_eq_false (p := d.length ≤ 8) (by omega), Bool.false_and]
    iterate 5 refine oX ?_
    refine oV vQ ?_
    refine oV vA ?_
    refine o_nil ?_
    refine c_ret1 Tryz.func93 rfl rfl fun w O hS => ?_
    exact ⟨(), rfl, trivial, trivial⟩
set_option maxRecDepth 100000 in
theorem wrongF_con (s last : ByteArray) (bl : Nat) (hs : s.size ≤ 1000000) : Con Tryz.prog 134 [.string s, ptr1 bl] [Blk bl 9 [.string last]] (γ := Unit) (fun _ => .bool (!namedP s || (Op.bytesLess s.data.toList last.data.toList || decide (s = last)))) (fun _ => True) (fun _ => [Blk bl 9 [.string s]]) := by
  have hN := named_con s hs
  refine con_of Tryz.func134 rfl (dd rfl) fun w0 O0 => ?_
  refine c_seq (c_region ?_)
  refine oV vA ?_
  refine o_nil (c_seq (c_region ?_))
  refine oV vM ?_
  refine oC cl86 (hN) fun _ _ => ?_
  refine oV (v_not rfl) ?_
  refine oV vM ?_
  refine o_guard rfl rfl (fun g => ?_) (fun g => ?_)
  · rw [g, Bool.false_or]
    refine oV vM ?_
    refine oN ?_
    refine oV (vL lone9) ?_
    refine oN ?_
    refine oV (v_sle rfl rfl) ?_
    refine oV vQ ?_
    refine oV vA ?_
    refine o_nil (c_seq (c_region ?_))
    refine oV vM ?_
    refine o_step (s_store1 ti9 rfl rfl (by first | exact OneC.lit rfl | exact OneC.sl (hX (by repeat constructor)) ) (pB (by repeat constructor)) (by first | decide | exact Nat.le_of_ble_eq_true rfl | simp) (by first | (dsimp only [List.set_cons_succ, List.set_cons_zero]; first | done | exact rfl) | rfl) (?_))
    refine o_nil (c_seq (c_region ?_))
    refine oV vM ?_
    refine oV vA ?_
    refine o_nil ?_
    refine c_ret1 Tryz.func134 rfl rfl fun w O hS => ?_
    exact ⟨(), rfl, trivial, Ent.get hS (eX (by repeat constructor))⟩
  · have g' : namedP s = false := by simpa using g
    iterate 3 refine oX ?_
    refine oV vT ?_
    refine oV vA ?_
    refine o_nil (c_seq (c_region ?_))
    refine oV vM ?_
    refine o_step (s_store1 ti9 rfl rfl (by first | exact OneC.lit rfl | exact OneC.sl (hX (by repeat constructor)) ) (pB (by repeat constructor)) (by first | decide | exact Nat.le_of_ble_eq_true rfl | simp) (by first | (dsimp only [List.set_cons_succ, List.set_cons_zero]; first | done | exact rfl) | rfl) (?_))
    refine o_nil (c_seq (c_region ?_))
    refine oV vM ?_
    refine oV vA ?_
    refine o_nil ?_
    refine c_ret1 Tryz.func134 rfl rfl fun w O hS => ?_
    exact ⟨(), by rw [g']; rfl, trivial, Ent.get hS (eX (by repeat constructor))⟩
set_option maxRecDepth 100000 in
theorem indexF_con (v : Value) (d : List ByteArray) (bl : Nat) (hd : d.length ≤ 1000000) (hs : ∀ s ∈ d, s.size ≤ 1000000) : Con Tryz.prog 159 [v, .func (.func 134) #[] #[ptr1 bl]] [Sl eStr v d, Blk bl 9 [.string ⟨#[]⟩]] (γ := Int) (fun r => .int .i64 r) (fun r => 0 ≤ r ↔ filesP ⟨#[]⟩ d = false) (fun _ => []) := by
  refine con_of Tryz.func159 rfl (dd rfl) fun w0 O0 => ?_
  refine c_seq (c_region ?_)
  refine oV vA ?_
  refine o_nil (c_seq (c_seq (c_region ?_)))
  refine oV vM ?_
  refine oV ((by first | exact v_len_form Tryz.underlying23 rfl | exact v_len_sl Tryz.underlying23 rfl (hX (by repeat constructor)))) ?_
  refine oV vM ?_
  refine o_nil (c_block ?_)
  refine c_loopR (γ := Nat × ByteArray) [(0, _), (1, _), (4, _), (7, _)] (fun k => d.length - k.1) (fun k => k.1 ≤ d.length ∧ filesP ⟨#[]⟩ d = filesP k.2 (d.drop k.1)) (fun k => [(8, .int .i64 k.1)]) (fun k => [Sl eStr v d, Blk bl 9 [.string k.2]]) ((0, ⟨#[]⟩)) (⟨Nat.zero_le _, rfl⟩) (by repeat (first | exact trivial | refine ⟨rfl, ?_⟩)) (eX (by repeat constructor)) ?_
  rintro ⟨k, last⟩ ⟨hk, hc⟩ IH
  dsimp only at hk hc ⊢
  try dsimp only [List.cons_append, List.nil_append]
  refine c_seq (c_region ?_)
  refine oV (v_lt rfl rfl) ?_
  refine o_nil (c_seq ?_)
  refine c_cond_p rfl (fun hlt => ?_) (fun hlt => ?_)
  · have hk' : k < d.length := by omega
    have hW := wrongF_con d[k] last bl (hs _ (List.getElem_mem hk'))
    rw [files_step hk'] at hc
    refine c_skip (c_seq (c_block (c_seq (c_region ?_))))
    refine oV vM ?_
    refine oV vA ?_
    refine o_nil (c_seq (c_region ?_))
    iterate 3 refine oV vM ?_
    refine oV ((by first | exact v_indexAddrN Tryz.underlying23 ti9 rfl rfl (hX (by repeat constructor)) (by omega) | exact v_indexAddr Tryz.underlying23 ti9 rfl rfl (hX (by repeat constructor)) (by omega))) ?_
    refine oV (v_load_str lone9 rfl (by repeat (first | exact Elem.sl (List.getElem?_eq_getElem (by omega)) | exact Elem.own (List.getElem?_eq_getElem (by omega)) | exact Elem.ownO (List.getElem?_eq_getElem (by omega)) | apply Elem.there))) ?_
    refine o_step (s_call cl134 (hW) (first := []) (cap := [ptr1 bl]) rfl rfl (by rfl) (dd rfl) (pXs (by repeat constructor)) fun _ _ => ?_)
    refine o_nil ?_
    refine c_cond rfl (fun hb => ?_) (fun hb => ?_)
    · rw [hb] at hc
      refine c_seq (c_region ?_)
      refine oV vM ?_
      refine oV vA ?_
      refine o_nil ?_
      refine c_ret1 Tryz.func159 rfl rfl fun w O hS => ?_
      exact ⟨k, rfl, ⟨fun _ => hc, fun _ => by omega⟩, trivial⟩
    · rw [hb] at hc
      refine c_skip (c_inBlock (c_region ?_))
      refine oV ((by first | exact v_add64 rfl rfl (by omega) | exact v_add rfl rfl)) ?_
      refine oV vM ?_
      refine o_nil ?_
      refine cU (IH ((k + 1, d[k])) (by first | omega | (dsimp only; omega)) (⟨by dsimp only; omega, hc⟩))
  · rw [List.drop_of_length_le (by omega)] at hc
    refine c_exit rfl ?_
    refine c_seq (c_region ?_)
    refine oV vA ?_
    refine o_nil ?_
    refine c_ret1 Tryz.func159 rfl rfl fun w O hS => ?_
    exact ⟨-1, rfl, ⟨fun h => absurd h (by decide), fun h => by rw [hc] at h; cases h⟩, trivial⟩
set_option maxRecDepth 100000 in
theorem containsF_con (v : Value) (d : List ByteArray) (bl : Nat) (hd : d.length ≤ 1000000) (hs : ∀ s ∈ d, s.size ≤ 1000000) : Con Tryz.prog 133 [v, .func (.func 134) #[] #[ptr1 bl]] [Sl eStr v d, Blk bl 9 [.string ⟨#[]⟩]] (γ := Unit) (fun _ => .bool (!filesP ⟨#[]⟩ d)) (fun _ => True) (fun _ => []) := by
  have hI := indexF_con v d bl hd hs
  refine con_of Tryz.func133 rfl (dd rfl) fun w0 O0 => ?_
  refine c_seq (c_region ?_)
  refine oV vA ?_
  refine o_nil (c_seq (c_region ?_))
  iterate 2 refine oV vM ?_
  refine oC cl159 (hI) fun r hr => ?_
  refine oV (v_ge rfl rfl) ?_
  refine oV vA ?_
  refine o_nil ?_
  refine c_ret1 Tryz.func133 rfl rfl fun w O hS => ?_
  refine ⟨(), congrArg Value.bool ?_, trivial, trivial⟩
  rw [Bool.eq_iff_iff, decide_eq_true_eq, Bool.not_eq_true', ← hr]
set_option maxRecDepth 100000 in
theorem files_con (c0 c1 c2 c3 c4 c5 fv c7 : Value) (d : List ByteArray) (hd : d.length ≤ 1000000) (hs : ∀ s ∈ d, s.size ≤ 1000000) : Con Tryz.prog 94 [.agg #[c0, c1, c2, c3, c4, c5, fv, c7]] [Sl eStr fv d] (γ := Unit) (fun _ => .bool (decide (d.length ≤ 8) && filesP ⟨#[]⟩ d)) (fun _ => True) (fun _ => []) := by
  have hD := fun bl => containsF_con fv d bl hd hs
  refine con_of Tryz.func94 rfl (dd rfl) fun w0 O0 => ?_
  refine c_seq (c_region ?_)
  refine o_step (s_box rfl (dd rfl) (fun b1 => ?_))
  refine oV vA ?_
  refine o_nil (c_seq (c_region ?_))
  refine o_step (s_alloc ti9 (dd rfl) (fun b3 => ?_))
  refine o_step (s_store1 ti9 rfl rfl (by first | exact OneC.lit rfl | exact OneC.sl (hX (by repeat constructor)) ) (pB (by repeat constructor)) (by first | decide | exact Nat.le_of_ble_eq_true rfl | simp) (by first | (dsimp only [List.set_cons_succ, List.set_cons_zero]; first | done | exact rfl) | rfl) (?_))
  refine o_nil (c_seq (c_region ?_))
  refine oV (vF 6 Tryz.underlying32 ti23) ?_
  refine oV (vL lone23) ?_
  refine oV ((by first | exact v_len_form Tryz.underlying23 rfl | exact v_len_sl Tryz.underlying23 rfl (hX (by repeat constructor)))) ?_
  refine oV (v_le rfl rfl) ?_
  refine oV vM ?_
  refine o_guard_t rfl rfl (fun g => ?_) (fun g => ?_)
  · rw [decide_eq_true (p := d.length ≤ 8) (by omega), Bool.true_and]
    refine oV (vF 6 Tryz.underlying32 ti23) ?_
    refine oN ?_
    refine oV (vL lone23) ?_
    refine oN ?_
    refine oV (v_makeFunc rfl rfl) ?_
    refine oN ?_
    refine oC cl133 (hD b3) fun _ _ => ?_
    refine oN ?_
    refine oV (v_not rfl) ?_
    refine oV vT ?_
    refine oV vA ?_
    refine o_nil ?_
    refine c_ret1 Tryz.func94 rfl rfl fun w O hS => ?_
    exact ⟨(), by rw [Bool.not_not], trivial, trivial⟩
  · rw [decide_eq_false (p := d.length ≤ 8) (by omega), Bool.false_and]
    iterate 5 refine oX ?_
    refine oV vQ ?_
    refine oV vA ?_
    refine o_nil ?_
    refine c_ret1 Tryz.func94 rfl rfl fun w O hS => ?_
    exact ⟨(), rfl, trivial, trivial⟩
end Go.Proofs.YtlfehnnmpkohkaaGreatDoor
/- Chapter 16: what the kinds need, and what is left without it. -/
namespace Go.Proofs.YtlfehnnmpkohkaaGreatDoor
open Go Go.SL Go.Lib
attribute [local irreducible] Cfg Kont StepK Val Con Qops Any Sl Own Blk BlkR Rd Pu ExA AllA Has Pick Ent Elem Beside Callable TI Lone OwnO AndA
set_option maxRecDepth 100000 in
theorem rName_con (q : Rq9) (d f l : Value) : Con Tryz.prog 81 [.agg #[.int .i64 q.1, .int .i64 q.2.1, .int .i64 q.2.2.1, .string q.2.2.2.1, .string q.2.2.2.2.1, d, f, l]] [Sl (eInt .i64) d q.2.2.2.2.2.1, Sl eStr f q.2.2.2.2.2.2.1, Sl ePr l q.2.2.2.2.2.2.2] (γ := Unit) (fun _ => .agg #[.int .i64 q.1, .int .i64 q.2.1, .int .i64 q.2.2.1, .string ⟨#[]⟩, .string q.2.2.2.2.1, d, f, l]) (fun _ => True) (fun _ => []) := by
  refine con_of Tryz.func81 rfl (dd rfl) fun w0 O0 => ?_
  refine c_seq (c_region ?_)
  refine o_step (s_box rfl (dd rfl) (fun b1 => ?_))
  refine o_step (s_alloc ti32 (dd rfl) (fun b2 => ?_))
  refine o_nil (c_seq (c_region ?_))
  refine oV (vF 3 Tryz.underlying32 ti9) ?_
  refine o_step (s_store1 ti9 rfl rfl (by first | exact OneC.lit rfl | exact OneC.sl (hX (by repeat constructor)) ) (pB (by repeat constructor)) (by first | decide | exact Nat.le_of_ble_eq_true rfl | simp) (by first | (dsimp only [List.set_cons_succ, List.set_cons_zero]; first | done | exact rfl) | rfl) (?_))
  refine o_nil (c_seq (c_region ?_))
  refine oV (vW Tryz.underlying32 ti32) ?_
  refine o_step (s_store_all ti32 rfl rfl (by first | exact CellsV.lit rfl | exact CellsV.one (by first | exact OneC.lit rfl | exact OneC.sl (hX (by repeat constructor)) )) (by repeat (first | exact OneAll.nil | (refine OneAll.cons ?_ ?_; · first | exact OneC.lit rfl | exact OneC.sl (hX (by repeat constructor)) ) | exact OneAll.rd (hX (by repeat constructor)))) rfl (pB (by repeat constructor)) rfl (?_))
  refine o_nil ?_
  refine c_ret_cell Tryz.func81 rfl ⟨_, Tryz.underlying32⟩ ti32 rfl (hX (by repeat constructor)) fun w O hS => ?_
  exact ⟨(), rfl, trivial, trivial⟩
set_option maxRecDepth 100000 in
theorem rGroup_con (q : Rq9) (d f l : Value) : Con Tryz.prog 82 [.agg #[.int .i64 q.1, .int .i64 q.2.1, .int .i64 q.2.2.1, .string q.2.2.2.1, .string q.2.2.2.2.1, d, f, l]] [Sl (eInt .i64) d q.2.2.2.2.2.1, Sl eStr f q.2.2.2.2.2.2.1, Sl ePr l q.2.2.2.2.2.2.2] (γ := Unit) (fun _ => .agg #[.int .i64 q.1, .int .i64 q.2.1, .int .i64 0, .string q.2.2.2.1, .string q.2.2.2.2.1, d, .slice none 0 0, l]) (fun _ => True) (fun _ => []) := by
  refine con_of Tryz.func82 rfl (dd rfl) fun w0 O0 => ?_
  refine c_seq (c_region ?_)
  refine o_step (s_box rfl (dd rfl) (fun b1 => ?_))
  refine o_step (s_alloc ti32 (dd rfl) (fun b2 => ?_))
  refine o_nil (c_seq (c_region ?_))
  refine oV (vF 2 Tryz.underlying32 ti3) ?_
  refine o_step (s_store1 ti3 rfl rfl (by first | exact OneC.lit rfl | exact OneC.sl (hX (by repeat constructor)) ) (pB (by repeat constructor)) (by first | decide | exact Nat.le_of_ble_eq_true rfl | simp) (by first | (dsimp only [List.set_cons_succ, List.set_cons_zero]; first | done | exact rfl) | rfl) (?_))
  refine oV (vF 6 Tryz.underlying32 ti23) ?_
  refine o_step (s_store1 ti23 rfl rfl (by first | exact OneC.lit rfl | exact OneC.sl (hX (by repeat constructor)) ) (pB (by repeat constructor)) (by first | decide | exact Nat.le_of_ble_eq_true rfl | simp) (by first | (dsimp only [List.set_cons_succ, List.set_cons_zero]; first | done | exact rfl) | rfl) (?_))
  refine o_nil (c_seq (c_region ?_))
  refine oV (vW Tryz.underlying32 ti32) ?_
  refine o_step (s_store_all ti32 rfl rfl (by first | exact CellsV.lit rfl | exact CellsV.one (by first | exact OneC.lit rfl | exact OneC.sl (hX (by repeat constructor)) )) (by repeat (first | exact OneAll.nil | (refine OneAll.cons ?_ ?_; · first | exact OneC.lit rfl | exact OneC.sl (hX (by repeat constructor)) ) | exact OneAll.rd (hX (by repeat constructor)))) rfl (pB (by repeat constructor)) rfl (?_))
  refine o_nil ?_
  refine c_ret_cell Tryz.func82 rfl ⟨_, Tryz.underlying32⟩ ti32 rfl (hX (by repeat constructor)) fun w O hS => ?_
  exact ⟨(), rfl, trivial, trivial⟩
set_option maxRecDepth 100000 in
theorem rNone_con (q : Rq9) (d f l : Value) : Con Tryz.prog 84 [.agg #[.int .i64 q.1, .int .i64 q.2.1, .int .i64 q.2.2.1, .string q.2.2.2.1, .string q.2.2.2.2.1, d, f, l]] [Sl (eInt .i64) d q.2.2.2.2.2.1, Sl eStr f q.2.2.2.2.2.2.1, Sl ePr l q.2.2.2.2.2.2.2] (γ := Unit) (fun _ => .agg #[.int .i64 q.1, .int .i64 q.2.1, .int .i64 q.2.2.1, .string q.2.2.2.1, .string q.2.2.2.2.1, d, f, l]) (fun _ => True) (fun _ => []) := by
  refine con_of Tryz.func84 rfl (dd rfl) fun w0 O0 => ?_
  refine c_seq (c_region ?_)
  refine o_step (s_box rfl (dd rfl) (fun b1 => ?_))
  refine o_step (s_alloc ti32 (dd rfl) (fun b2 => ?_))
  refine o_nil (c_seq (c_region ?_))
  refine oV (vW Tryz.underlying32 ti32) ?_
  refine o_step (s_store_all ti32 rfl rfl (by first | exact CellsV.lit rfl | exact CellsV.one (by first | exact OneC.lit rfl | exact OneC.sl (hX (by repeat constructor)) )) (by repeat (first | exact OneAll.nil | (refine OneAll.cons ?_ ?_; · first | exact OneC.lit rfl | exact OneC.sl (hX (by repeat constructor)) ) | exact OneAll.rd (hX (by repeat constructor)))) rfl (pB (by repeat constructor)) rfl (?_))
  refine o_nil ?_
  refine c_ret_cell Tryz.func84 rfl ⟨_, Tryz.underlying32⟩ ti32 rfl (hX (by repeat constructor)) fun w O hS => ?_
  exact ⟨(), rfl, trivial, trivial⟩
set_option maxRecDepth 100000 in
theorem rChange_con (q : Rq9) (d f l : Value) : Con Tryz.prog 89 [.agg #[.int .i64 q.1, .int .i64 q.2.1, .int .i64 q.2.2.1, .string q.2.2.2.1, .string q.2.2.2.2.1, d, f, l]] [Sl (eInt .i64) d q.2.2.2.2.2.1, Sl eStr f q.2.2.2.2.2.2.1, Sl ePr l q.2.2.2.2.2.2.2] (γ := Unit) (fun _ => .agg #[.int .i64 q.1, .int .i64 0, .int .i64 q.2.2.1, .string q.2.2.2.1, .string q.2.2.2.2.1, d, f, .slice none 0 0]) (fun _ => True) (fun _ => []) := by
  refine con_of Tryz.func89 rfl (dd rfl) fun w0 O0 => ?_
  refine c_seq (c_region ?_)
  refine o_step (s_box rfl (dd rfl) (fun b1 => ?_))
  refine o_step (s_alloc ti32 (dd rfl) (fun b2 => ?_))
  refine o_nil (c_seq (c_region ?_))
  refine oV (vF 1 Tryz.underlying32 ti3) ?_
  refine o_step (s_store1 ti3 rfl rfl (by first | exact OneC.lit rfl | exact OneC.sl (hX (by repeat constructor)) ) (pB (by repeat constructor)) (by first | decide | exact Nat.le_of_ble_eq_true rfl | simp) (by first | (dsimp only [List.set_cons_succ, List.set_cons_zero]; first | done | exact rfl) | rfl) (?_))
  refine oV (vF 7 Tryz.underlying32 ti30) ?_
  refine o_step (s_store1 ti30 rfl rfl (by first | exact OneC.lit rfl | exact OneC.sl (hX (by repeat constructor)) ) (pB (by repeat constructor)) (by first | decide | exact Nat.le_of_ble_eq_true rfl | simp) (by first | (dsimp only [List.set_cons_succ, List.set_cons_zero]; first | done | exact rfl) | rfl) (?_))
  refine o_nil (c_seq (c_region ?_))
  refine oV (vW Tryz.underlying32 ti32) ?_
  refine o_step (s_store_all ti32 rfl rfl (by first | exact CellsV.lit rfl | exact CellsV.one (by first | exact OneC.lit rfl | exact OneC.sl (hX (by repeat constructor)) )) (by repeat (first | exact OneAll.nil | (refine OneAll.cons ?_ ?_; · first | exact OneC.lit rfl | exact OneC.sl (hX (by repeat constructor)) ) | exact OneAll.rd (hX (by repeat constructor)))) rfl (pB (by repeat constructor)) rfl (?_))
  refine o_nil ?_
  refine c_ret_cell Tryz.func89 rfl ⟨_, Tryz.underlying32⟩ ti32 rfl (hX (by repeat constructor)) fun w O hS => ?_
  exact ⟨(), rfl, trivial, trivial⟩
set_option maxRecDepth 100000 in
theorem rUnrecord_con (q : Rq9) (d f l : Value) : Con Tryz.prog 97 [.agg #[.int .i64 q.1, .int .i64 q.2.1, .int .i64 q.2.2.1, .string q.2.2.2.1, .string q.2.2.2.2.1, d, f, l]] [Sl (eInt .i64) d q.2.2.2.2.2.1, Sl eStr f q.2.2.2.2.2.2.1, Sl ePr l q.2.2.2.2.2.2.2] (γ := Unit) (fun _ => .agg #[.int .i64 q.1, .int .i64 q.2.1, .int .i64 0, .string q.2.2.2.1, .string q.2.2.2.2.1, d, f, l]) (fun _ => True) (fun _ => []) := by
  refine con_of Tryz.func97 rfl (dd rfl) fun w0 O0 => ?_
  refine c_seq (c_region ?_)
  refine o_step (s_box rfl (dd rfl) (fun b1 => ?_))
  refine o_step (s_alloc ti32 (dd rfl) (fun b2 => ?_))
  refine o_nil (c_seq (c_region ?_))
  refine oV (vF 2 Tryz.underlying32 ti3) ?_
  refine o_step (s_store1 ti3 rfl rfl (by first | exact OneC.lit rfl | exact OneC.sl (hX (by repeat constructor)) ) (pB (by repeat constructor)) (by first | decide | exact Nat.le_of_ble_eq_true rfl | simp) (by first | (dsimp only [List.set_cons_succ, List.set_cons_zero]; first | done | exact rfl) | rfl) (?_))
  refine o_nil (c_seq (c_region ?_))
  refine oV (vW Tryz.underlying32 ti32) ?_
  refine o_step (s_store_all ti32 rfl rfl (by first | exact CellsV.lit rfl | exact CellsV.one (by first | exact OneC.lit rfl | exact OneC.sl (hX (by repeat constructor)) )) (by repeat (first | exact OneAll.nil | (refine OneAll.cons ?_ ?_; · first | exact OneC.lit rfl | exact OneC.sl (hX (by repeat constructor)) ) | exact OneAll.rd (hX (by repeat constructor)))) rfl (pB (by repeat constructor)) rfl (?_))
  refine o_nil ?_
  refine c_ret_cell Tryz.func97 rfl ⟨_, Tryz.underlying32⟩ ti32 rfl (hX (by repeat constructor)) fun w O hS => ?_
  exact ⟨(), rfl, trivial, trivial⟩
set_option maxRecDepth 100000 in
theorem rRevert_con (q : Rq9) (d f l : Value) : Con Tryz.prog 98 [.agg #[.int .i64 q.1, .int .i64 q.2.1, .int .i64 q.2.2.1, .string q.2.2.2.1, .string q.2.2.2.2.1, d, f, l]] [Sl (eInt .i64) d q.2.2.2.2.2.1, Sl eStr f q.2.2.2.2.2.2.1, Sl ePr l q.2.2.2.2.2.2.2] (γ := Unit) (fun _ => .agg #[.int .i64 q.1, .int .i64 q.2.1, .int .i64 q.2.2.1, .string q.2.2.2.1, .string q.2.2.2.2.1, d, .slice none 0 0, l]) (fun _ => True) (fun _ => []) := by
  refine con_of Tryz.func98 rfl (dd rfl) fun w0 O0 => ?_
  refine c_seq (c_region ?_)
  refine o_step (s_box rfl (dd rfl) (fun b1 => ?_))
  refine o_step (s_alloc ti32 (dd rfl) (fun b2 => ?_))
  refine o_nil (c_seq (c_region ?_))
  refine oV (vF 6 Tryz.underlying32 ti23) ?_
  refine o_step (s_store1 ti23 rfl rfl (by first | exact OneC.lit rfl | exact OneC.sl (hX (by repeat constructor)) ) (pB (by repeat constructor)) (by first | decide | exact Nat.le_of_ble_eq_true rfl | simp) (by first | (dsimp only [List.set_cons_succ, List.set_cons_zero]; first | done | exact rfl) | rfl) (?_))
  refine o_nil (c_seq (c_region ?_))
  refine oV (vW Tryz.underlying32 ti32) ?_
  refine o_step (s_store_all ti32 rfl rfl (by first | exact CellsV.lit rfl | exact CellsV.one (by first | exact OneC.lit rfl | exact OneC.sl (hX (by repeat constructor)) )) (by repeat (first | exact OneAll.nil | (refine OneAll.cons ?_ ?_; · first | exact OneC.lit rfl | exact OneC.sl (hX (by repeat constructor)) ) | exact OneAll.rd (hX (by repeat constructor)))) rfl (pB (by repeat constructor)) rfl (?_))
  refine o_nil ?_
  refine c_ret_cell Tryz.func98 rfl ⟨_, Tryz.underlying32⟩ ti32 rfl (hX (by repeat constructor)) fun w O hS => ?_
  exact ⟨(), rfl, trivial, trivial⟩
set_option maxRecDepth 100000 in
theorem rTake_con (q : Rq9) (d f l : Value) : Con Tryz.prog 103 [.agg #[.int .i64 q.1, .int .i64 q.2.1, .int .i64 q.2.2.1, .string q.2.2.2.1, .string q.2.2.2.2.1, d, f, l]] [Sl (eInt .i64) d q.2.2.2.2.2.1, Sl eStr f q.2.2.2.2.2.2.1, Sl ePr l q.2.2.2.2.2.2.2] (γ := Unit) (fun _ => .agg #[.int .i64 q.1, .int .i64 q.2.1, .int .i64 0, .string q.2.2.2.1, .string q.2.2.2.2.1, d, f, l]) (fun _ => True) (fun _ => []) := by
  refine con_of Tryz.func103 rfl (dd rfl) fun w0 O0 => ?_
  refine c_seq (c_region ?_)
  refine o_step (s_box rfl (dd rfl) (fun b1 => ?_))
  refine o_step (s_alloc ti32 (dd rfl) (fun b2 => ?_))
  refine o_nil (c_seq (c_region ?_))
  refine oV (vF 2 Tryz.underlying32 ti3) ?_
  refine o_step (s_store1 ti3 rfl rfl (by first | exact OneC.lit rfl | exact OneC.sl (hX (by repeat constructor)) ) (pB (by repeat constructor)) (by first | decide | exact Nat.le_of_ble_eq_true rfl | simp) (by first | (dsimp only [List.set_cons_succ, List.set_cons_zero]; first | done | exact rfl) | rfl) (?_))
  refine o_nil (c_seq (c_region ?_))
  refine oV (vW Tryz.underlying32 ti32) ?_
  refine o_step (s_store_all ti32 rfl rfl (by first | exact CellsV.lit rfl | exact CellsV.one (by first | exact OneC.lit rfl | exact OneC.sl (hX (by repeat constructor)) )) (by repeat (first | exact OneAll.nil | (refine OneAll.cons ?_ ?_; · first | exact OneC.lit rfl | exact OneC.sl (hX (by repeat constructor)) ) | exact OneAll.rd (hX (by repeat constructor)))) rfl (pB (by repeat constructor)) rfl (?_))
  refine o_nil ?_
  refine c_ret_cell Tryz.func103 rfl ⟨_, Tryz.underlying32⟩ ti32 rfl (hX (by repeat constructor)) fun w O hS => ?_
  exact ⟨(), rfl, trivial, trivial⟩
set_option maxRecDepth 100000 in
theorem rRecord_con (q : Rq9) (d f l : Value) (bc : Nat) : Con Tryz.prog 95 [.agg #[.int .i64 q.1, .int .i64 q.2.1, .int .i64 q.2.2.1, .string q.2.2.2.1, .string q.2.2.2.2.1, d, f, l], ptr1 bc] [BlkR bc 75 [.func (.func 82) #[] #[]], Sl (eInt .i64) d q.2.2.2.2.2.1, Sl eStr f q.2.2.2.2.2.2.1, Sl ePr l q.2.2.2.2.2.2.2] (γ := Unit) (fun _ => .agg #[.int .i64 q.1, .int .i64 q.2.1, .int .i64 0, .string q.2.2.2.1, .string ⟨#[]⟩, .slice none 0 0, .slice none 0 0, l]) (fun _ => True) (fun _ => []) := by
  have hC := by have h := rGroup_con (q.1, q.2.1, q.2.2.1, q.2.2.2.1, ⟨#[]⟩, [], q.2.2.2.2.2.2.1, q.2.2.2.2.2.2.2) (.slice none 0 0) f l; dsimp only at h; exact h
  refine con_of Tryz.func95 rfl (dd rfl) fun w0 O0 => ?_
  refine c_seq (c_region ?_)
  refine o_step (s_box rfl (dd rfl) (fun b2 => ?_))
  refine o_step (s_alloc ti32 (dd rfl) (fun b3 => ?_))
  refine o_nil (c_seq (c_region ?_))
  refine oV (vF 4 Tryz.underlying32 ti9) ?_
  refine o_step (s_store1 ti9 rfl rfl (by first | exact OneC.lit rfl | exact OneC.sl (hX (by repeat constructor)) ) (pB (by repeat constructor)) (by first | decide | exact Nat.le_of_ble_eq_true rfl | simp) (by first | (dsimp only [List.set_cons_succ, List.set_cons_zero]; first | done | exact rfl) | rfl) (?_))
  refine oV (vF 5 Tryz.underlying32 ti22) ?_
  refine o_step (s_store1 ti22 rfl rfl (by first | exact OneC.lit rfl | exact OneC.sl (hX (by repeat constructor)) ) (pB (by repeat constructor)) (by first | decide | exact Nat.le_of_ble_eq_true rfl | simp) (by first | (dsimp only [List.set_cons_succ, List.set_cons_zero]; first | done | exact rfl) | rfl) (?_))
  refine o_nil (c_seq (c_region ?_))
  refine oV (vL lone75) ?_
  refine oV (vW Tryz.underlying32 ti32) ?_
  refine o_step (s_call cl82 (hC) (first := []) (cap := []) rfl rfl (by rfl) (dd rfl) (pXs (by repeat constructor)) fun _ _ => ?_)
  refine o_step (s_store_all ti32 rfl rfl (by first | exact CellsV.lit rfl | exact CellsV.one (by first | exact OneC.lit rfl | exact OneC.sl (hX (by repeat constructor)) )) (by repeat (first | exact OneAll.nil | (refine OneAll.cons ?_ ?_; · first | exact OneC.lit rfl | exact OneC.sl (hX (by repeat constructor)) ) | exact OneAll.rd (hX (by repeat constructor)))) rfl (pB (by repeat constructor)) rfl (?_))
  refine o_nil ?_
  refine c_ret_cell Tryz.func95 rfl ⟨_, Tryz.underlying32⟩ ti32 rfl (hX (by repeat constructor)) fun w O hS => ?_
  exact ⟨(), rfl, trivial, trivial⟩
set_option maxRecDepth 100000 in
theorem rShelve_con (q : Rq9) (d f l : Value) (bc : Nat) : Con Tryz.prog 100 [.agg #[.int .i64 q.1, .int .i64 q.2.1, .int .i64 q.2.2.1, .string q.2.2.2.1, .string q.2.2.2.2.1, d, f, l], ptr1 bc] [BlkR bc 75 [.func (.func 81) #[] #[]], Sl (eInt .i64) d q.2.2.2.2.2.1, Sl eStr f q.2.2.2.2.2.2.1, Sl ePr l q.2.2.2.2.2.2.2] (γ := Unit) (fun _ => .agg #[.int .i64 q.1, .int .i64 q.2.1, .int .i64 q.2.2.1, .string ⟨#[]⟩, .string q.2.2.2.2.1, d, .slice none 0 0, l]) (fun _ => True) (fun _ => []) := by
  have hC := by have h := rName_con (q.1, q.2.1, q.2.2.1, q.2.2.2.1, q.2.2.2.2.1, q.2.2.2.2.2.1, [], q.2.2.2.2.2.2.2) d (.slice none 0 0) l; dsimp only at h; exact h
  refine con_of Tryz.func100 rfl (dd rfl) fun w0 O0 => ?_
  refine c_seq (c_region ?_)
  refine o_step (s_box rfl (dd rfl) (fun b2 => ?_))
  refine o_step (s_alloc ti32 (dd rfl) (fun b3 => ?_))
  refine o_nil (c_seq (c_region ?_))
  refine oV (vF 6 Tryz.underlying32 ti23) ?_
  refine o_step (s_store1 ti23 rfl rfl (by first | exact OneC.lit rfl | exact OneC.sl (hX (by repeat constructor)) ) (pB (by repeat constructor)) (by first | decide | exact Nat.le_of_ble_eq_true rfl | simp) (by first | (dsimp only [List.set_cons_succ, List.set_cons_zero]; first | done | exact rfl) | rfl) (?_))
  refine o_nil (c_seq (c_region ?_))
  refine oV (vL lone75) ?_
  refine oV (vW Tryz.underlying32 ti32) ?_
  refine o_step (s_call cl81 (hC) (first := []) (cap := []) rfl rfl (by rfl) (dd rfl) (pXs (by repeat constructor)) fun _ _ => ?_)
  refine o_step (s_store_all ti32 rfl rfl (by first | exact CellsV.lit rfl | exact CellsV.one (by first | exact OneC.lit rfl | exact OneC.sl (hX (by repeat constructor)) )) (by repeat (first | exact OneAll.nil | (refine OneAll.cons ?_ ?_; · first | exact OneC.lit rfl | exact OneC.sl (hX (by repeat constructor)) ) | exact OneAll.rd (hX (by repeat constructor)))) rfl (pB (by repeat constructor)) rfl (?_))
  refine o_nil ?_
  refine c_ret_cell Tryz.func100 rfl ⟨_, Tryz.underlying32⟩ ti32 rfl (hX (by repeat constructor)) fun w O hS => ?_
  exact ⟨(), rfl, trivial, trivial⟩
set_option maxRecDepth 100000 in
theorem tNone_con (q : Rq9) (d f l : Value) : Con Tryz.prog 83 [.agg #[.int .i64 q.1, .int .i64 q.2.1, .int .i64 q.2.2.1, .string q.2.2.2.1, .string q.2.2.2.2.1, d, f, l]] [Sl (eInt .i64) d q.2.2.2.2.2.1, Sl eStr f q.2.2.2.2.2.2.1, Sl ePr l q.2.2.2.2.2.2.2] (γ := Unit) (fun _ => .bool (true)) (fun _ => True) (fun _ => []) := by
  refine con_of Tryz.func83 rfl (dd rfl) fun w0 O0 => ?_
  refine c_seq (c_region ?_)
  refine o_step (s_box rfl (dd rfl) (fun b1 => ?_))
  refine oV vA ?_
  refine o_nil (c_seq (c_region ?_))
  refine oV vA ?_
  refine o_nil ?_
  refine c_ret1 Tryz.func83 rfl rfl fun w O hS => ?_
  exact ⟨(), rfl, trivial, trivial⟩
set_option maxRecDepth 100000 in
theorem tNamed_con (q : Rq9) (d f l : Value) (hn : q.2.2.2.1.size ≤ 1000000) : Con Tryz.prog 85 [.agg #[.int .i64 q.1, .int .i64 q.2.1, .int .i64 q.2.2.1, .string q.2.2.2.1, .string q.2.2.2.2.1, d, f, l]] [Sl (eInt .i64) d q.2.2.2.2.2.1, Sl eStr f q.2.2.2.2.2.2.1, Sl ePr l q.2.2.2.2.2.2.2] (γ := Unit) (fun _ => .bool (namedP q.2.2.2.1)) (fun _ => True) (fun _ => []) := by
  have hN := named_con q.2.2.2.1 hn
  refine con_of Tryz.func85 rfl (dd rfl) fun w0 O0 => ?_
  refine c_seq (c_region ?_)
  refine o_step (s_box rfl (dd rfl) (fun b1 => ?_))
  refine oV vA ?_
  refine o_nil (c_seq (c_region ?_))
  refine oV (vF 3 Tryz.underlying32 ti9) ?_
  refine oV (vL lone9) ?_
  refine oC cl86 (hN) fun _ _ => ?_
  refine oV vA ?_
  refine o_nil ?_
  refine c_ret1 Tryz.func85 rfl rfl fun w O hS => ?_
  exact ⟨(), rfl, trivial, trivial⟩
set_option maxRecDepth 100000 in
theorem tTake_con (q : Rq9) (d f l : Value) : Con Tryz.prog 102 [.agg #[.int .i64 q.1, .int .i64 q.2.1, .int .i64 q.2.2.1, .string q.2.2.2.1, .string q.2.2.2.2.1, d, f, l]] [Sl (eInt .i64) d q.2.2.2.2.2.1, Sl eStr f q.2.2.2.2.2.2.1, Sl ePr l q.2.2.2.2.2.2.2] (γ := Unit) (fun _ => .bool (decide (0 ≤ q.2.2.1 ∧ q.2.2.1 ≤ 100))) (fun _ => True) (fun _ => []) := by
  refine con_of Tryz.func102 rfl (dd rfl) fun w0 O0 => ?_
  refine c_seq (c_region ?_)
  refine o_step (s_box rfl (dd rfl) (fun b1 => ?_))
  refine oV vA ?_
  refine o_nil (c_seq (c_region ?_))
  refine oV (vF 2 Tryz.underlying32 ti3) ?_
  refine oV (vL lone3) ?_
  refine oV (v_ge rfl rfl) ?_
  refine oV vM ?_
  refine o_guard_t rfl rfl (fun g1 => ?_) (fun g1 => ?_)
  · skip
    refine oV (vF 2 Tryz.underlying32 ti3) ?_
    refine oN ?_
    refine oV (vL lone3) ?_
    refine oN ?_
    refine oV (v_le rfl rfl) ?_
    refine oV vT ?_
    refine oV vA ?_
    refine o_nil ?_
    refine c_ret1 Tryz.func102 rfl rfl fun w O hS => ?_
    exact ⟨(), congrArg Value.bool (by simp [g1]), trivial, trivial⟩
  · skip
    iterate 3 refine oX ?_
    refine oV vQ ?_
    refine oV vA ?_
    refine o_nil ?_
    refine c_ret1 Tryz.func102 rfl rfl fun w O hS => ?_
    exact ⟨(), congrArg Value.bool (by first | (simp [g1]; done) | (simp [g1]; intros; omega)), trivial, trivial⟩
set_option maxRecDepth 100000 in
theorem tWatch_con (q : Rq9) (d f l : Value) (hn : q.2.2.2.1.size ≤ 1000000) : Con Tryz.prog 101 [.agg #[.int .i64 q.1, .int .i64 q.2.1, .int .i64 q.2.2.1, .string q.2.2.2.1, .string q.2.2.2.2.1, d, f, l]] [Sl (eInt .i64) d q.2.2.2.2.2.1, Sl eStr f q.2.2.2.2.2.2.1, Sl ePr l q.2.2.2.2.2.2.2] (γ := Unit) (fun _ => .bool (decide (q.2.2.2.1 = ⟨#[]⟩) || namedP q.2.2.2.1)) (fun _ => True) (fun _ => []) := by
  have hN := named_con q.2.2.2.1 hn
  refine con_of Tryz.func101 rfl (dd rfl) fun w0 O0 => ?_
  refine c_seq (c_region ?_)
  refine o_step (s_box rfl (dd rfl) (fun b1 => ?_))
  refine oV vA ?_
  refine o_nil (c_seq (c_region ?_))
  refine oV (vF 3 Tryz.underlying32 ti9) ?_
  refine oV (vL lone9) ?_
  refine oV (v_seq rfl rfl) ?_
  refine oV vM ?_
  refine o_guard_f rfl rfl (fun g1 => ?_) (fun g1 => ?_)
  · skip
    refine oV (vF 3 Tryz.underlying32 ti9) ?_
    refine oN ?_
    refine oV (vL lone9) ?_
    refine oN ?_
    refine oC cl86 (hN) fun _ _ => ?_
    refine oV vQ ?_
    refine oV vA ?_
    refine o_nil ?_
    refine c_ret1 Tryz.func101 rfl rfl fun w O hS => ?_
    exact ⟨(), congrArg Value.bool (by simp [g1]), trivial, trivial⟩
  · skip
    iterate 3 refine oX ?_
    refine oV vT ?_
    refine oV vA ?_
    refine o_nil ?_
    refine c_ret1 Tryz.func101 rfl rfl fun w O hS => ?_
    exact ⟨(), congrArg Value.bool (by simp [g1]), trivial, trivial⟩
set_option maxRecDepth 100000 in
theorem tAmend_con (q : Rq9) (d f l : Value) (hf : q.2.2.2.2.2.2.1.length ≤ 1000000) (hs : ∀ s ∈ q.2.2.2.2.2.2.1, s.size ≤ 1000000) : Con Tryz.prog 96 [.agg #[.int .i64 q.1, .int .i64 q.2.1, .int .i64 q.2.2.1, .string q.2.2.2.1, .string q.2.2.2.2.1, d, f, l]] [Sl (eInt .i64) d q.2.2.2.2.2.1, Sl eStr f q.2.2.2.2.2.2.1, Sl ePr l q.2.2.2.2.2.2.2] (γ := Unit) (fun _ => .bool (decide (1 ≤ q.2.2.1 ∧ q.2.2.1 ≤ 1000000000) && (decide (q.2.2.2.2.2.2.1.length ≤ 8) && filesP ⟨#[]⟩ q.2.2.2.2.2.2.1))) (fun _ => True) (fun _ => []) := by
  have hF := files_con (.int .i64 q.1) (.int .i64 q.2.1) (.int .i64 q.2.2.1) (.string q.2.2.2.1) (.string q.2.2.2.2.1) d f l q.2.2.2.2.2.2.1 hf hs
  have hI := id_con (.int .i64 q.1) (.int .i64 q.2.1) (.string q.2.2.2.1) (.string q.2.2.2.2.1) d f l q.2.2.1
  refine con_of Tryz.func96 rfl (dd rfl) fun w0 O0 => ?_
  refine c_seq (c_region ?_)
  refine o_step (s_box rfl (dd rfl) (fun b1 => ?_))
  refine oV vA ?_
  refine o_nil (c_seq (c_region ?_))
  refine oV (vW Tryz.underlying32 ti32) ?_
  refine o_step (s_callf_keep cl91 (hI) rfl (dd rfl) (rX (by repeat constructor)) (fun _ => sX) (fun _ _ => ?_))
  refine oV vM ?_
  refine o_guard_t rfl rfl (fun g1 => ?_) (fun g1 => ?_)
  · skip
    refine oV (vW Tryz.underlying32 ti32) ?_
    refine oN ?_
    refine o_step (s_callf_keep cl94 (hF) rfl (dd rfl) (rX (by repeat constructor)) (fun _ => sX) (fun _ _ => ?_))
    refine oV vT ?_
    refine oV vA ?_
    refine o_nil ?_
    refine c_ret1 Tryz.func96 rfl rfl fun w O hS => ?_
    exact ⟨(), congrArg Value.bool (by simp [g1]), trivial, trivial⟩
  · skip
    iterate 2 refine oX ?_
    refine oV vQ ?_
    refine oV vA ?_
    refine o_nil ?_
    refine c_ret1 Tryz.func96 rfl rfl fun w O hS => ?_
    exact ⟨(), congrArg Value.bool (by first | (simp [g1]; done) | (simp [g1]; intros; omega)), trivial, trivial⟩
set_option maxRecDepth 100000 in
theorem tShelve_con (q : Rq9) (d f l : Value) (hn : q.2.2.2.1.size ≤ 1000000) (hf : q.2.2.2.2.2.2.1.length ≤ 1000000) (hs : ∀ s ∈ q.2.2.2.2.2.2.1, s.size ≤ 1000000) : Con Tryz.prog 99 [.agg #[.int .i64 q.1, .int .i64 q.2.1, .int .i64 q.2.2.1, .string q.2.2.2.1, .string q.2.2.2.2.1, d, f, l]] [Sl (eInt .i64) d q.2.2.2.2.2.1, Sl eStr f q.2.2.2.2.2.2.1, Sl ePr l q.2.2.2.2.2.2.2] (γ := Unit) (fun _ => .bool (namedP q.2.2.2.1 && (decide (q.2.2.2.2.2.2.1.length ≤ 8) && filesP ⟨#[]⟩ q.2.2.2.2.2.2.1))) (fun _ => True) (fun _ => []) := by
  have hF := files_con (.int .i64 q.1) (.int .i64 q.2.1) (.int .i64 q.2.2.1) (.string q.2.2.2.1) (.string q.2.2.2.2.1) d f l q.2.2.2.2.2.2.1 hf hs
  have hN := named_con q.2.2.2.1 hn
  refine con_of Tryz.func99 rfl (dd rfl) fun w0 O0 => ?_
  refine c_seq (c_region ?_)
  refine o_step (s_box rfl (dd rfl) (fun b1 => ?_))
  refine oV vA ?_
  refine o_nil (c_seq (c_region ?_))
  refine oV (vF 3 Tryz.underlying32 ti9) ?_
  refine oV (vL lone9) ?_
  refine o_step (s_callf_keep cl86 (hN) rfl (dd rfl) (rX (by repeat constructor)) (fun _ => sX) (fun _ _ => ?_))
  refine oV vM ?_
  refine o_guard rfl rfl (fun g1 => ?_) (fun g1 => ?_)
  · skip
    refine oV (vW Tryz.underlying32 ti32) ?_
    refine oN ?_
    refine o_step (s_callf_keep cl94 (hF) rfl (dd rfl) (rX (by repeat constructor)) (fun _ => sX) (fun _ _ => ?_))
    refine oV vT ?_
    refine oV vA ?_
    refine o_nil ?_
    refine c_ret1 Tryz.func99 rfl rfl fun w O hS => ?_
    exact ⟨(), congrArg Value.bool (by simp [g1]), trivial, trivial⟩
  · skip
    iterate 2 refine oX ?_
    refine oV vQ ?_
    refine oV vA ?_
    refine o_nil ?_
    refine c_ret1 Tryz.func99 rfl rfl fun w O hS => ?_
    exact ⟨(), congrArg Value.bool (by first | (simp [g1]; done) | (simp [g1]; intros; omega)), trivial, trivial⟩
set_option maxRecDepth 100000 in
theorem tRecord_con (q : Rq9) (d f l : Value) (hd : q.2.2.2.2.2.1.length ≤ 1000000) (hf : q.2.2.2.2.2.2.1.length ≤ 1000000) (hs : ∀ s ∈ q.2.2.2.2.2.2.1, s.size ≤ 1000000) : Con Tryz.prog 90 [.agg #[.int .i64 q.1, .int .i64 q.2.1, .int .i64 q.2.2.1, .string q.2.2.2.1, .string q.2.2.2.2.1, d, f, l]] [Sl (eInt .i64) d q.2.2.2.2.2.1, Sl eStr f q.2.2.2.2.2.2.1, Sl ePr l q.2.2.2.2.2.2.2] (γ := Unit) (fun _ => .bool (decide (1 ≤ q.2.2.1 ∧ q.2.2.1 ≤ 1000000000) && lineP q.2.2.2.2.1 && (decide (q.2.2.2.2.2.1.length ≤ 8) && depsP q.2.2.1 0 q.2.2.2.2.2.1) && (decide (q.2.2.2.2.2.2.1.length ≤ 8) && filesP ⟨#[]⟩ q.2.2.2.2.2.2.1))) (fun _ => True) (fun _ => []) := by
  have hF := files_con (.int .i64 q.1) (.int .i64 q.2.1) (.int .i64 q.2.2.1) (.string q.2.2.2.1) (.string q.2.2.2.2.1) d f l q.2.2.2.2.2.2.1 hf hs
  have hI := id_con (.int .i64 q.1) (.int .i64 q.2.1) (.string q.2.2.2.1) (.string q.2.2.2.2.1) d f l q.2.2.1
  have hD := deps_con (.int .i64 q.1) (.int .i64 q.2.1) (.string q.2.2.2.1) (.string q.2.2.2.2.1) d f l q.2.2.1 q.2.2.2.2.2.1 hd
  have hN := right_con q.2.2.2.2.1
  rw [right_line] at hN
  refine con_of Tryz.func90 rfl (dd rfl) fun w0 O0 => ?_
  refine c_seq (c_region ?_)
  refine o_step (s_box rfl (dd rfl) (fun b1 => ?_))
  refine oV vA ?_
  refine o_nil (c_seq (c_region ?_))
  refine oV (vW Tryz.underlying32 ti32) ?_
  refine o_step (s_callf_keep cl91 (hI) rfl (dd rfl) (rX (by repeat constructor)) (fun _ => sX) (fun _ _ => ?_))
  refine oV vM ?_
  refine o_guard_t rfl rfl (fun g1 => ?_) (fun g1 => ?_)
  · skip
    refine oV (vF 4 Tryz.underlying32 ti9) ?_
    refine oN ?_
    refine oV (vL lone9) ?_
    refine oN ?_
    refine o_step (s_callf_keep cl92 (hN) rfl (dd rfl) (rX (by repeat constructor)) (fun _ => sX) (fun _ _ => ?_))
    refine oV vT ?_
    refine oV vM ?_
    refine o_guard rfl rfl (fun g2 => ?_) (fun g2 => ?_)
    · skip
      refine oV (vW Tryz.underlying32 ti32) ?_
      refine oN ?_
      refine o_step (s_callf_keep cl93 (hD) rfl (dd rfl) (rX (by repeat constructor)) (fun _ => sX) (fun _ _ => ?_))
      refine oV vT ?_
      refine oV vM ?_
      refine o_guard rfl rfl (fun g3 => ?_) (fun g3 => ?_)
      · skip
        refine oV (vW Tryz.underlying32 ti32) ?_
        refine oN ?_
        refine o_step (s_callf_keep cl94 (hF) rfl (dd rfl) (rX (by repeat constructor)) (fun _ => sX) (fun _ _ => ?_))
        refine oV vT ?_
        refine oV vA ?_
        refine o_nil ?_
        refine c_ret1 Tryz.func90 rfl rfl fun w O hS => ?_
        exact ⟨(), congrArg Value.bool (by rw [g2, g3]; simp [g1]), trivial, trivial⟩
      · skip
        iterate 2 refine oX ?_
        refine oV vQ ?_
        refine oV vA ?_
        refine o_nil ?_
        refine c_ret1 Tryz.func90 rfl rfl fun w O hS => ?_
        exact ⟨(), congrArg Value.bool (by first | (simp [g3]; done) | (simp [g3]; intros; omega)), trivial, trivial⟩
    · skip
      iterate 2 refine oX ?_
      refine oV vQ ?_
      refine oV vM ?_
      iterate 2 refine oX ?_
      refine oV vQ ?_
      refine oV vA ?_
      refine o_nil ?_
      refine c_ret1 Tryz.func90 rfl rfl fun w O hS => ?_
      exact ⟨(), congrArg Value.bool (by first | (simp [g2]; done) | (simp [g2]; intros; omega)), trivial, trivial⟩
  · skip
    iterate 3 refine oX ?_
    refine oV vQ ?_
    refine oV vM ?_
    iterate 2 refine oX ?_
    refine oV vQ ?_
    refine oV vM ?_
    iterate 2 refine oX ?_
    refine oV vQ ?_
    refine oV vA ?_
    refine o_nil ?_
    refine c_ret1 Tryz.func90 rfl rfl fun w O hS => ?_
    exact ⟨(), congrArg Value.bool (by first | (simp [g1]; done) | (simp [g1]; intros; omega)), trivial, trivial⟩
set_option maxRecDepth 100000 in
theorem tChange_con (q : Rq9) (d f l : Value) (hl : q.2.2.2.2.2.2.2.length ≤ 1000000 ∧ ∀ p ∈ q.2.2.2.2.2.2.2, SizeP p) : Con Tryz.prog 87 [.agg #[.int .i64 q.1, .int .i64 q.2.1, .int .i64 q.2.2.1, .string q.2.2.2.1, .string q.2.2.2.2.1, d, f, l]] [Sl (eInt .i64) d q.2.2.2.2.2.1, Sl eStr f q.2.2.2.2.2.2.1, Sl ePr l q.2.2.2.2.2.2.2] (γ := Unit) (fun _ => .bool (decide (0 ≤ q.2.1) && decide (q.2.1 ≤ 1099511627776) && decide (1 ≤ q.2.2.2.2.2.2.2.length) && decide (q.2.2.2.2.2.2.2.length ≤ 24) && q.2.2.2.2.2.2.2.all rightP)) (fun _ => True) (fun _ => []) := by
  have hR := rights_con l q.2.2.2.2.2.2.2 hl
  refine con_of Tryz.func87 rfl (dd rfl) fun w0 O0 => ?_
  refine c_seq (c_region ?_)
  refine o_step (s_box rfl (dd rfl) (fun b1 => ?_))
  refine oV vA ?_
  refine o_nil (c_seq (c_region ?_))
  refine oV (vF 1 Tryz.underlying32 ti3) ?_
  refine oV (vL lone3) ?_
  refine oV (v_ge rfl rfl) ?_
  refine oV vM ?_
  refine o_guard_t rfl rfl (fun g1 => ?_) (fun g1 => ?_)
  · skip
    refine oV (vF 1 Tryz.underlying32 ti3) ?_
    refine oN ?_
    refine oV (vL lone3) ?_
    refine oN ?_
    refine oV (v_le rfl rfl) ?_
    refine oV vT ?_
    refine oV vM ?_
    refine o_guard_t rfl rfl (fun g2 => ?_) (fun g2 => ?_)
    · skip
      refine oV (vF 7 Tryz.underlying32 ti30) ?_
      refine oN ?_
      refine oV (vL lone30) ?_
      refine oN ?_
      refine oV ((by first | exact v_len_form Tryz.underlying30 rfl | exact v_len_sl Tryz.underlying30 rfl (hX (by repeat constructor)))) ?_
      refine oN ?_
      refine oV (v_ge rfl rfl) ?_
      refine oV vT ?_
      refine oV vM ?_
      refine o_guard_t rfl rfl (fun g3 => ?_) (fun g3 => ?_)
      · skip
        refine oV (vF 7 Tryz.underlying32 ti30) ?_
        refine oN ?_
        refine oV (vL lone30) ?_
        refine oN ?_
        refine oV ((by first | exact v_len_form Tryz.underlying30 rfl | exact v_len_sl Tryz.underlying30 rfl (hX (by repeat constructor)))) ?_
        refine oN ?_
        refine oV (v_le rfl rfl) ?_
        refine oV vT ?_
        refine oV vM ?_
        refine o_guard_t rfl rfl (fun g4 => ?_) (fun g4 => ?_)
        · skip
          refine oV (vF 7 Tryz.underlying32 ti30) ?_
          refine oN ?_
          refine oV (vL lone30) ?_
          refine oN ?_
          refine o_step (s_callf_keep cl88 (hR) rfl (dd rfl) (rX (by repeat constructor)) (fun _ => sX) (fun _ _ => ?_))
          refine oV vT ?_
          refine oV vA ?_
          refine o_nil ?_
          refine c_ret1 Tryz.func87 rfl rfl fun w O hS => ?_
          exact ⟨(), congrArg Value.bool (by rw [decide_eq_true g1, decide_eq_true g2, decide_eq_true (p := 1 ≤ q.2.2.2.2.2.2.2.length) (by omega), decide_eq_true (p := q.2.2.2.2.2.2.2.length ≤ 24) (by omega)]; rfl), trivial, trivial⟩
        · skip
          iterate 3 refine oX ?_
          refine oV vQ ?_
          refine oV vA ?_
          refine o_nil ?_
          refine c_ret1 Tryz.func87 rfl rfl fun w O hS => ?_
          exact ⟨(), congrArg Value.bool (by first | (simp [g4]; done) | (simp [g4]; intros; omega)), trivial, trivial⟩
      · skip
        iterate 4 refine oX ?_
        refine oV vQ ?_
        refine oV vM ?_
        iterate 3 refine oX ?_
        refine oV vQ ?_
        refine oV vA ?_
        refine o_nil ?_
        refine c_ret1 Tryz.func87 rfl rfl fun w O hS => ?_
        exact ⟨(), congrArg Value.bool (by first | (simp [g3]; done) | (simp [g3]; intros; omega)), trivial, trivial⟩
    · skip
      iterate 4 refine oX ?_
      refine oV vQ ?_
      refine oV vM ?_
      iterate 4 refine oX ?_
      refine oV vQ ?_
      refine oV vM ?_
      iterate 3 refine oX ?_
      refine oV vQ ?_
      refine oV vA ?_
      refine o_nil ?_
      refine c_ret1 Tryz.func87 rfl rfl fun w O hS => ?_
      exact ⟨(), congrArg Value.bool (by first | (simp [g2]; done) | (simp [g2]; intros; omega)), trivial, trivial⟩
  · skip
    iterate 3 refine oX ?_
    refine oV vQ ?_
    refine oV vM ?_
    iterate 4 refine oX ?_
    refine oV vQ ?_
    refine oV vM ?_
    iterate 4 refine oX ?_
    refine oV vQ ?_
    refine oV vM ?_
    iterate 3 refine oX ?_
    refine oV vQ ?_
    refine oV vA ?_
    refine o_nil ?_
    refine c_ret1 Tryz.func87 rfl rfl fun w O hS => ?_
    exact ⟨(), congrArg Value.bool (by first | (simp [g1]; done) | (simp [g1]; intros; omega)), trivial, trivial⟩
end Go.Proofs.YtlfehnnmpkohkaaGreatDoor
/- Chapter 16: which requests may be. -/
namespace Go.Proofs.YtlfehnnmpkohkaaGreatDoor
open Go Go.SL Go.Lib
abbrev fnV (n : Nat) : Value := .func (.func n) #[] #[]
abbrev fnC (n b : Nat) : Value := .func (.func n) #[] #[ptr1 b]
def kindsM (b1 b2 : Nat) : List (Int × Value) := upd (upd (upd (upd (upd (upd (upd (upd (upd (upd (upd (upd (upd ([]) 0 (.agg #[fnV 87, fnV 89])) 1 (.agg #[fnV 90, fnC 95 b2])) 2 (.agg #[fnV 96, fnV 82])) 3 (.agg #[fnV 91, fnV 97])) 4 (.agg #[fnV 94, fnV 98])) 5 (.agg #[fnV 99, fnC 100 b1])) 6 (.agg #[fnV 85, fnV 81])) 9 (.agg #[fnV 85, fnV 81])) 7 (.agg #[fnV 83, fnV 84])) 8 (.agg #[fnV 83, fnV 84])) 11 (.agg #[fnV 83, fnV 84])) 10 (.agg #[fnV 101, fnV 81])) 12 (.agg #[fnV 102, fnV 103])
theorem look0 (b1 b2 : Nat) : Go.SL.look (kindsM b1 b2) (0 : Int) = some (.agg #[fnV 87, fnV 89]) := by unfold kindsM; simp only [Go.SL.look_upd]; simp
theorem look1 (b1 b2 : Nat) : Go.SL.look (kindsM b1 b2) (1 : Int) = some (.agg #[fnV 90, fnC 95 b2]) := by unfold kindsM; simp only [Go.SL.look_upd]; simp
theorem look2 (b1 b2 : Nat) : Go.SL.look (kindsM b1 b2) (2 : Int) = some (.agg #[fnV 96, fnV 82]) := by unfold kindsM; simp only [Go.SL.look_upd]; simp
theorem look3 (b1 b2 : Nat) : Go.SL.look (kindsM b1 b2) (3 : Int) = some (.agg #[fnV 91, fnV 97]) := by unfold kindsM; simp only [Go.SL.look_upd]; simp
theorem look4 (b1 b2 : Nat) : Go.SL.look (kindsM b1 b2) (4 : Int) = some (.agg #[fnV 94, fnV 98]) := by unfold kindsM; simp only [Go.SL.look_upd]; simp
theorem look5 (b1 b2 : Nat) : Go.SL.look (kindsM b1 b2) (5 : Int) = some (.agg #[fnV 99, fnC 100 b1]) := by unfold kindsM; simp only [Go.SL.look_upd]; simp
theorem look6 (b1 b2 : Nat) : Go.SL.look (kindsM b1 b2) (6 : Int) = some (.agg #[fnV 85, fnV 81]) := by unfold kindsM; simp only [Go.SL.look_upd]; simp
theorem look7 (b1 b2 : Nat) : Go.SL.look (kindsM b1 b2) (7 : Int) = some (.agg #[fnV 83, fnV 84]) := by unfold kindsM; simp only [Go.SL.look_upd]; simp
theorem look8 (b1 b2 : Nat) : Go.SL.look (kindsM b1 b2) (8 : Int) = some (.agg #[fnV 83, fnV 84]) := by unfold kindsM; simp only [Go.SL.look_upd]; simp
theorem look9 (b1 b2 : Nat) : Go.SL.look (kindsM b1 b2) (9 : Int) = some (.agg #[fnV 85, fnV 81]) := by unfold kindsM; simp only [Go.SL.look_upd]; simp
theorem look10 (b1 b2 : Nat) : Go.SL.look (kindsM b1 b2) (10 : Int) = some (.agg #[fnV 101, fnV 81]) := by unfold kindsM; simp only [Go.SL.look_upd]; simp
theorem look11 (b1 b2 : Nat) : Go.SL.look (kindsM b1 b2) (11 : Int) = some (.agg #[fnV 83, fnV 84]) := by unfold kindsM; simp only [Go.SL.look_upd]; simp
theorem look12 (b1 b2 : Nat) : Go.SL.look (kindsM b1 b2) (12 : Int) = some (.agg #[fnV 102, fnV 103]) := by unfold kindsM; simp only [Go.SL.look_upd]; simp
theorem lookN (b1 b2 : Nat) {k : Int} (h : k < 0 ∨ 12 < k) : Go.SL.look (kindsM b1 b2) k = none := by unfold kindsM; simp only [Go.SL.look_upd, Go.SL.look_nil]; repeat rw [if_neg (by omega)]
attribute [local irreducible] Cfg Kont StepK Val Con Qops Any Sl Own Blk BlkR Rd Pu ExA AllA Has Pick Ent Elem Beside Callable TI Lone OwnO AndA
set_option maxRecDepth 100000 in
theorem kinds_con : Con Tryz.prog 39 [] [] (γ := Nat × Nat × Nat) (fun g => .map (some g.1)) (fun _ => True) (fun g => [MapA kInt g.1 (kindsM g.2.1 g.2.2), Blk g.2.1 75 [fnV 81], Blk g.2.2 75 [fnV 82]]) := by
  refine con_of Tryz.func39 rfl (dd rfl) fun w0 O0 => ?_
  refine c_seq (c_region ?_)
  refine oV vA ?_
  refine o_nil (c_seq (c_region ?_))
  refine o_step (s_alloc ti75 (dd rfl) (fun b1 => ?_))
  refine o_step (s_store1 ti75 rfl rfl (by first | exact OneC.lit rfl | exact OneC.sl (hX (by repeat constructor)) ) (pB (by repeat constructor)) (by first | decide | exact Nat.le_of_ble_eq_true rfl | simp) (by first | (dsimp only [List.set_cons_succ, List.set_cons_zero]; first | done | exact rfl) | rfl) (?_))
  refine o_nil (c_seq (c_region ?_))
  refine o_step (s_alloc ti75 (dd rfl) (fun b2 => ?_))
  refine o_step (s_store1 ti75 rfl rfl (by first | exact OneC.lit rfl | exact OneC.sl (hX (by repeat constructor)) ) (pB (by repeat constructor)) (by first | decide | exact Nat.le_of_ble_eq_true rfl | simp) (by first | (dsimp only [List.set_cons_succ, List.set_cons_zero]; first | done | exact rfl) | rfl) (?_))
  refine o_nil (c_seq (c_region ?_))
  refine oV (v_buildS (places := [(0, 1), (1, 1)]) (cells := [_, _]) Tryz.underlying77 ti77 (by kernel_rfl) rfl (by repeat (first | exact PartsC.nil | (apply PartsC.one (by first | exact OneC.lit rfl | exact OneC.sl (hX (by repeat constructor)) )) | (apply PartsC.lit rfl))) rfl) ?_
  refine o_step (s_alloc ti77 (dd rfl) (fun b3 => ?_))
  refine o_step (s_store_all ti77 rfl rfl (by first | exact CellsV.lit rfl | exact CellsV.one (by first | exact OneC.lit rfl | exact OneC.sl (hX (by repeat constructor)) )) (by repeat (first | exact OneAll.nil | (refine OneAll.cons ?_ ?_; · first | exact OneC.lit rfl | exact OneC.sl (hX (by repeat constructor)) ) | exact OneAll.rd (hX (by repeat constructor)))) rfl (pB (by repeat constructor)) rfl (?_))
  refine o_nil (c_seq (c_region ?_))
  refine oV (vL lone75) ?_
  refine oV (v_buildS (places := [(0, 1), (1, 1)]) (cells := [_, _]) Tryz.underlying77 ti77 (by kernel_rfl) rfl (by repeat (first | exact PartsC.nil | (apply PartsC.one (by first | exact OneC.lit rfl | exact OneC.sl (hX (by repeat constructor)) )) | (apply PartsC.lit rfl))) rfl) ?_
  refine o_step (s_alloc ti77 (dd rfl) (fun b4 => ?_))
  refine o_step (s_store_all ti77 rfl rfl (by first | exact CellsV.lit rfl | exact CellsV.one (by first | exact OneC.lit rfl | exact OneC.sl (hX (by repeat constructor)) )) (by repeat (first | exact OneAll.nil | (refine OneAll.cons ?_ ?_; · first | exact OneC.lit rfl | exact OneC.sl (hX (by repeat constructor)) ) | exact OneAll.rd (hX (by repeat constructor)))) rfl (pB (by repeat constructor)) rfl (?_))
  refine o_nil (c_seq (c_region ?_))
  refine o_step (s_makeMap (ke := kInt) (dd rfl) (fun b8 => ?_))
  refine oV (v_buildS (places := [(0, 1), (1, 1)]) (cells := [_, _]) Tryz.underlying77 ti77 (by kernel_rfl) rfl (by repeat (first | exact PartsC.nil | (apply PartsC.one (by first | exact OneC.lit rfl | exact OneC.sl (hX (by repeat constructor)) )) | (apply PartsC.lit rfl))) rfl) ?_
  refine o_step (s_insert kInt Tryz.underlying79 Tryz.underlying3 kInt_sc rfl rfl rfl (pX (by repeat constructor)) (?_))
  refine oV (v_makeFunc rfl rfl) ?_
  refine oV (v_buildS (places := [(0, 1), (1, 1)]) (cells := [_, _]) Tryz.underlying77 ti77 (by kernel_rfl) rfl (by repeat (first | exact PartsC.nil | (apply PartsC.one (by first | exact OneC.lit rfl | exact OneC.sl (hX (by repeat constructor)) )) | (apply PartsC.lit rfl))) rfl) ?_
  refine o_step (s_insert kInt Tryz.underlying79 Tryz.underlying3 kInt_sc rfl rfl rfl (pX (by repeat constructor)) (?_))
  refine oV (vL lone75) ?_
  refine oV (v_buildS (places := [(0, 1), (1, 1)]) (cells := [_, _]) Tryz.underlying77 ti77 (by kernel_rfl) rfl (by repeat (first | exact PartsC.nil | (apply PartsC.one (by first | exact OneC.lit rfl | exact OneC.sl (hX (by repeat constructor)) )) | (apply PartsC.lit rfl))) rfl) ?_
  refine o_step (s_insert kInt Tryz.underlying79 Tryz.underlying3 kInt_sc rfl rfl rfl (pX (by repeat constructor)) (?_))
  refine oV (v_buildS (places := [(0, 1), (1, 1)]) (cells := [_, _]) Tryz.underlying77 ti77 (by kernel_rfl) rfl (by repeat (first | exact PartsC.nil | (apply PartsC.one (by first | exact OneC.lit rfl | exact OneC.sl (hX (by repeat constructor)) )) | (apply PartsC.lit rfl))) rfl) ?_
  refine o_step (s_insert kInt Tryz.underlying79 Tryz.underlying3 kInt_sc rfl rfl rfl (pX (by repeat constructor)) (?_))
  refine oV (v_buildS (places := [(0, 1), (1, 1)]) (cells := [_, _]) Tryz.underlying77 ti77 (by kernel_rfl) rfl (by repeat (first | exact PartsC.nil | (apply PartsC.one (by first | exact OneC.lit rfl | exact OneC.sl (hX (by repeat constructor)) )) | (apply PartsC.lit rfl))) rfl) ?_
  refine o_step (s_insert kInt Tryz.underlying79 Tryz.underlying3 kInt_sc rfl rfl rfl (pX (by repeat constructor)) (?_))
  refine oV (v_makeFunc rfl rfl) ?_
  refine oV (v_buildS (places := [(0, 1), (1, 1)]) (cells := [_, _]) Tryz.underlying77 ti77 (by kernel_rfl) rfl (by repeat (first | exact PartsC.nil | (apply PartsC.one (by first | exact OneC.lit rfl | exact OneC.sl (hX (by repeat constructor)) )) | (apply PartsC.lit rfl))) rfl) ?_
  refine o_step (s_insert kInt Tryz.underlying79 Tryz.underlying3 kInt_sc rfl rfl rfl (pX (by repeat constructor)) (?_))
  refine oV (vW Tryz.underlying77 ti77) ?_
  refine o_step (s_insert kInt Tryz.underlying79 Tryz.underlying3 kInt_sc rfl rfl rfl (pX (by repeat constructor)) (?_))
  refine oV (vW Tryz.underlying77 ti77) ?_
  refine o_step (s_insert kInt Tryz.underlying79 Tryz.underlying3 kInt_sc rfl rfl rfl (pX (by repeat constructor)) (?_))
  refine oV (vW Tryz.underlying77 ti77) ?_
  refine o_step (s_insert kInt Tryz.underlying79 Tryz.underlying3 kInt_sc rfl rfl rfl (pX (by repeat constructor)) (?_))
  refine oV (vW Tryz.underlying77 ti77) ?_
  refine o_step (s_insert kInt Tryz.underlying79 Tryz.underlying3 kInt_sc rfl rfl rfl (pX (by repeat constructor)) (?_))
  refine oV (vW Tryz.underlying77 ti77) ?_
  refine o_step (s_insert kInt Tryz.underlying79 Tryz.underlying3 kInt_sc rfl rfl rfl (pX (by repeat constructor)) (?_))
  refine oV (vL lone75) ?_
  refine oV (v_buildS (places := [(0, 1), (1, 1)]) (cells := [_, _]) Tryz.underlying77 ti77 (by kernel_rfl) rfl (by repeat (first | exact PartsC.nil | (apply PartsC.one (by first | exact OneC.lit rfl | exact OneC.sl (hX (by repeat constructor)) )) | (apply PartsC.lit rfl))) rfl) ?_
  refine o_step (s_insert kInt Tryz.underlying79 Tryz.underlying3 kInt_sc rfl rfl rfl (pX (by repeat constructor)) (?_))
  refine oV (v_buildS (places := [(0, 1), (1, 1)]) (cells := [_, _]) Tryz.underlying77 ti77 (by kernel_rfl) rfl (by repeat (first | exact PartsC.nil | (apply PartsC.one (by first | exact OneC.lit rfl | exact OneC.sl (hX (by repeat constructor)) )) | (apply PartsC.lit rfl))) rfl) ?_
  refine o_step (s_insert kInt Tryz.underlying79 Tryz.underlying3 kInt_sc rfl rfl rfl (pX (by repeat constructor)) (?_))
  refine oV vM ?_
  refine oV vA ?_
  refine o_nil ?_
  refine c_ret1 Tryz.func39 rfl rfl fun w O hS => ?_
  exact ⟨(b8, b1, b2), rfl, trivial, Ent.get hS (eX (by repeat constructor))⟩
end Go.Proofs.YtlfehnnmpkohkaaGreatDoor
/- Chapter 16: what a request that may be needs, kind by kind. -/
namespace Go.Proofs.YtlfehnnmpkohkaaGreatDoor
open Go Go.Lib
abbrev zeroQ (k : Int) : Rq9 := (k, 0, 0, ⟨#[]⟩, ⟨#[]⟩, [], [], [])
theorem right_iff0 {q : Rq9} (hk : q.1 = 0) : RightQ q ↔ (decide (0 ≤ q.2.1) && decide (q.2.1 ≤ 1099511627776) && decide (1 ≤ q.2.2.2.2.2.2.2.length) && decide (q.2.2.2.2.2.2.2.length ≤ 24) && q.2.2.2.2.2.2.2.all rightP) = true ∧ ((q.1, 0, q.2.2.1, q.2.2.2.1, q.2.2.2.2.1, q.2.2.2.2.2.1, q.2.2.2.2.2.2.1, []) : Rq9) = zeroQ q.1 := by
  obtain ⟨k, b, i, n, t, d, f, l⟩ := q
  dsimp only at hk ⊢
  subst hk
  unfold RightQ zeroQ
  simp [Prod.mk.injEq, far9]
  try grind
theorem right_iff1 {q : Rq9} (hk : q.1 = 1) : RightQ q ↔ (decide (1 ≤ q.2.2.1 ∧ q.2.2.1 ≤ 1000000000) && lineP q.2.2.2.2.1 && (decide (q.2.2.2.2.2.1.length ≤ 8) && depsP q.2.2.1 0 q.2.2.2.2.2.1) && (decide (q.2.2.2.2.2.2.1.length ≤ 8) && filesP ⟨#[]⟩ q.2.2.2.2.2.2.1)) = true ∧ ((q.1, q.2.1, 0, q.2.2.2.1, ⟨#[]⟩, [], [], q.2.2.2.2.2.2.2) : Rq9) = zeroQ q.1 := by
  obtain ⟨k, b, i, n, t, d, f, l⟩ := q
  dsimp only at hk ⊢
  subst hk
  unfold RightQ zeroQ
  simp [Prod.mk.injEq, far9]
  try grind
theorem right_iff2 {q : Rq9} (hk : q.1 = 2) : RightQ q ↔ (decide (1 ≤ q.2.2.1 ∧ q.2.2.1 ≤ 1000000000) && (decide (q.2.2.2.2.2.2.1.length ≤ 8) && filesP ⟨#[]⟩ q.2.2.2.2.2.2.1)) = true ∧ ((q.1, q.2.1, 0, q.2.2.2.1, q.2.2.2.2.1, q.2.2.2.2.2.1, [], q.2.2.2.2.2.2.2) : Rq9) = zeroQ q.1 := by
  obtain ⟨k, b, i, n, t, d, f, l⟩ := q
  dsimp only at hk ⊢
  subst hk
  unfold RightQ zeroQ
  simp [Prod.mk.injEq, far9]
  try grind
theorem right_iff3 {q : Rq9} (hk : q.1 = 3) : RightQ q ↔ (decide (1 ≤ q.2.2.1 ∧ q.2.2.1 ≤ 1000000000)) = true ∧ ((q.1, q.2.1, 0, q.2.2.2.1, q.2.2.2.2.1, q.2.2.2.2.2.1, q.2.2.2.2.2.2.1, q.2.2.2.2.2.2.2) : Rq9) = zeroQ q.1 := by
  obtain ⟨k, b, i, n, t, d, f, l⟩ := q
  dsimp only at hk ⊢
  subst hk
  unfold RightQ zeroQ
  simp [Prod.mk.injEq, far9]
  try grind
theorem right_iff4 {q : Rq9} (hk : q.1 = 4) : RightQ q ↔ (decide (q.2.2.2.2.2.2.1.length ≤ 8) && filesP ⟨#[]⟩ q.2.2.2.2.2.2.1) = true ∧ ((q.1, q.2.1, q.2.2.1, q.2.2.2.1, q.2.2.2.2.1, q.2.2.2.2.2.1, [], q.2.2.2.2.2.2.2) : Rq9) = zeroQ q.1 := by
  obtain ⟨k, b, i, n, t, d, f, l⟩ := q
  dsimp only at hk ⊢
  subst hk
  unfold RightQ zeroQ
  simp [Prod.mk.injEq, far9]
  try grind
theorem right_iff5 {q : Rq9} (hk : q.1 = 5) : RightQ q ↔ (namedP q.2.2.2.1 && (decide (q.2.2.2.2.2.2.1.length ≤ 8) && filesP ⟨#[]⟩ q.2.2.2.2.2.2.1)) = true ∧ ((q.1, q.2.1, q.2.2.1, ⟨#[]⟩, q.2.2.2.2.1, q.2.2.2.2.2.1, [], q.2.2.2.2.2.2.2) : Rq9) = zeroQ q.1 := by
  obtain ⟨k, b, i, n, t, d, f, l⟩ := q
  dsimp only at hk ⊢
  subst hk
  unfold RightQ zeroQ
  simp [Prod.mk.injEq, far9]
  try grind
theorem right_iff6 {q : Rq9} (hk : q.1 = 6) : RightQ q ↔ (namedP q.2.2.2.1) = true ∧ ((q.1, q.2.1, q.2.2.1, ⟨#[]⟩, q.2.2.2.2.1, q.2.2.2.2.2.1, q.2.2.2.2.2.2.1, q.2.2.2.2.2.2.2) : Rq9) = zeroQ q.1 := by
  obtain ⟨k, b, i, n, t, d, f, l⟩ := q
  dsimp only at hk ⊢
  subst hk
  unfold RightQ zeroQ
  simp [Prod.mk.injEq, far9]
  try grind
theorem right_iff7 {q : Rq9} (hk : q.1 = 7) : RightQ q ↔ (true) = true ∧ ((q.1, q.2.1, q.2.2.1, q.2.2.2.1, q.2.2.2.2.1, q.2.2.2.2.2.1, q.2.2.2.2.2.2.1, q.2.2.2.2.2.2.2) : Rq9) = zeroQ q.1 := by
  obtain ⟨k, b, i, n, t, d, f, l⟩ := q
  dsimp only at hk ⊢
  subst hk
  unfold RightQ zeroQ
  simp [Prod.mk.injEq, far9]
  try grind
theorem right_iff8 {q : Rq9} (hk : q.1 = 8) : RightQ q ↔ (true) = true ∧ ((q.1, q.2.1, q.2.2.1, q.2.2.2.1, q.2.2.2.2.1, q.2.2.2.2.2.1, q.2.2.2.2.2.2.1, q.2.2.2.2.2.2.2) : Rq9) = zeroQ q.1 := by
  obtain ⟨k, b, i, n, t, d, f, l⟩ := q
  dsimp only at hk ⊢
  subst hk
  unfold RightQ zeroQ
  simp [Prod.mk.injEq, far9]
  try grind
theorem right_iff9 {q : Rq9} (hk : q.1 = 9) : RightQ q ↔ (namedP q.2.2.2.1) = true ∧ ((q.1, q.2.1, q.2.2.1, ⟨#[]⟩, q.2.2.2.2.1, q.2.2.2.2.2.1, q.2.2.2.2.2.2.1, q.2.2.2.2.2.2.2) : Rq9) = zeroQ q.1 := by
  obtain ⟨k, b, i, n, t, d, f, l⟩ := q
  dsimp only at hk ⊢
  subst hk
  unfold RightQ zeroQ
  simp [Prod.mk.injEq, far9]
  try grind
theorem right_iff10 {q : Rq9} (hk : q.1 = 10) : RightQ q ↔ (decide (q.2.2.2.1 = ⟨#[]⟩) || namedP q.2.2.2.1) = true ∧ ((q.1, q.2.1, q.2.2.1, ⟨#[]⟩, q.2.2.2.2.1, q.2.2.2.2.2.1, q.2.2.2.2.2.2.1, q.2.2.2.2.2.2.2) : Rq9) = zeroQ q.1 := by
  obtain ⟨k, b, i, n, t, d, f, l⟩ := q
  dsimp only at hk ⊢
  subst hk
  unfold RightQ zeroQ
  simp [Prod.mk.injEq, far9]
  try grind
theorem right_iff11 {q : Rq9} (hk : q.1 = 11) : RightQ q ↔ (true) = true ∧ ((q.1, q.2.1, q.2.2.1, q.2.2.2.1, q.2.2.2.2.1, q.2.2.2.2.2.1, q.2.2.2.2.2.2.1, q.2.2.2.2.2.2.2) : Rq9) = zeroQ q.1 := by
  obtain ⟨k, b, i, n, t, d, f, l⟩ := q
  dsimp only at hk ⊢
  subst hk
  unfold RightQ zeroQ
  simp [Prod.mk.injEq, far9]
  try grind
theorem right_iff12 {q : Rq9} (hk : q.1 = 12) : RightQ q ↔ (decide (0 ≤ q.2.2.1 ∧ q.2.2.1 ≤ 100)) = true ∧ ((q.1, q.2.1, 0, q.2.2.2.1, q.2.2.2.2.1, q.2.2.2.2.2.1, q.2.2.2.2.2.2.1, q.2.2.2.2.2.2.2) : Rq9) = zeroQ q.1 := by
  obtain ⟨k, b, i, n, t, d, f, l⟩ := q
  dsimp only at hk ⊢
  subst hk
  unfold RightQ zeroQ
  simp [Prod.mk.injEq, far9]
  try grind
theorem right_none {q : Rq9} (h : q.1 < 0 ∨ 12 < q.1) : ¬ RightQ q := fun k => by have := k.1; omega
end Go.Proofs.YtlfehnnmpkohkaaGreatDoor
/- Chapter 16: req.Right. -/
namespace Go.Proofs.YtlfehnnmpkohkaaGreatDoor
open Go Go.SL Go.Lib
/-- Sizes at which a request is looked at. -/
structure FineQ (q : Rq9) : Prop where
  name : q.2.2.2.1.size ≤ 1000000
  note : q.2.2.2.2.1.size ≤ 1000000
  deps : q.2.2.2.2.2.1.length ≤ 1000000
  files : q.2.2.2.2.2.2.1.length ≤ 1000000 ∧ ∀ s ∈ q.2.2.2.2.2.2.1, s.size ≤ 1000000
  prims : q.2.2.2.2.2.2.2.length ≤ 1000000 ∧ ∀ p ∈ q.2.2.2.2.2.2.2, SizeP p
theorem FineQ.size {q : Rq9} (h : FineQ q) : SizeQ q := ⟨h.deps, h.files.1, h.prims.1, fun p hp => ⟨(h.prims.2 p hp).2.2.1.1, (h.prims.2 p hp).2.2.2.1⟩⟩
theorem zeroQ_size (k : Int) : SizeQ (zeroQ k) := ⟨Nat.zero_le _, Nat.zero_le _, Nat.zero_le _, fun _ h => by cases h⟩
attribute [local irreducible] Cfg Kont StepK Val Con Qops Any Sl Own Blk BlkR Rd Pu ExA AllA Has Pick Ent Elem Beside Callable TI Lone OwnO AndA
set_option maxRecDepth 100000 in
theorem right0_con (q : Rq9) (d f l : Value) (hk : q.1 = 0) (hq : FineQ q) : Con Tryz.prog 12 [.agg #[.int .i64 q.1, .int .i64 q.2.1, .int .i64 q.2.2.1, .string q.2.2.2.1, .string q.2.2.2.2.1, d, f, l]] [Sl (eInt .i64) d q.2.2.2.2.2.1, Sl eStr f q.2.2.2.2.2.2.1, Sl ePr l q.2.2.2.2.2.2.2] (γ := Unit) (fun _ => .bool (decide (RightQ q))) (fun _ => True) (fun _ => []) := by
  have hlk : ∀ b1 b2, Go.SL.look (kindsM b1 b2) q.1 = some (.agg #[fnV 87, fnV 89]) := fun b1 b2 => by rw [hk]; exact look0 b1 b2
  have hT := tChange_con q d f l hq.prims
  have hR := rChange_con q d f l
  have hi := right_iff0 hk
  have hS := sameReq_con (q.1, 0, q.2.2.1, q.2.2.2.1, q.2.2.2.2.1, q.2.2.2.2.2.1, q.2.2.2.2.2.2.1, []) (zeroQ q.1) (d) (f) (.slice none 0 0) (.slice none 0 0) (.slice none 0 0) (.slice none 0 0) ⟨hq.size.1, hq.size.2.1, ⟨Nat.zero_le _, fun _ h => by cases h⟩⟩ (zeroQ_size _)
  dsimp only at hS
  refine con_of Tryz.func12 rfl (dd rfl) fun w0 O0 => ?_
  refine c_seq (c_region ?_)
  refine o_step (s_box rfl (dd rfl) (fun b1 => ?_))
  refine oV vA ?_
  refine o_nil (c_seq ?_)
  refine c_joinR (γ := Nat × Nat × Nat × Nat) [(1, _), (2, _)] (fun _ => True) (fun g => [(3, ptr g.1), (4, .bool true)]) (fun g => [Blk g.1 77 [fnV 87, fnV 89], Blk b1 32 [.int .i64 q.1, .int .i64 q.2.1, .int .i64 q.2.2.1, .string q.2.2.2.1, .string q.2.2.2.2.1, d, f, l], Sl (eInt .i64) d q.2.2.2.2.2.1, Sl eStr f q.2.2.2.2.2.2.1, Sl ePr l q.2.2.2.2.2.2.2, Blk g.2.2.1 75 [fnV 81], Blk g.2.2.2 75 [fnV 82]]) (by repeat (first | exact trivial | refine ⟨rfl, ?_⟩)) ?_ ?_
  rotate_left
  · intro MEET
    skip
    refine c_held [BlkR b1 32 [.int .i64 q.1, .int .i64 q.2.1, .int .i64 q.2.2.1, .string q.2.2.2.1, .string q.2.2.2.2.1, d, f, l], Sl (eInt .i64) d q.2.2.2.2.2.1, Sl eStr f q.2.2.2.2.2.2.1, Sl ePr l q.2.2.2.2.2.2.2] rfl ?_
    refine aT 1 rfl (vF 0 Tryz.underlying32 ti3) ?_
    refine aT 2 rfl (vL lone3) ?_
    refine a_two 0 7 rfl rfl (by kernel_rfl) ?_ ?_
    · skip
      refine s_callf cl39 (kinds_con) rfl (dd rfl) (pXs (by repeat constructor)) (fun g _ => aK ?_)
      refine a_two 3 7 rfl rfl (by kernel_rfl) ?_ ?_
      · skip
        refine s_val (v_lookupS kInt Tryz.underlying79 Tryz.underlying3 ti77 rfl rfl (hX (by repeat constructor)) (hlk g.2.1 g.2.2)) (dd rfl) (aK ?_)
        refine aT 4 rfl vM ?_
        refine aT 5 rfl vE ?_
        refine aT 6 rfl vE ?_
        refine aO 7 rfl (s_alloc ti77 (dd rfl) (fun b3 => aK ?_))
        refine aS 8 rfl ti77 ?_
        refine aT 9 rfl vA ?_
        refine a_done (by kernel_rfl) ?_ _
        refine cU (MEET ((b3, g)) (trivial))
      · skip
        refine s_alloc ti77 (dd rfl) (fun b3 => aK ?_)
        refine aO 3 rfl (s_val (v_lookupS kInt Tryz.underlying79 Tryz.underlying3 ti77 rfl rfl (hX (by repeat constructor)) (hlk g.2.1 g.2.2)) (dd rfl) (aK ?_))
        refine aT 4 rfl vM ?_
        refine aT 5 rfl vE ?_
        refine aT 6 rfl vE ?_
        refine aS 8 rfl ti77 ?_
        refine aT 9 rfl vA ?_
        refine a_done (by kernel_rfl) ?_ _
        refine cU (MEET ((b3, g)) (trivial))
    · skip
      refine s_alloc ti77 (dd rfl) (fun b3 => aK ?_)
      refine aO 0 rfl (s_callf cl39 (kinds_con) rfl (dd rfl) (pXs (by repeat constructor)) (fun g _ => aK ?_))
      refine aO 3 rfl (s_val (v_lookupS kInt Tryz.underlying79 Tryz.underlying3 ti77 rfl rfl (hX (by repeat constructor)) (hlk g.2.1 g.2.2)) (dd rfl) (aK ?_))
      refine aT 4 rfl vM ?_
      refine aT 5 rfl vE ?_
      refine aT 6 rfl vE ?_
      refine aS 8 rfl ti77 ?_
      refine aT 9 rfl vA ?_
      refine a_done (by kernel_rfl) ?_ _
      refine cU (MEET ((b3, g)) (trivial))
  rintro ⟨b3, bm, bn, bg⟩ -
  dsimp only [List.cons_append, List.nil_append]
  refine c_seq ?_
  refine c_held [BlkR b3 77 [fnV 87, fnV 89], BlkR b1 32 [.int .i64 q.1, .int .i64 q.2.1, .int .i64 q.2.2.1, .string q.2.2.2.1, .string q.2.2.2.2.1, d, f, l], Sl (eInt .i64) d q.2.2.2.2.2.1, Sl eStr f q.2.2.2.2.2.2.1, Sl ePr l q.2.2.2.2.2.2.2] rfl ?_
  refine aT 0 rfl vM ?_
  refine aT 1 rfl vM ?_
  refine aN 2 rfl (vF 0 Tryz.underlying77 ti29) ?_
  refine aN 3 rfl (vL lone29) ?_
  refine aN 4 rfl (vW Tryz.underlying32 ti32) ?_
  by_cases g1 : (decide (0 ≤ q.2.1) && decide (q.2.1 ≤ 1099511627776) && decide (1 ≤ q.2.2.2.2.2.2.2.length) && decide (q.2.2.2.2.2.2.2.length ≤ 24) && q.2.2.2.2.2.2.2.all rightP) = true
  · rw [g1] at hT
    refine aP 5 rfl (s_call_keep cl87 (hT) (first := []) (cap := []) rfl rfl rfl (dd rfl) (rX (by repeat constructor)) (fun _ => sX) (fun _ _ => aK ?_))
    refine aT 6 rfl vT ?_
    refine aT 7 rfl vM ?_
    refine a_know (s := 19) rfl (show _ = Value.bool true from rfl) ?_
    refine aN 8 rfl (vF 1 Tryz.underlying77 ti75) ?_
    refine aN 9 rfl (vL lone75) ?_
    refine aN 10 rfl (vW Tryz.underlying32 ti32) ?_
    refine aN 12 rfl (vF 0 Tryz.underlying32 ti3) ?_
    refine aN 13 rfl (vL lone3) ?_
    refine aN 14 rfl (v_buildS (places := [(0, 1), (1, 1), (2, 1), (3, 1), (4, 1), (5, 1), (6, 1), (7, 1)]) (cells := [_, .int .i64 0, .int .i64 0, .string ⟨#[]⟩, .string ⟨#[]⟩, .slice none 0 0, .slice none 0 0, .slice none 0 0]) Tryz.underlying32 ti32 (by kernel_rfl) rfl (by repeat (first | exact PartsC.nil | (apply PartsC.one (by first | exact OneC.lit rfl | exact OneC.sl (hX (by repeat constructor)) )) | (apply PartsC.lit rfl))) rfl) ?_
    refine aP 11 rfl (s_call_keep cl89 (hR) (first := []) (cap := []) rfl rfl rfl (dd rfl) (rX (by repeat constructor)) (fun _ => sX) (fun _ _ => aK ?_))
    refine aP 15 rfl (s_callf cl15 (hS) rfl (dd rfl) (pXs (by repeat constructor)) (fun _ _ => aK ?_))
    refine aT 16 rfl vT ?_
    refine aT 17 rfl vA ?_
    refine a_done (by kernel_rfl) ?_ _
    refine c_ret1 Tryz.func12 rfl rfl fun w O hS => ?_
    exact ⟨(), congrArg Value.bool (decide_eq_decide.2 (by rw [hi, g1]; simp)), trivial, trivial⟩
  · have g2 : (decide (0 ≤ q.2.1) && decide (q.2.1 ≤ 1099511627776) && decide (1 ≤ q.2.2.2.2.2.2.2.length) && decide (q.2.2.2.2.2.2.2.length ≤ 24) && q.2.2.2.2.2.2.2.all rightP) = false := Bool.eq_false_iff.2 g1
    rw [g2] at hT
    refine aP 5 rfl (s_call_keep cl87 (hT) (first := []) (cap := []) rfl rfl rfl (dd rfl) (rX (by repeat constructor)) (fun _ => sX) (fun _ _ => aK ?_))
    refine aT 6 rfl vT ?_
    refine aT 7 rfl vM ?_
    refine a_know (s := 19) rfl (show _ = Value.bool false from rfl) ?_
    refine aX 8 rfl ?_
    refine aX 9 rfl ?_
    refine aX 10 rfl ?_
    refine aX 11 rfl ?_
    refine aX 12 rfl ?_
    refine aX 13 rfl ?_
    refine aX 14 rfl ?_
    refine aX 15 rfl ?_
    refine aT 16 rfl vQ ?_
    refine aT 17 rfl vA ?_
    refine a_done (by kernel_rfl) ?_ _
    refine c_ret1 Tryz.func12 rfl rfl fun w O hS => ?_
    exact ⟨(), congrArg Value.bool (decide_eq_false (by rw [hi, g2]; simp)).symm, trivial, trivial⟩
set_option maxRecDepth 100000 in
theorem right1_con (q : Rq9) (d f l : Value) (hk : q.1 = 1) (hq : FineQ q) : Con Tryz.prog 12 [.agg #[.int .i64 q.1, .int .i64 q.2.1, .int .i64 q.2.2.1, .string q.2.2.2.1, .string q.2.2.2.2.1, d, f, l]] [Sl (eInt .i64) d q.2.2.2.2.2.1, Sl eStr f q.2.2.2.2.2.2.1, Sl ePr l q.2.2.2.2.2.2.2] (γ := Unit) (fun _ => .bool (decide (RightQ q))) (fun _ => True) (fun _ => []) := by
  have hlk : ∀ b1 b2, Go.SL.look (kindsM b1 b2) q.1 = some (.agg #[fnV 90, fnC 95 b2]) := fun b1 b2 => by rw [hk]; exact look1 b1 b2
  have hT := tRecord_con q d f l hq.deps hq.files.1 hq.files.2
  have hR := rRecord_con q d f l
  have hi := right_iff1 hk
  have hS := sameReq_con (q.1, q.2.1, 0, q.2.2.2.1, ⟨#[]⟩, [], [], q.2.2.2.2.2.2.2) (zeroQ q.1) (.slice none 0 0) (.slice none 0 0) (l) (.slice none 0 0) (.slice none 0 0) (.slice none 0 0) ⟨Nat.zero_le _, Nat.zero_le _, hq.size.2.2⟩ (zeroQ_size _)
  dsimp only at hS
  refine con_of Tryz.func12 rfl (dd rfl) fun w0 O0 => ?_
  refine c_seq (c_region ?_)
  refine o_step (s_box rfl (dd rfl) (fun b1 => ?_))
  refine oV vA ?_
  refine o_nil (c_seq ?_)
  refine c_joinR (γ := Nat × Nat × Nat × Nat) [(1, _), (2, _)] (fun _ => True) (fun g => [(3, ptr g.1), (4, .bool true)]) (fun g => [Blk g.1 77 [fnV 90, fnC 95 g.2.2.2], Blk b1 32 [.int .i64 q.1, .int .i64 q.2.1, .int .i64 q.2.2.1, .string q.2.2.2.1, .string q.2.2.2.2.1, d, f, l], Sl (eInt .i64) d q.2.2.2.2.2.1, Sl eStr f q.2.2.2.2.2.2.1, Sl ePr l q.2.2.2.2.2.2.2, Blk g.2.2.1 75 [fnV 81], Blk g.2.2.2 75 [fnV 82]]) (by repeat (first | exact trivial | refine ⟨rfl, ?_⟩)) ?_ ?_
  rotate_left
  · intro MEET
    skip
    refine c_held [BlkR b1 32 [.int .i64 q.1, .int .i64 q.2.1, .int .i64 q.2.2.1, .string q.2.2.2.1, .string q.2.2.2.2.1, d, f, l], Sl (eInt .i64) d q.2.2.2.2.2.1, Sl eStr f q.2.2.2.2.2.2.1, Sl ePr l q.2.2.2.2.2.2.2] rfl ?_
    refine aT 1 rfl (vF 0 Tryz.underlying32 ti3) ?_
    refine aT 2 rfl (vL lone3) ?_
    refine a_two 0 7 rfl rfl (by kernel_rfl) ?_ ?_
    · skip
      refine s_callf cl39 (kinds_con) rfl (dd rfl) (pXs (by repeat constructor)) (fun g _ => aK ?_)
      refine a_two 3 7 rfl rfl (by kernel_rfl) ?_ ?_
      · skip
        refine s_val (v_lookupS kInt Tryz.underlying79 Tryz.underlying3 ti77 rfl rfl (hX (by repeat constructor)) (hlk g.2.1 g.2.2)) (dd rfl) (aK ?_)
        refine aT 4 rfl vM ?_
        refine aT 5 rfl vE ?_
        refine aT 6 rfl vE ?_
        refine aO 7 rfl (s_alloc ti77 (dd rfl) (fun b3 => aK ?_))
        refine aS 8 rfl ti77 ?_
        refine aT 9 rfl vA ?_
        refine a_done (by kernel_rfl) ?_ _
        refine cU (MEET ((b3, g)) (trivial))
      · skip
        refine s_alloc ti77 (dd rfl) (fun b3 => aK ?_)
        refine aO 3 rfl (s_val (v_lookupS kInt Tryz.underlying79 Tryz.underlying3 ti77 rfl rfl (hX (by repeat constructor)) (hlk g.2.1 g.2.2)) (dd rfl) (aK ?_))
        refine aT 4 rfl vM ?_
        refine aT 5 rfl vE ?_
        refine aT 6 rfl vE ?_
        refine aS 8 rfl ti77 ?_
        refine aT 9 rfl vA ?_
        refine a_done (by kernel_rfl) ?_ _
        refine cU (MEET ((b3, g)) (trivial))
    · skip
      refine s_alloc ti77 (dd rfl) (fun b3 => aK ?_)
      refine aO 0 rfl (s_callf cl39 (kinds_con) rfl (dd rfl) (pXs (by repeat constructor)) (fun g _ => aK ?_))
      refine aO 3 rfl (s_val (v_lookupS kInt Tryz.underlying79 Tryz.underlying3 ti77 rfl rfl (hX (by repeat constructor)) (hlk g.2.1 g.2.2)) (dd rfl) (aK ?_))
      refine aT 4 rfl vM ?_
      refine aT 5 rfl vE ?_
      refine aT 6 rfl vE ?_
      refine aS 8 rfl ti77 ?_
      refine aT 9 rfl vA ?_
      refine a_done (by kernel_rfl) ?_ _
      refine cU (MEET ((b3, g)) (trivial))
  rintro ⟨b3, bm, bn, bg⟩ -
  dsimp only [List.cons_append, List.nil_append]
  refine c_seq ?_
  refine c_held [BlkR b3 77 [fnV 90, fnC 95 bg], BlkR b1 32 [.int .i64 q.1, .int .i64 q.2.1, .int .i64 q.2.2.1, .string q.2.2.2.1, .string q.2.2.2.2.1, d, f, l], Sl (eInt .i64) d q.2.2.2.2.2.1, Sl eStr f q.2.2.2.2.2.2.1, Sl ePr l q.2.2.2.2.2.2.2, BlkR bg 75 [fnV 82]] rfl ?_
  refine aT 0 rfl vM ?_
  refine aT 1 rfl vM ?_
  refine aN 2 rfl (vF 0 Tryz.underlying77 ti29) ?_
  refine aN 3 rfl (vL lone29) ?_
  refine aN 4 rfl (vW Tryz.underlying32 ti32) ?_
  by_cases g1 : (decide (1 ≤ q.2.2.1 ∧ q.2.2.1 ≤ 1000000000) && lineP q.2.2.2.2.1 && (decide (q.2.2.2.2.2.1.length ≤ 8) && depsP q.2.2.1 0 q.2.2.2.2.2.1) && (decide (q.2.2.2.2.2.2.1.length ≤ 8) && filesP ⟨#[]⟩ q.2.2.2.2.2.2.1)) = true
  · rw [g1] at hT
    refine aP 5 rfl (s_call_keep cl90 (hT) (first := []) (cap := []) rfl rfl rfl (dd rfl) (rX (by repeat constructor)) (fun _ => sX) (fun _ _ => aK ?_))
    refine aT 6 rfl vT ?_
    refine aT 7 rfl vM ?_
    refine a_know (s := 19) rfl (show _ = Value.bool true from rfl) ?_
    refine aN 8 rfl (vF 1 Tryz.underlying77 ti75) ?_
    refine aN 9 rfl (vL lone75) ?_
    refine aN 10 rfl (vW Tryz.underlying32 ti32) ?_
    refine aN 12 rfl (vF 0 Tryz.underlying32 ti3) ?_
    refine aN 13 rfl (vL lone3) ?_
    refine aN 14 rfl (v_buildS (places := [(0, 1), (1, 1), (2, 1), (3, 1), (4, 1), (5, 1), (6, 1), (7, 1)]) (cells := [_, .int .i64 0, .int .i64 0, .string ⟨#[]⟩, .string ⟨#[]⟩, .slice none 0 0, .slice none 0 0, .slice none 0 0]) Tryz.underlying32 ti32 (by kernel_rfl) rfl (by repeat (first | exact PartsC.nil | (apply PartsC.one (by first | exact OneC.lit rfl | exact OneC.sl (hX (by repeat constructor)) )) | (apply PartsC.lit rfl))) rfl) ?_
    refine aP 11 rfl (s_call_keep cl95 (hR bg) (first := []) (cap := [ptr1 bg]) rfl rfl rfl (dd rfl) (rX (by repeat constructor)) (fun _ => sX) (fun _ _ => aK ?_))
    refine aP 15 rfl (s_callf cl15 (hS) rfl (dd rfl) (pXs (by repeat constructor)) (fun _ _ => aK ?_))
    refine aT 16 rfl vT ?_
    refine aT 17 rfl vA ?_
    refine a_done (by kernel_rfl) ?_ _
    refine c_ret1 Tryz.func12 rfl rfl fun w O hS => ?_
    exact ⟨(), congrArg Value.bool (decide_eq_decide.2 (by rw [hi, g1]; simp)), trivial, trivial⟩
  · have g2 : (decide (1 ≤ q.2.2.1 ∧ q.2.2.1 ≤ 1000000000) && lineP q.2.2.2.2.1 && (decide (q.2.2.2.2.2.1.length ≤ 8) && depsP q.2.2.1 0 q.2.2.2.2.2.1) && (decide (q.2.2.2.2.2.2.1.length ≤ 8) && filesP ⟨#[]⟩ q.2.2.2.2.2.2.1)) = false := Bool.eq_false_iff.2 g1
    rw [g2] at hT
    refine aP 5 rfl (s_call_keep cl90 (hT) (first := []) (cap := []) rfl rfl rfl (dd rfl) (rX (by repeat constructor)) (fun _ => sX) (fun _ _ => aK ?_))
    refine aT 6 rfl vT ?_
    refine aT 7 rfl vM ?_
    refine a_know (s := 19) rfl (show _ = Value.bool false from rfl) ?_
    refine aX 8 rfl ?_
    refine aX 9 rfl ?_
    refine aX 10 rfl ?_
    refine aX 11 rfl ?_
    refine aX 12 rfl ?_
    refine aX 13 rfl ?_
    refine aX 14 rfl ?_
    refine aX 15 rfl ?_
    refine aT 16 rfl vQ ?_
    refine aT 17 rfl vA ?_
    refine a_done (by kernel_rfl) ?_ _
    refine c_ret1 Tryz.func12 rfl rfl fun w O hS => ?_
    exact ⟨(), congrArg Value.bool (decide_eq_false (by rw [hi, g2]; simp)).symm, trivial, trivial⟩
set_option maxRecDepth 100000 in
theorem right2_con (q : Rq9) (d f l : Value) (hk : q.1 = 2) (hq : FineQ q) : Con Tryz.prog 12 [.agg #[.int .i64 q.1, .int .i64 q.2.1, .int .i64 q.2.2.1, .string q.2.2.2.1, .string q.2.2.2.2.1, d, f, l]] [Sl (eInt .i64) d q.2.2.2.2.2.1, Sl eStr f q.2.2.2.2.2.2.1, Sl ePr l q.2.2.2.2.2.2.2] (γ := Unit) (fun _ => .bool (decide (RightQ q))) (fun _ => True) (fun _ => []) := by
  have hlk : ∀ b1 b2, Go.SL.look (kindsM b1 b2) q.1 = some (.agg #[fnV 96, fnV 82]) := fun b1 b2 => by rw [hk]; exact look2 b1 b2
  have hT := tAmend_con q d f l hq.files.1 hq.files.2
  have hR := rGroup_con q d f l
  have hi := right_iff2 hk
  have hS := sameReq_con (q.1, q.2.1, 0, q.2.2.2.1, q.2.2.2.2.1, q.2.2.2.2.2.1, [], q.2.2.2.2.2.2.2) (zeroQ q.1) (d) (.slice none 0 0) (l) (.slice none 0 0) (.slice none 0 0) (.slice none 0 0) ⟨hq.size.1, Nat.zero_le _, hq.size.2.2⟩ (zeroQ_size _)
  dsimp only at hS
  refine con_of Tryz.func12 rfl (dd rfl) fun w0 O0 => ?_
  refine c_seq (c_region ?_)
  refine o_step (s_box rfl (dd rfl) (fun b1 => ?_))
  refine oV vA ?_
  refine o_nil (c_seq ?_)
  refine c_joinR (γ := Nat × Nat × Nat × Nat) [(1, _), (2, _)] (fun _ => True) (fun g => [(3, ptr g.1), (4, .bool true)]) (fun g => [Blk g.1 77 [fnV 96, fnV 82], Blk b1 32 [.int .i64 q.1, .int .i64 q.2.1, .int .i64 q.2.2.1, .string q.2.2.2.1, .string q.2.2.2.2.1, d, f, l], Sl (eInt .i64) d q.2.2.2.2.2.1, Sl eStr f q.2.2.2.2.2.2.1, Sl ePr l q.2.2.2.2.2.2.2, Blk g.2.2.1 75 [fnV 81], Blk g.2.2.2 75 [fnV 82]]) (by repeat (first | exact trivial | refine ⟨rfl, ?_⟩)) ?_ ?_
  rotate_left
  · intro MEET
    skip
    refine c_held [BlkR b1 32 [.int .i64 q.1, .int .i64 q.2.1, .int .i64 q.2.2.1, .string q.2.2.2.1, .string q.2.2.2.2.1, d, f, l], Sl (eInt .i64) d q.2.2.2.2.2.1, Sl eStr f q.2.2.2.2.2.2.1, Sl ePr l q.2.2.2.2.2.2.2] rfl ?_
    refine aT 1 rfl (vF 0 Tryz.underlying32 ti3) ?_
    refine aT 2 rfl (vL lone3) ?_
    refine a_two 0 7 rfl rfl (by kernel_rfl) ?_ ?_
    · skip
      refine s_callf cl39 (kinds_con) rfl (dd rfl) (pXs (by repeat constructor)) (fun g _ => aK ?_)
      refine a_two 3 7 rfl rfl (by kernel_rfl) ?_ ?_
      · skip
        refine s_val (v_lookupS kInt Tryz.underlying79 Tryz.underlying3 ti77 rfl rfl (hX (by repeat constructor)) (hlk g.2.1 g.2.2)) (dd rfl) (aK ?_)
        refine aT 4 rfl vM ?_
        refine aT 5 rfl vE ?_
        refine aT 6 rfl vE ?_
        refine aO 7 rfl (s_alloc ti77 (dd rfl) (fun b3 => aK ?_))
        refine aS 8 rfl ti77 ?_
        refine aT 9 rfl vA ?_
        refine a_done (by kernel_rfl) ?_ _
        refine cU (MEET ((b3, g)) (trivial))
      · skip
        refine s_alloc ti77 (dd rfl) (fun b3 => aK ?_)
        refine aO 3 rfl (s_val (v_lookupS kInt Tryz.underlying79 Tryz.underlying3 ti77 rfl rfl (hX (by repeat constructor)) (hlk g.2.1 g.2.2)) (dd rfl) (aK ?_))
        refine aT 4 rfl vM ?_
        refine aT 5 rfl vE ?_
        refine aT 6 rfl vE ?_
        refine aS 8 rfl ti77 ?_
        refine aT 9 rfl vA ?_
        refine a_done (by kernel_rfl) ?_ _
        refine cU (MEET ((b3, g)) (trivial))
    · skip
      refine s_alloc ti77 (dd rfl) (fun b3 => aK ?_)
      refine aO 0 rfl (s_callf cl39 (kinds_con) rfl (dd rfl) (pXs (by repeat constructor)) (fun g _ => aK ?_))
      refine aO 3 rfl (s_val (v_lookupS kInt Tryz.underlying79 Tryz.underlying3 ti77 rfl rfl (hX (by repeat constructor)) (hlk g.2.1 g.2.2)) (dd rfl) (aK ?_))
      refine aT 4 rfl vM ?_
      refine aT 5 rfl vE ?_
      refine aT 6 rfl vE ?_
      refine aS 8 rfl ti77 ?_
      refine aT 9 rfl vA ?_
      refine a_done (by kernel_rfl) ?_ _
      refine cU (MEET ((b3, g)) (trivial))
  rintro ⟨b3, bm, bn, bg⟩ -
  dsimp only [List.cons_append, List.nil_append]
  refine c_seq ?_
  refine c_held [BlkR b3 77 [fnV 96, fnV 82], BlkR b1 32 [.int .i64 q.1, .int .i64 q.2.1, .int .i64 q.2.2.1, .string q.2.2.2.1, .string q.2.2.2.2.1, d, f, l], Sl (eInt .i64) d q.2.2.2.2.2.1, Sl eStr f q.2.2.2.2.2.2.1, Sl ePr l q.2.2.2.2.2.2.2] rfl ?_
  refine aT 0 rfl vM ?_
  refine aT 1 rfl vM ?_
  refine aN 2 rfl (vF 0 Tryz.underlying77 ti29) ?_
  refine aN 3 rfl (vL lone29) ?_
  refine aN 4 rfl (vW Tryz.underlying32 ti32) ?_
  by_cases g1 : (decide (1 ≤ q.2.2.1 ∧ q.2.2.1 ≤ 1000000000) && (decide (q.2.2.2.2.2.2.1.length ≤ 8) && filesP ⟨#[]⟩ q.2.2.2.2.2.2.1)) = true
  · rw [g1] at hT
    refine aP 5 rfl (s_call_keep cl96 (hT) (first := []) (cap := []) rfl rfl rfl (dd rfl) (rX (by repeat constructor)) (fun _ => sX) (fun _ _ => aK ?_))
    refine aT 6 rfl vT ?_
    refine aT 7 rfl vM ?_
    refine a_know (s := 19) rfl (show _ = Value.bool true from rfl) ?_
    refine aN 8 rfl (vF 1 Tryz.underlying77 ti75) ?_
    refine aN 9 rfl (vL lone75) ?_
    refine aN 10 rfl (vW Tryz.underlying32 ti32) ?_
    refine aN 12 rfl (vF 0 Tryz.underlying32 ti3) ?_
    refine aN 13 rfl (vL lone3) ?_
    refine aN 14 rfl (v_buildS (places := [(0, 1), (1, 1), (2, 1), (3, 1), (4, 1), (5, 1), (6, 1), (7, 1)]) (cells := [_, .int .i64 0, .int .i64 0, .string ⟨#[]⟩, .string ⟨#[]⟩, .slice none 0 0, .slice none 0 0, .slice none 0 0]) Tryz.underlying32 ti32 (by kernel_rfl) rfl (by repeat (first | exact PartsC.nil | (apply PartsC.one (by first | exact OneC.lit rfl | exact OneC.sl (hX (by repeat constructor)) )) | (apply PartsC.lit rfl))) rfl) ?_
    refine aP 11 rfl (s_call_keep cl82 (hR) (first := []) (cap := []) rfl rfl rfl (dd rfl) (rX (by repeat constructor)) (fun _ => sX) (fun _ _ => aK ?_))
    refine aP 15 rfl (s_callf cl15 (hS) rfl (dd rfl) (pXs (by repeat constructor)) (fun _ _ => aK ?_))
    refine aT 16 rfl vT ?_
    refine aT 17 rfl vA ?_
    refine a_done (by kernel_rfl) ?_ _
    refine c_ret1 Tryz.func12 rfl rfl fun w O hS => ?_
    exact ⟨(), congrArg Value.bool (decide_eq_decide.2 (by rw [hi, g1]; simp)), trivial, trivial⟩
  · have g2 : (decide (1 ≤ q.2.2.1 ∧ q.2.2.1 ≤ 1000000000) && (decide (q.2.2.2.2.2.2.1.length ≤ 8) && filesP ⟨#[]⟩ q.2.2.2.2.2.2.1)) = false := Bool.eq_false_iff.2 g1
    rw [g2] at hT
    refine aP 5 rfl (s_call_keep cl96 (hT) (first := []) (cap := []) rfl rfl rfl (dd rfl) (rX (by repeat constructor)) (fun _ => sX) (fun _ _ => aK ?_))
    refine aT 6 rfl vT ?_
    refine aT 7 rfl vM ?_
    refine a_know (s := 19) rfl (show _ = Value.bool false from rfl) ?_
    refine aX 8 rfl ?_
    refine aX 9 rfl ?_
    refine aX 10 rfl ?_
    refine aX 11 rfl ?_
    refine aX 12 rfl ?_
    refine aX 13 rfl ?_
    refine aX 14 rfl ?_
    refine aX 15 rfl ?_
    refine aT 16 rfl vQ ?_
    refine aT 17 rfl vA ?_
    refine a_done (by kernel_rfl) ?_ _
    refine c_ret1 Tryz.func12 rfl rfl fun w O hS => ?_
    exact ⟨(), congrArg Value.bool (decide_eq_false (by rw [hi, g2]; simp)).symm, trivial, trivial⟩
set_option maxRecDepth 100000 in
theorem right3_con (q : Rq9) (d f l : Value) (hk : q.1 = 3) (hq : FineQ q) : Con Tryz.prog 12 [.agg #[.int .i64 q.1, .int .i64 q.2.1, .int .i64 q.2.2.1, .string q.2.2.2.1, .string q.2.2.2.2.1, d, f, l]] [Sl (eInt .i64) d q.2.2.2.2.2.1, Sl eStr f q.2.2.2.2.2.2.1, Sl ePr l q.2.2.2.2.2.2.2] (γ := Unit) (fun _ => .bool (decide (RightQ q))) (fun _ => True) (fun _ => []) := by
  have hlk : ∀ b1 b2, Go.SL.look (kindsM b1 b2) q.1 = some (.agg #[fnV 91, fnV 97]) := fun b1 b2 => by rw [hk]; exact look3 b1 b2
  have hT := id_con (.int .i64 q.1) (.int .i64 q.2.1) (.string q.2.2.2.1) (.string q.2.2.2.2.1) d f l q.2.2.1
  have hR := rUnrecord_con q d f l
  have hi := right_iff3 hk
  have hS := sameReq_con (q.1, q.2.1, 0, q.2.2.2.1, q.2.2.2.2.1, q.2.2.2.2.2.1, q.2.2.2.2.2.2.1, q.2.2.2.2.2.2.2) (zeroQ q.1) (d) (f) (l) (.slice none 0 0) (.slice none 0 0) (.slice none 0 0) ⟨hq.size.1, hq.size.2.1, hq.size.2.2⟩ (zeroQ_size _)
  dsimp only at hS
  refine con_of Tryz.func12 rfl (dd rfl) fun w0 O0 => ?_
  refine c_seq (c_region ?_)
  refine o_step (s_box rfl (dd rfl) (fun b1 => ?_))
  refine oV vA ?_
  refine o_nil (c_seq ?_)
  refine c_joinR (γ := Nat × Nat × Nat × Nat) [(1, _), (2, _)] (fun _ => True) (fun g => [(3, ptr g.1), (4, .bool true)]) (fun g => [Blk g.1 77 [fnV 91, fnV 97], Blk b1 32 [.int .i64 q.1, .int .i64 q.2.1, .int .i64 q.2.2.1, .string q.2.2.2.1, .string q.2.2.2.2.1, d, f, l], Sl (eInt .i64) d q.2.2.2.2.2.1, Sl eStr f q.2.2.2.2.2.2.1, Sl ePr l q.2.2.2.2.2.2.2, Blk g.2.2.1 75 [fnV 81], Blk g.2.2.2 75 [fnV 82]]) (by repeat (first | exact trivial | refine ⟨rfl, ?_⟩)) ?_ ?_
  rotate_left
  · intro MEET
    skip
    refine c_held [BlkR b1 32 [.int .i64 q.1, .int .i64 q.2.1, .int .i64 q.2.2.1, .string q.2.2.2.1, .string q.2.2.2.2.1, d, f, l], Sl (eInt .i64) d q.2.2.2.2.2.1, Sl eStr f q.2.2.2.2.2.2.1, Sl ePr l q.2.2.2.2.2.2.2] rfl ?_
    refine aT 1 rfl (vF 0 Tryz.underlying32 ti3) ?_
    refine aT 2 rfl (vL lone3) ?_
    refine a_two 0 7 rfl rfl (by kernel_rfl) ?_ ?_
    · skip
      refine s_callf cl39 (kinds_con) rfl (dd rfl) (pXs (by repeat constructor)) (fun g _ => aK ?_)
      refine a_two 3 7 rfl rfl (by kernel_rfl) ?_ ?_
      · skip
        refine s_val (v_lookupS kInt Tryz.underlying79 Tryz.underlying3 ti77 rfl rfl (hX (by repeat constructor)) (hlk g.2.1 g.2.2)) (dd rfl) (aK ?_)
        refine aT 4 rfl vM ?_
        refine aT 5 rfl vE ?_
        refine aT 6 rfl vE ?_
        refine aO 7 rfl (s_alloc ti77 (dd rfl) (fun b3 => aK ?_))
        refine aS 8 rfl ti77 ?_
        refine aT 9 rfl vA ?_
        refine a_done (by kernel_rfl) ?_ _
        refine cU (MEET ((b3, g)) (trivial))
      · skip
        refine s_alloc ti77 (dd rfl) (fun b3 => aK ?_)
        refine aO 3 rfl (s_val (v_lookupS kInt Tryz.underlying79 Tryz.underlying3 ti77 rfl rfl (hX (by repeat constructor)) (hlk g.2.1 g.2.2)) (dd rfl) (aK ?_))
        refine aT 4 rfl vM ?_
        refine aT 5 rfl vE ?_
        refine aT 6 rfl vE ?_
        refine aS 8 rfl ti77 ?_
        refine aT 9 rfl vA ?_
        refine a_done (by kernel_rfl) ?_ _
        refine cU (MEET ((b3, g)) (trivial))
    · skip
      refine s_alloc ti77 (dd rfl) (fun b3 => aK ?_)
      refine aO 0 rfl (s_callf cl39 (kinds_con) rfl (dd rfl) (pXs (by repeat constructor)) (fun g _ => aK ?_))
      refine aO 3 rfl (s_val (v_lookupS kInt Tryz.underlying79 Tryz.underlying3 ti77 rfl rfl (hX (by repeat constructor)) (hlk g.2.1 g.2.2)) (dd rfl) (aK ?_))
      refine aT 4 rfl vM ?_
      refine aT 5 rfl vE ?_
      refine aT 6 rfl vE ?_
      refine aS 8 rfl ti77 ?_
      refine aT 9 rfl vA ?_
      refine a_done (by kernel_rfl) ?_ _
      refine cU (MEET ((b3, g)) (trivial))
  rintro ⟨b3, bm, bn, bg⟩ -
  dsimp only [List.cons_append, List.nil_append]
  refine c_seq ?_
  refine c_held [BlkR b3 77 [fnV 91, fnV 97], BlkR b1 32 [.int .i64 q.1, .int .i64 q.2.1, .int .i64 q.2.2.1, .string q.2.2.2.1, .string q.2.2.2.2.1, d, f, l], Sl (eInt .i64) d q.2.2.2.2.2.1, Sl eStr f q.2.2.2.2.2.2.1, Sl ePr l q.2.2.2.2.2.2.2] rfl ?_
  refine aT 0 rfl vM ?_
  refine aT 1 rfl vM ?_
  refine aN 2 rfl (vF 0 Tryz.underlying77 ti29) ?_
  refine aN 3 rfl (vL lone29) ?_
  refine aN 4 rfl (vW Tryz.underlying32 ti32) ?_
  by_cases g1 : (decide (1 ≤ q.2.2.1 ∧ q.2.2.1 ≤ 1000000000)) = true
  · rw [g1] at hT
    refine aP 5 rfl (s_call_keep cl91 (hT) (first := []) (cap := []) rfl rfl rfl (dd rfl) (rX (by repeat constructor)) (fun _ => sX) (fun _ _ => aK ?_))
    refine aT 6 rfl vT ?_
    refine aT 7 rfl vM ?_
    refine a_know (s := 19) rfl (show _ = Value.bool true from rfl) ?_
    refine aN 8 rfl (vF 1 Tryz.underlying77 ti75) ?_
    refine aN 9 rfl (vL lone75) ?_
    refine aN 10 rfl (vW Tryz.underlying32 ti32) ?_
    refine aN 12 rfl (vF 0 Tryz.underlying32 ti3) ?_
    refine aN 13 rfl (vL lone3) ?_
    refine aN 14 rfl (v_buildS (places := [(0, 1), (1, 1), (2, 1), (3, 1), (4, 1), (5, 1), (6, 1), (7, 1)]) (cells := [_, .int .i64 0, .int .i64 0, .string ⟨#[]⟩, .string ⟨#[]⟩, .slice none 0 0, .slice none 0 0, .slice none 0 0]) Tryz.underlying32 ti32 (by kernel_rfl) rfl (by repeat (first | exact PartsC.nil | (apply PartsC.one (by first | exact OneC.lit rfl | exact OneC.sl (hX (by repeat constructor)) )) | (apply PartsC.lit rfl))) rfl) ?_
    refine aP 11 rfl (s_call_keep cl97 (hR) (first := []) (cap := []) rfl rfl rfl (dd rfl) (rX (by repeat constructor)) (fun _ => sX) (fun _ _ => aK ?_))
    refine aP 15 rfl (s_callf cl15 (hS) rfl (dd rfl) (pXs (by repeat constructor)) (fun _ _ => aK ?_))
    refine aT 16 rfl vT ?_
    refine aT 17 rfl vA ?_
    refine a_done (by kernel_rfl) ?_ _
    refine c_ret1 Tryz.func12 rfl rfl fun w O hS => ?_
    exact ⟨(), congrArg Value.bool (decide_eq_decide.2 (by rw [hi, g1]; simp)), trivial, trivial⟩
  · have g2 : (decide (1 ≤ q.2.2.1 ∧ q.2.2.1 ≤ 1000000000)) = false := Bool.eq_false_iff.2 g1
    rw [g2] at hT
    refine aP 5 rfl (s_call_keep cl91 (hT) (first := []) (cap := []) rfl rfl rfl (dd rfl) (rX (by repeat constructor)) (fun _ => sX) (fun _ _ => aK ?_))
    refine aT 6 rfl vT ?_
    refine aT 7 rfl vM ?_
    refine a_know (s := 19) rfl (show _ = Value.bool false from rfl) ?_
    refine aX 8 rfl ?_
    refine aX 9 rfl ?_
    refine aX 10 rfl ?_
    refine aX 11 rfl ?_
    refine aX 12 rfl ?_
    refine aX 13 rfl ?_
    refine aX 14 rfl ?_
    refine aX 15 rfl ?_
    refine aT 16 rfl vQ ?_
    refine aT 17 rfl vA ?_
    refine a_done (by kernel_rfl) ?_ _
    refine c_ret1 Tryz.func12 rfl rfl fun w O hS => ?_
    exact ⟨(), congrArg Value.bool (decide_eq_false (by rw [hi, g2]; simp)).symm, trivial, trivial⟩
set_option maxRecDepth 100000 in
theorem right4_con (q : Rq9) (d f l : Value) (hk : q.1 = 4) (hq : FineQ q) : Con Tryz.prog 12 [.agg #[.int .i64 q.1, .int .i64 q.2.1, .int .i64 q.2.2.1, .string q.2.2.2.1, .string q.2.2.2.2.1, d, f, l]] [Sl (eInt .i64) d q.2.2.2.2.2.1, Sl eStr f q.2.2.2.2.2.2.1, Sl ePr l q.2.2.2.2.2.2.2] (γ := Unit) (fun _ => .bool (decide (RightQ q))) (fun _ => True) (fun _ => []) := by
  have hlk : ∀ b1 b2, Go.SL.look (kindsM b1 b2) q.1 = some (.agg #[fnV 94, fnV 98]) := fun b1 b2 => by rw [hk]; exact look4 b1 b2
  have hT := files_con (.int .i64 q.1) (.int .i64 q.2.1) (.int .i64 q.2.2.1) (.string q.2.2.2.1) (.string q.2.2.2.2.1) d f l q.2.2.2.2.2.2.1 hq.files.1 hq.files.2
  have hR := rRevert_con q d f l
  have hi := right_iff4 hk
  have hS := sameReq_con (q.1, q.2.1, q.2.2.1, q.2.2.2.1, q.2.2.2.2.1, q.2.2.2.2.2.1, [], q.2.2.2.2.2.2.2) (zeroQ q.1) (d) (.slice none 0 0) (l) (.slice none 0 0) (.slice none 0 0) (.slice none 0 0) ⟨hq.size.1, Nat.zero_le _, hq.size.2.2⟩ (zeroQ_size _)
  dsimp only at hS
  refine con_of Tryz.func12 rfl (dd rfl) fun w0 O0 => ?_
  refine c_seq (c_region ?_)
  refine o_step (s_box rfl (dd rfl) (fun b1 => ?_))
  refine oV vA ?_
  refine o_nil (c_seq ?_)
  refine c_joinR (γ := Nat × Nat × Nat × Nat) [(1, _), (2, _)] (fun _ => True) (fun g => [(3, ptr g.1), (4, .bool true)]) (fun g => [Blk g.1 77 [fnV 94, fnV 98], Blk b1 32 [.int .i64 q.1, .int .i64 q.2.1, .int .i64 q.2.2.1, .string q.2.2.2.1, .string q.2.2.2.2.1, d, f, l], Sl (eInt .i64) d q.2.2.2.2.2.1, Sl eStr f q.2.2.2.2.2.2.1, Sl ePr l q.2.2.2.2.2.2.2, Blk g.2.2.1 75 [fnV 81], Blk g.2.2.2 75 [fnV 82]]) (by repeat (first | exact trivial | refine ⟨rfl, ?_⟩)) ?_ ?_
  rotate_left
  · intro MEET
    skip
    refine c_held [BlkR b1 32 [.int .i64 q.1, .int .i64 q.2.1, .int .i64 q.2.2.1, .string q.2.2.2.1, .string q.2.2.2.2.1, d, f, l], Sl (eInt .i64) d q.2.2.2.2.2.1, Sl eStr f q.2.2.2.2.2.2.1, Sl ePr l q.2.2.2.2.2.2.2] rfl ?_
    refine aT 1 rfl (vF 0 Tryz.underlying32 ti3) ?_
    refine aT 2 rfl (vL lone3) ?_
    refine a_two 0 7 rfl rfl (by kernel_rfl) ?_ ?_
    · skip
      refine s_callf cl39 (kinds_con) rfl (dd rfl) (pXs (by repeat constructor)) (fun g _ => aK ?_)
      refine a_two 3 7 rfl rfl (by kernel_rfl) ?_ ?_
      · skip
        refine s_val (v_lookupS kInt Tryz.underlying79 Tryz.underlying3 ti77 rfl rfl (hX (by repeat constructor)) (hlk g.2.1 g.2.2)) (dd rfl) (aK ?_)
        refine aT 4 rfl vM ?_
        refine aT 5 rfl vE ?_
        refine aT 6 rfl vE ?_
        refine aO 7 rfl (s_alloc ti77 (dd rfl) (fun b3 => aK ?_))
        refine aS 8 rfl ti77 ?_
        refine aT 9 rfl vA ?_
        refine a_done (by kernel_rfl) ?_ _
        refine cU (MEET ((b3, g)) (trivial))
      · skip
        refine s_alloc ti77 (dd rfl) (fun b3 => aK ?_)
        refine aO 3 rfl (s_val (v_lookupS kInt Tryz.underlying79 Tryz.underlying3 ti77 rfl rfl (hX (by repeat constructor)) (hlk g.2.1 g.2.2)) (dd rfl) (aK ?_))
        refine aT 4 rfl vM ?_
        refine aT 5 rfl vE ?_
        refine aT 6 rfl vE ?_
        refine aS 8 rfl ti77 ?_
        refine aT 9 rfl vA ?_
        refine a_done (by kernel_rfl) ?_ _
        refine cU (MEET ((b3, g)) (trivial))
    · skip
      refine s_alloc ti77 (dd rfl) (fun b3 => aK ?_)
      refine aO 0 rfl (s_callf cl39 (kinds_con) rfl (dd rfl) (pXs (by repeat constructor)) (fun g _ => aK ?_))
      refine aO 3 rfl (s_val (v_lookupS kInt Tryz.underlying79 Tryz.underlying3 ti77 rfl rfl (hX (by repeat constructor)) (hlk g.2.1 g.2.2)) (dd rfl) (aK ?_))
      refine aT 4 rfl vM ?_
      refine aT 5 rfl vE ?_
      refine aT 6 rfl vE ?_
      refine aS 8 rfl ti77 ?_
      refine aT 9 rfl vA ?_
      refine a_done (by kernel_rfl) ?_ _
      refine cU (MEET ((b3, g)) (trivial))
  rintro ⟨b3, bm, bn, bg⟩ -
  dsimp only [List.cons_append, List.nil_append]
  refine c_seq ?_
  refine c_held [BlkR b3 77 [fnV 94, fnV 98], BlkR b1 32 [.int .i64 q.1, .int .i64 q.2.1, .int .i64 q.2.2.1, .string q.2.2.2.1, .string q.2.2.2.2.1, d, f, l], Sl (eInt .i64) d q.2.2.2.2.2.1, Sl eStr f q.2.2.2.2.2.2.1, Sl ePr l q.2.2.2.2.2.2.2] rfl ?_
  refine aT 0 rfl vM ?_
  refine aT 1 rfl vM ?_
  refine aN 2 rfl (vF 0 Tryz.underlying77 ti29) ?_
  refine aN 3 rfl (vL lone29) ?_
  refine aN 4 rfl (vW Tryz.underlying32 ti32) ?_
  by_cases g1 : (decide (q.2.2.2.2.2.2.1.length ≤ 8) && filesP ⟨#[]⟩ q.2.2.2.2.2.2.1) = true
  · rw [g1] at hT
    refine aP 5 rfl (s_call_keep cl94 (hT) (first := []) (cap := []) rfl rfl rfl (dd rfl) (rX (by repeat constructor)) (fun _ => sX) (fun _ _ => aK ?_))
    refine aT 6 rfl vT ?_
    refine aT 7 rfl vM ?_
    refine a_know (s := 19) rfl (show _ = Value.bool true from rfl) ?_
    refine aN 8 rfl (vF 1 Tryz.underlying77 ti75) ?_
    refine aN 9 rfl (vL lone75) ?_
    refine aN 10 rfl (vW Tryz.underlying32 ti32) ?_
    refine aN 12 rfl (vF 0 Tryz.underlying32 ti3) ?_
    refine aN 13 rfl (vL lone3) ?_
    refine aN 14 rfl (v_buildS (places := [(0, 1), (1, 1), (2, 1), (3, 1), (4, 1), (5, 1), (6, 1), (7, 1)]) (cells := [_, .int .i64 0, .int .i64 0, .string ⟨#[]⟩, .string ⟨#[]⟩, .slice none 0 0, .slice none 0 0, .slice none 0 0]) Tryz.underlying32 ti32 (by kernel_rfl) rfl (by repeat (first | exact PartsC.nil | (apply PartsC.one (by first | exact OneC.lit rfl | exact OneC.sl (hX (by repeat constructor)) )) | (apply PartsC.lit rfl))) rfl) ?_
    refine aP 11 rfl (s_call_keep cl98 (hR) (first := []) (cap := []) rfl rfl rfl (dd rfl) (rX (by repeat constructor)) (fun _ => sX) (fun _ _ => aK ?_))
    refine aP 15 rfl (s_callf cl15 (hS) rfl (dd rfl) (pXs (by repeat constructor)) (fun _ _ => aK ?_))
    refine aT 16 rfl vT ?_
    refine aT 17 rfl vA ?_
    refine a_done (by kernel_rfl) ?_ _
    refine c_ret1 Tryz.func12 rfl rfl fun w O hS => ?_
    exact ⟨(), congrArg Value.bool (decide_eq_decide.2 (by rw [hi, g1]; simp)), trivial, trivial⟩
  · have g2 : (decide (q.2.2.2.2.2.2.1.length ≤ 8) && filesP ⟨#[]⟩ q.2.2.2.2.2.2.1) = false := Bool.eq_false_iff.2 g1
    rw [g2] at hT
    refine aP 5 rfl (s_call_keep cl94 (hT) (first := []) (cap := []) rfl rfl rfl (dd rfl) (rX (by repeat constructor)) (fun _ => sX) (fun _ _ => aK ?_))
    refine aT 6 rfl vT ?_
    refine aT 7 rfl vM ?_
    refine a_know (s := 19) rfl (show _ = Value.bool false from rfl) ?_
    refine aX 8 rfl ?_
    refine aX 9 rfl ?_
    refine aX 10 rfl ?_
    refine aX 11 rfl ?_
    refine aX 12 rfl ?_
    refine aX 13 rfl ?_
    refine aX 14 rfl ?_
    refine aX 15 rfl ?_
    refine aT 16 rfl vQ ?_
    refine aT 17 rfl vA ?_
    refine a_done (by kernel_rfl) ?_ _
    refine c_ret1 Tryz.func12 rfl rfl fun w O hS => ?_
    exact ⟨(), congrArg Value.bool (decide_eq_false (by rw [hi, g2]; simp)).symm, trivial, trivial⟩
set_option maxRecDepth 100000 in
theorem right5_con (q : Rq9) (d f l : Value) (hk : q.1 = 5) (hq : FineQ q) : Con Tryz.prog 12 [.agg #[.int .i64 q.1, .int .i64 q.2.1, .int .i64 q.2.2.1, .string q.2.2.2.1, .string q.2.2.2.2.1, d, f, l]] [Sl (eInt .i64) d q.2.2.2.2.2.1, Sl eStr f q.2.2.2.2.2.2.1, Sl ePr l q.2.2.2.2.2.2.2] (γ := Unit) (fun _ => .bool (decide (RightQ q))) (fun _ => True) (fun _ => []) := by
  have hlk : ∀ b1 b2, Go.SL.look (kindsM b1 b2) q.1 = some (.agg #[fnV 99, fnC 100 b1]) := fun b1 b2 => by rw [hk]; exact look5 b1 b2
  have hT := tShelve_con q d f l hq.name hq.files.1 hq.files.2
  have hR := rShelve_con q d f l
  have hi := right_iff5 hk
  have hS := sameReq_con (q.1, q.2.1, q.2.2.1, ⟨#[]⟩, q.2.2.2.2.1, q.2.2.2.2.2.1, [], q.2.2.2.2.2.2.2) (zeroQ q.1) (d) (.slice none 0 0) (l) (.slice none 0 0) (.slice none 0 0) (.slice none 0 0) ⟨hq.size.1, Nat.zero_le _, hq.size.2.2⟩ (zeroQ_size _)
  dsimp only at hS
  refine con_of Tryz.func12 rfl (dd rfl) fun w0 O0 => ?_
  refine c_seq (c_region ?_)
  refine o_step (s_box rfl (dd rfl) (fun b1 => ?_))
  refine oV vA ?_
  refine o_nil (c_seq ?_)
  refine c_joinR (γ := Nat × Nat × Nat × Nat) [(1, _), (2, _)] (fun _ => True) (fun g => [(3, ptr g.1), (4, .bool true)]) (fun g => [Blk g.1 77 [fnV 99, fnC 100 g.2.2.1], Blk b1 32 [.int .i64 q.1, .int .i64 q.2.1, .int .i64 q.2.2.1, .string q.2.2.2.1, .string q.2.2.2.2.1, d, f, l], Sl (eInt .i64) d q.2.2.2.2.2.1, Sl eStr f q.2.2.2.2.2.2.1, Sl ePr l q.2.2.2.2.2.2.2, Blk g.2.2.1 75 [fnV 81], Blk g.2.2.2 75 [fnV 82]]) (by repeat (first | exact trivial | refine ⟨rfl, ?_⟩)) ?_ ?_
  rotate_left
  · intro MEET
    skip
    refine c_held [BlkR b1 32 [.int .i64 q.1, .int .i64 q.2.1, .int .i64 q.2.2.1, .string q.2.2.2.1, .string q.2.2.2.2.1, d, f, l], Sl (eInt .i64) d q.2.2.2.2.2.1, Sl eStr f q.2.2.2.2.2.2.1, Sl ePr l q.2.2.2.2.2.2.2] rfl ?_
    refine aT 1 rfl (vF 0 Tryz.underlying32 ti3) ?_
    refine aT 2 rfl (vL lone3) ?_
    refine a_two 0 7 rfl rfl (by kernel_rfl) ?_ ?_
    · skip
      refine s_callf cl39 (kinds_con) rfl (dd rfl) (pXs (by repeat constructor)) (fun g _ => aK ?_)
      refine a_two 3 7 rfl rfl (by kernel_rfl) ?_ ?_
      · skip
        refine s_val (v_lookupS kInt Tryz.underlying79 Tryz.underlying3 ti77 rfl rfl (hX (by repeat constructor)) (hlk g.2.1 g.2.2)) (dd rfl) (aK ?_)
        refine aT 4 rfl vM ?_
        refine aT 5 rfl vE ?_
        refine aT 6 rfl vE ?_
        refine aO 7 rfl (s_alloc ti77 (dd rfl) (fun b3 => aK ?_))
        refine aS 8 rfl ti77 ?_
        refine aT 9 rfl vA ?_
        refine a_done (by kernel_rfl) ?_ _
        refine cU (MEET ((b3, g)) (trivial))
      · skip
        refine s_alloc ti77 (dd rfl) (fun b3 => aK ?_)
        refine aO 3 rfl (s_val (v_lookupS kInt Tryz.underlying79 Tryz.underlying3 ti77 rfl rfl (hX (by repeat constructor)) (hlk g.2.1 g.2.2)) (dd rfl) (aK ?_))
        refine aT 4 rfl vM ?_
        refine aT 5 rfl vE ?_
        refine aT 6 rfl vE ?_
        refine aS 8 rfl ti77 ?_
        refine aT 9 rfl vA ?_
        refine a_done (by kernel_rfl) ?_ _
        refine cU (MEET ((b3, g)) (trivial))
    · skip
      refine s_alloc ti77 (dd rfl) (fun b3 => aK ?_)
      refine aO 0 rfl (s_callf cl39 (kinds_con) rfl (dd rfl) (pXs (by repeat constructor)) (fun g _ => aK ?_))
      refine aO 3 rfl (s_val (v_lookupS kInt Tryz.underlying79 Tryz.underlying3 ti77 rfl rfl (hX (by repeat constructor)) (hlk g.2.1 g.2.2)) (dd rfl) (aK ?_))
      refine aT 4 rfl vM ?_
      refine aT 5 rfl vE ?_
      refine aT 6 rfl vE ?_
      refine aS 8 rfl ti77 ?_
      refine aT 9 rfl vA ?_
      refine a_done (by kernel_rfl) ?_ _
      refine cU (MEET ((b3, g)) (trivial))
  rintro ⟨b3, bm, bn, bg⟩ -
  dsimp only [List.cons_append, List.nil_append]
  refine c_seq ?_
  refine c_held [BlkR b3 77 [fnV 99, fnC 100 bn], BlkR b1 32 [.int .i64 q.1, .int .i64 q.2.1, .int .i64 q.2.2.1, .string q.2.2.2.1, .string q.2.2.2.2.1, d, f, l], Sl (eInt .i64) d q.2.2.2.2.2.1, Sl eStr f q.2.2.2.2.2.2.1, Sl ePr l q.2.2.2.2.2.2.2, BlkR bn 75 [fnV 81]] rfl ?_
  refine aT 0 rfl vM ?_
  refine aT 1 rfl vM ?_
  refine aN 2 rfl (vF 0 Tryz.underlying77 ti29) ?_
  refine aN 3 rfl (vL lone29) ?_
  refine aN 4 rfl (vW Tryz.underlying32 ti32) ?_
  by_cases g1 : (namedP q.2.2.2.1 && (decide (q.2.2.2.2.2.2.1.length ≤ 8) && filesP ⟨#[]⟩ q.2.2.2.2.2.2.1)) = true
  · rw [g1] at hT
    refine aP 5 rfl (s_call_keep cl99 (hT) (first := []) (cap := []) rfl rfl rfl (dd rfl) (rX (by repeat constructor)) (fun _ => sX) (fun _ _ => aK ?_))
    refine aT 6 rfl vT ?_
    refine aT 7 rfl vM ?_
    refine a_know (s := 19) rfl (show _ = Value.bool true from rfl) ?_
    refine aN 8 rfl (vF 1 Tryz.underlying77 ti75) ?_
    refine aN 9 rfl (vL lone75) ?_
    refine aN 10 rfl (vW Tryz.underlying32 ti32) ?_
    refine aN 12 rfl (vF 0 Tryz.underlying32 ti3) ?_
    refine aN 13 rfl (vL lone3) ?_
    refine aN 14 rfl (v_buildS (places := [(0, 1), (1, 1), (2, 1), (3, 1), (4, 1), (5, 1), (6, 1), (7, 1)]) (cells := [_, .int .i64 0, .int .i64 0, .string ⟨#[]⟩, .string ⟨#[]⟩, .slice none 0 0, .slice none 0 0, .slice none 0 0]) Tryz.underlying32 ti32 (by kernel_rfl) rfl (by repeat (first | exact PartsC.nil | (apply PartsC.one (by first | exact OneC.lit rfl | exact OneC.sl (hX (by repeat constructor)) )) | (apply PartsC.lit rfl))) rfl) ?_
    refine aP 11 rfl (s_call_keep cl100 (hR bn) (first := []) (cap := [ptr1 bn]) rfl rfl rfl (dd rfl) (rX (by repeat constructor)) (fun _ => sX) (fun _ _ => aK ?_))
    refine aP 15 rfl (s_callf cl15 (hS) rfl (dd rfl) (pXs (by repeat constructor)) (fun _ _ => aK ?_))
    refine aT 16 rfl vT ?_
    refine aT 17 rfl vA ?_
    refine a_done (by kernel_rfl) ?_ _
    refine c_ret1 Tryz.func12 rfl rfl fun w O hS => ?_
    exact ⟨(), congrArg Value.bool (decide_eq_decide.2 (by rw [hi, g1]; simp)), trivial, trivial⟩
  · have g2 : (namedP q.2.2.2.1 && (decide (q.2.2.2.2.2.2.1.length ≤ 8) && filesP ⟨#[]⟩ q.2.2.2.2.2.2.1)) = false := Bool.eq_false_iff.2 g1
    rw [g2] at hT
    refine aP 5 rfl (s_call_keep cl99 (hT) (first := []) (cap := []) rfl rfl rfl (dd rfl) (rX (by repeat constructor)) (fun _ => sX) (fun _ _ => aK ?_))
    refine aT 6 rfl vT ?_
    refine aT 7 rfl vM ?_
    refine a_know (s := 19) rfl (show _ = Value.bool false from rfl) ?_
    refine aX 8 rfl ?_
    refine aX 9 rfl ?_
    refine aX 10 rfl ?_
    refine aX 11 rfl ?_
    refine aX 12 rfl ?_
    refine aX 13 rfl ?_
    refine aX 14 rfl ?_
    refine aX 15 rfl ?_
    refine aT 16 rfl vQ ?_
    refine aT 17 rfl vA ?_
    refine a_done (by kernel_rfl) ?_ _
    refine c_ret1 Tryz.func12 rfl rfl fun w O hS => ?_
    exact ⟨(), congrArg Value.bool (decide_eq_false (by rw [hi, g2]; simp)).symm, trivial, trivial⟩
set_option maxRecDepth 100000 in
theorem right6_con (q : Rq9) (d f l : Value) (hk : q.1 = 6) (hq : FineQ q) : Con Tryz.prog 12 [.agg #[.int .i64 q.1, .int .i64 q.2.1, .int .i64 q.2.2.1, .string q.2.2.2.1, .string q.2.2.2.2.1, d, f, l]] [Sl (eInt .i64) d q.2.2.2.2.2.1, Sl eStr f q.2.2.2.2.2.2.1, Sl ePr l q.2.2.2.2.2.2.2] (γ := Unit) (fun _ => .bool (decide (RightQ q))) (fun _ => True) (fun _ => []) := by
  have hlk : ∀ b1 b2, Go.SL.look (kindsM b1 b2) q.1 = some (.agg #[fnV 85, fnV 81]) := fun b1 b2 => by rw [hk]; exact look6 b1 b2
  have hT := tNamed_con q d f l hq.name
  have hR := rName_con q d f l
  have hi := right_iff6 hk
  have hS := sameReq_con (q.1, q.2.1, q.2.2.1, ⟨#[]⟩, q.2.2.2.2.1, q.2.2.2.2.2.1, q.2.2.2.2.2.2.1, q.2.2.2.2.2.2.2) (zeroQ q.1) (d) (f) (l) (.slice none 0 0) (.slice none 0 0) (.slice none 0 0) ⟨hq.size.1, hq.size.2.1, hq.size.2.2⟩ (zeroQ_size _)
  dsimp only at hS
  refine con_of Tryz.func12 rfl (dd rfl) fun w0 O0 => ?_
  refine c_seq (c_region ?_)
  refine o_step (s_box rfl (dd rfl) (fun b1 => ?_))
  refine oV vA ?_
  refine o_nil (c_seq ?_)
  refine c_joinR (γ := Nat × Nat × Nat × Nat) [(1, _), (2, _)] (fun _ => True) (fun g => [(3, ptr g.1), (4, .bool true)]) (fun g => [Blk g.1 77 [fnV 85, fnV 81], Blk b1 32 [.int .i64 q.1, .int .i64 q.2.1, .int .i64 q.2.2.1, .string q.2.2.2.1, .string q.2.2.2.2.1, d, f, l], Sl (eInt .i64) d q.2.2.2.2.2.1, Sl eStr f q.2.2.2.2.2.2.1, Sl ePr l q.2.2.2.2.2.2.2, Blk g.2.2.1 75 [fnV 81], Blk g.2.2.2 75 [fnV 82]]) (by repeat (first | exact trivial | refine ⟨rfl, ?_⟩)) ?_ ?_
  rotate_left
  · intro MEET
    skip
    refine c_held [BlkR b1 32 [.int .i64 q.1, .int .i64 q.2.1, .int .i64 q.2.2.1, .string q.2.2.2.1, .string q.2.2.2.2.1, d, f, l], Sl (eInt .i64) d q.2.2.2.2.2.1, Sl eStr f q.2.2.2.2.2.2.1, Sl ePr l q.2.2.2.2.2.2.2] rfl ?_
    refine aT 1 rfl (vF 0 Tryz.underlying32 ti3) ?_
    refine aT 2 rfl (vL lone3) ?_
    refine a_two 0 7 rfl rfl (by kernel_rfl) ?_ ?_
    · skip
      refine s_callf cl39 (kinds_con) rfl (dd rfl) (pXs (by repeat constructor)) (fun g _ => aK ?_)
      refine a_two 3 7 rfl rfl (by kernel_rfl) ?_ ?_
      · skip
        refine s_val (v_lookupS kInt Tryz.underlying79 Tryz.underlying3 ti77 rfl rfl (hX (by repeat constructor)) (hlk g.2.1 g.2.2)) (dd rfl) (aK ?_)
        refine aT 4 rfl vM ?_
        refine aT 5 rfl vE ?_
        refine aT 6 rfl vE ?_
        refine aO 7 rfl (s_alloc ti77 (dd rfl) (fun b3 => aK ?_))
        refine aS 8 rfl ti77 ?_
        refine aT 9 rfl vA ?_
        refine a_done (by kernel_rfl) ?_ _
        refine cU (MEET ((b3, g)) (trivial))
      · skip
        refine s_alloc ti77 (dd rfl) (fun b3 => aK ?_)
        refine aO 3 rfl (s_val (v_lookupS kInt Tryz.underlying79 Tryz.underlying3 ti77 rfl rfl (hX (by repeat constructor)) (hlk g.2.1 g.2.2)) (dd rfl) (aK ?_))
        refine aT 4 rfl vM ?_
        refine aT 5 rfl vE ?_
        refine aT 6 rfl vE ?_
        refine aS 8 rfl ti77 ?_
        refine aT 9 rfl vA ?_
        refine a_done (by kernel_rfl) ?_ _
        refine cU (MEET ((b3, g)) (trivial))
    · skip
      refine s_alloc ti77 (dd rfl) (fun b3 => aK ?_)
      refine aO 0 rfl (s_callf cl39 (kinds_con) rfl (dd rfl) (pXs (by repeat constructor)) (fun g _ => aK ?_))
      refine aO 3 rfl (s_val (v_lookupS kInt Tryz.underlying79 Tryz.underlying3 ti77 rfl rfl (hX (by repeat constructor)) (hlk g.2.1 g.2.2)) (dd rfl) (aK ?_))
      refine aT 4 rfl vM ?_
      refine aT 5 rfl vE ?_
      refine aT 6 rfl vE ?_
      refine aS 8 rfl ti77 ?_
      refine aT 9 rfl vA ?_
      refine a_done (by kernel_rfl) ?_ _
      refine cU (MEET ((b3, g)) (trivial))
  rintro ⟨b3, bm, bn, bg⟩ -
  dsimp only [List.cons_append, List.nil_append]
  refine c_seq ?_
  refine c_held [BlkR b3 77 [fnV 85, fnV 81], BlkR b1 32 [.int .i64 q.1, .int .i64 q.2.1, .int .i64 q.2.2.1, .string q.2.2.2.1, .string q.2.2.2.2.1, d, f, l], Sl (eInt .i64) d q.2.2.2.2.2.1, Sl eStr f q.2.2.2.2.2.2.1, Sl ePr l q.2.2.2.2.2.2.2] rfl ?_
  refine aT 0 rfl vM ?_
  refine aT 1 rfl vM ?_
  refine aN 2 rfl (vF 0 Tryz.underlying77 ti29) ?_
  refine aN 3 rfl (vL lone29) ?_
  refine aN 4 rfl (vW Tryz.underlying32 ti32) ?_
  by_cases g1 : (namedP q.2.2.2.1) = true
  · rw [g1] at hT
    refine aP 5 rfl (s_call_keep cl85 (hT) (first := []) (cap := []) rfl rfl rfl (dd rfl) (rX (by repeat constructor)) (fun _ => sX) (fun _ _ => aK ?_))
    refine aT 6 rfl vT ?_
    refine aT 7 rfl vM ?_
    refine a_know (s := 19) rfl (show _ = Value.bool true from rfl) ?_
    refine aN 8 rfl (vF 1 Tryz.underlying77 ti75) ?_
    refine aN 9 rfl (vL lone75) ?_
    refine aN 10 rfl (vW Tryz.underlying32 ti32) ?_
    refine aN 12 rfl (vF 0 Tryz.underlying32 ti3) ?_
    refine aN 13 rfl (vL lone3) ?_
    refine aN 14 rfl (v_buildS (places := [(0, 1), (1, 1), (2, 1), (3, 1), (4, 1), (5, 1), (6, 1), (7, 1)]) (cells := [_, .int .i64 0, .int .i64 0, .string ⟨#[]⟩, .string ⟨#[]⟩, .slice none 0 0, .slice none 0 0, .slice none 0 0]) Tryz.underlying32 ti32 (by kernel_rfl) rfl (by repeat (first | exact PartsC.nil | (apply PartsC.one (by first | exact OneC.lit rfl | exact OneC.sl (hX (by repeat constructor)) )) | (apply PartsC.lit rfl))) rfl) ?_
    refine aP 11 rfl (s_call_keep cl81 (hR) (first := []) (cap := []) rfl rfl rfl (dd rfl) (rX (by repeat constructor)) (fun _ => sX) (fun _ _ => aK ?_))
    refine aP 15 rfl (s_callf cl15 (hS) rfl (dd rfl) (pXs (by repeat constructor)) (fun _ _ => aK ?_))
    refine aT 16 rfl vT ?_
    refine aT 17 rfl vA ?_
    refine a_done (by kernel_rfl) ?_ _
    refine c_ret1 Tryz.func12 rfl rfl fun w O hS => ?_
    exact ⟨(), congrArg Value.bool (decide_eq_decide.2 (by rw [hi, g1]; simp)), trivial, trivial⟩
  · have g2 : (namedP q.2.2.2.1) = false := Bool.eq_false_iff.2 g1
    rw [g2] at hT
    refine aP 5 rfl (s_call_keep cl85 (hT) (first := []) (cap := []) rfl rfl rfl (dd rfl) (rX (by repeat constructor)) (fun _ => sX) (fun _ _ => aK ?_))
    refine aT 6 rfl vT ?_
    refine aT 7 rfl vM ?_
    refine a_know (s := 19) rfl (show _ = Value.bool false from rfl) ?_
    refine aX 8 rfl ?_
    refine aX 9 rfl ?_
    refine aX 10 rfl ?_
    refine aX 11 rfl ?_
    refine aX 12 rfl ?_
    refine aX 13 rfl ?_
    refine aX 14 rfl ?_
    refine aX 15 rfl ?_
    refine aT 16 rfl vQ ?_
    refine aT 17 rfl vA ?_
    refine a_done (by kernel_rfl) ?_ _
    refine c_ret1 Tryz.func12 rfl rfl fun w O hS => ?_
    exact ⟨(), congrArg Value.bool (decide_eq_false (by rw [hi, g2]; simp)).symm, trivial, trivial⟩
set_option maxRecDepth 100000 in
theorem right7_con (q : Rq9) (d f l : Value) (hk : q.1 = 7) (hq : FineQ q) : Con Tryz.prog 12 [.agg #[.int .i64 q.1, .int .i64 q.2.1, .int .i64 q.2.2.1, .string q.2.2.2.1, .string q.2.2.2.2.1, d, f, l]] [Sl (eInt .i64) d q.2.2.2.2.2.1, Sl eStr f q.2.2.2.2.2.2.1, Sl ePr l q.2.2.2.2.2.2.2] (γ := Unit) (fun _ => .bool (decide (RightQ q))) (fun _ => True) (fun _ => []) := by
  have hlk : ∀ b1 b2, Go.SL.look (kindsM b1 b2) q.1 = some (.agg #[fnV 83, fnV 84]) := fun b1 b2 => by rw [hk]; exact look7 b1 b2
  have hT := tNone_con q d f l
  have hR := rNone_con q d f l
  have hi := right_iff7 hk
  have hS := sameReq_con (q.1, q.2.1, q.2.2.1, q.2.2.2.1, q.2.2.2.2.1, q.2.2.2.2.2.1, q.2.2.2.2.2.2.1, q.2.2.2.2.2.2.2) (zeroQ q.1) (d) (f) (l) (.slice none 0 0) (.slice none 0 0) (.slice none 0 0) ⟨hq.size.1, hq.size.2.1, hq.size.2.2⟩ (zeroQ_size _)
  dsimp only at hS
  refine con_of Tryz.func12 rfl (dd rfl) fun w0 O0 => ?_
  refine c_seq (c_region ?_)
  refine o_step (s_box rfl (dd rfl) (fun b1 => ?_))
  refine oV vA ?_
  refine o_nil (c_seq ?_)
  refine c_joinR (γ := Nat × Nat × Nat × Nat) [(1, _), (2, _)] (fun _ => True) (fun g => [(3, ptr g.1), (4, .bool true)]) (fun g => [Blk g.1 77 [fnV 83, fnV 84], Blk b1 32 [.int .i64 q.1, .int .i64 q.2.1, .int .i64 q.2.2.1, .string q.2.2.2.1, .string q.2.2.2.2.1, d, f, l], Sl (eInt .i64) d q.2.2.2.2.2.1, Sl eStr f q.2.2.2.2.2.2.1, Sl ePr l q.2.2.2.2.2.2.2, Blk g.2.2.1 75 [fnV 81], Blk g.2.2.2 75 [fnV 82]]) (by repeat (first | exact trivial | refine ⟨rfl, ?_⟩)) ?_ ?_
  rotate_left
  · intro MEET
    skip
    refine c_held [BlkR b1 32 [.int .i64 q.1, .int .i64 q.2.1, .int .i64 q.2.2.1, .string q.2.2.2.1, .string q.2.2.2.2.1, d, f, l], Sl (eInt .i64) d q.2.2.2.2.2.1, Sl eStr f q.2.2.2.2.2.2.1, Sl ePr l q.2.2.2.2.2.2.2] rfl ?_
    refine aT 1 rfl (vF 0 Tryz.underlying32 ti3) ?_
    refine aT 2 rfl (vL lone3) ?_
    refine a_two 0 7 rfl rfl (by kernel_rfl) ?_ ?_
    · skip
      refine s_callf cl39 (kinds_con) rfl (dd rfl) (pXs (by repeat constructor)) (fun g _ => aK ?_)
      refine a_two 3 7 rfl rfl (by kernel_rfl) ?_ ?_
      · skip
        refine s_val (v_lookupS kInt Tryz.underlying79 Tryz.underlying3 ti77 rfl rfl (hX (by repeat constructor)) (hlk g.2.1 g.2.2)) (dd rfl) (aK ?_)
        refine aT 4 rfl vM ?_
        refine aT 5 rfl vE ?_
        refine aT 6 rfl vE ?_
        refine aO 7 rfl (s_alloc ti77 (dd rfl) (fun b3 => aK ?_))
        refine aS 8 rfl ti77 ?_
        refine aT 9 rfl vA ?_
        refine a_done (by kernel_rfl) ?_ _
        refine cU (MEET ((b3, g)) (trivial))
      · skip
        refine s_alloc ti77 (dd rfl) (fun b3 => aK ?_)
        refine aO 3 rfl (s_val (v_lookupS kInt Tryz.underlying79 Tryz.underlying3 ti77 rfl rfl (hX (by repeat constructor)) (hlk g.2.1 g.2.2)) (dd rfl) (aK ?_))
        refine aT 4 rfl vM ?_
        refine aT 5 rfl vE ?_
        refine aT 6 rfl vE ?_
        refine aS 8 rfl ti77 ?_
        refine aT 9 rfl vA ?_
        refine a_done (by kernel_rfl) ?_ _
        refine cU (MEET ((b3, g)) (trivial))
    · skip
      refine s_alloc ti77 (dd rfl) (fun b3 => aK ?_)
      refine aO 0 rfl (s_callf cl39 (kinds_con) rfl (dd rfl) (pXs (by repeat constructor)) (fun g _ => aK ?_))
      refine aO 3 rfl (s_val (v_lookupS kInt Tryz.underlying79 Tryz.underlying3 ti77 rfl rfl (hX (by repeat constructor)) (hlk g.2.1 g.2.2)) (dd rfl) (aK ?_))
      refine aT 4 rfl vM ?_
      refine aT 5 rfl vE ?_
      refine aT 6 rfl vE ?_
      refine aS 8 rfl ti77 ?_
      refine aT 9 rfl vA ?_
      refine a_done (by kernel_rfl) ?_ _
      refine cU (MEET ((b3, g)) (trivial))
  rintro ⟨b3, bm, bn, bg⟩ -
  dsimp only [List.cons_append, List.nil_append]
  refine c_seq ?_
  refine c_held [BlkR b3 77 [fnV 83, fnV 84], BlkR b1 32 [.int .i64 q.1, .int .i64 q.2.1, .int .i64 q.2.2.1, .string q.2.2.2.1, .string q.2.2.2.2.1, d, f, l], Sl (eInt .i64) d q.2.2.2.2.2.1, Sl eStr f q.2.2.2.2.2.2.1, Sl ePr l q.2.2.2.2.2.2.2] rfl ?_
  refine aT 0 rfl vM ?_
  refine aT 1 rfl vM ?_
  refine aN 2 rfl (vF 0 Tryz.underlying77 ti29) ?_
  refine aN 3 rfl (vL lone29) ?_
  refine aN 4 rfl (vW Tryz.underlying32 ti32) ?_
  refine aP 5 rfl (s_call_keep cl83 (hT) (first := []) (cap := []) rfl rfl rfl (dd rfl) (rX (by repeat constructor)) (fun _ => sX) (fun _ _ => aK ?_))
  refine aT 6 rfl vT ?_
  refine aT 7 rfl vM ?_
  refine a_know (s := 19) rfl (show _ = Value.bool true from rfl) ?_
  refine aN 8 rfl (vF 1 Tryz.underlying77 ti75) ?_
  refine aN 9 rfl (vL lone75) ?_
  refine aN 10 rfl (vW Tryz.underlying32 ti32) ?_
  refine aN 12 rfl (vF 0 Tryz.underlying32 ti3) ?_
  refine aN 13 rfl (vL lone3) ?_
  refine aN 14 rfl (v_buildS (places := [(0, 1), (1, 1), (2, 1), (3, 1), (4, 1), (5, 1), (6, 1), (7, 1)]) (cells := [_, .int .i64 0, .int .i64 0, .string ⟨#[]⟩, .string ⟨#[]⟩, .slice none 0 0, .slice none 0 0, .slice none 0 0]) Tryz.underlying32 ti32 (by kernel_rfl) rfl (by repeat (first | exact PartsC.nil | (apply PartsC.one (by first | exact OneC.lit rfl | exact OneC.sl (hX (by repeat constructor)) )) | (apply PartsC.lit rfl))) rfl) ?_
  refine aP 11 rfl (s_call_keep cl84 (hR) (first := []) (cap := []) rfl rfl rfl (dd rfl) (rX (by repeat constructor)) (fun _ => sX) (fun _ _ => aK ?_))
  refine aP 15 rfl (s_callf cl15 (hS) rfl (dd rfl) (pXs (by repeat constructor)) (fun _ _ => aK ?_))
  refine aT 16 rfl vT ?_
  refine aT 17 rfl vA ?_
  refine a_done (by kernel_rfl) ?_ _
  refine c_ret1 Tryz.func12 rfl rfl fun w O hS => ?_
  exact ⟨(), congrArg Value.bool (decide_eq_decide.2 (by rw [hi]; simp)), trivial, trivial⟩
set_option maxRecDepth 100000 in
theorem right8_con (q : Rq9) (d f l : Value) (hk : q.1 = 8) (hq : FineQ q) : Con Tryz.prog 12 [.agg #[.int .i64 q.1, .int .i64 q.2.1, .int .i64 q.2.2.1, .string q.2.2.2.1, .string q.2.2.2.2.1, d, f, l]] [Sl (eInt .i64) d q.2.2.2.2.2.1, Sl eStr f q.2.2.2.2.2.2.1, Sl ePr l q.2.2.2.2.2.2.2] (γ := Unit) (fun _ => .bool (decide (RightQ q))) (fun _ => True) (fun _ => []) := by
  have hlk : ∀ b1 b2, Go.SL.look (kindsM b1 b2) q.1 = some (.agg #[fnV 83, fnV 84]) := fun b1 b2 => by rw [hk]; exact look8 b1 b2
  have hT := tNone_con q d f l
  have hR := rNone_con q d f l
  have hi := right_iff8 hk
  have hS := sameReq_con (q.1, q.2.1, q.2.2.1, q.2.2.2.1, q.2.2.2.2.1, q.2.2.2.2.2.1, q.2.2.2.2.2.2.1, q.2.2.2.2.2.2.2) (zeroQ q.1) (d) (f) (l) (.slice none 0 0) (.slice none 0 0) (.slice none 0 0) ⟨hq.size.1, hq.size.2.1, hq.size.2.2⟩ (zeroQ_size _)
  dsimp only at hS
  refine con_of Tryz.func12 rfl (dd rfl) fun w0 O0 => ?_
  refine c_seq (c_region ?_)
  refine o_step (s_box rfl (dd rfl) (fun b1 => ?_))
  refine oV vA ?_
  refine o_nil (c_seq ?_)
  refine c_joinR (γ := Nat × Nat × Nat × Nat) [(1, _), (2, _)] (fun _ => True) (fun g => [(3, ptr g.1), (4, .bool true)]) (fun g => [Blk g.1 77 [fnV 83, fnV 84], Blk b1 32 [.int .i64 q.1, .int .i64 q.2.1, .int .i64 q.2.2.1, .string q.2.2.2.1, .string q.2.2.2.2.1, d, f, l], Sl (eInt .i64) d q.2.2.2.2.2.1, Sl eStr f q.2.2.2.2.2.2.1, Sl ePr l q.2.2.2.2.2.2.2, Blk g.2.2.1 75 [fnV 81], Blk g.2.2.2 75 [fnV 82]]) (by repeat (first | exact trivial | refine ⟨rfl, ?_⟩)) ?_ ?_
  rotate_left
  · intro MEET
    skip
    refine c_held [BlkR b1 32 [.int .i64 q.1, .int .i64 q.2.1, .int .i64 q.2.2.1, .string q.2.2.2.1, .string q.2.2.2.2.1, d, f, l], Sl (eInt .i64) d q.2.2.2.2.2.1, Sl eStr f q.2.2.2.2.2.2.1, Sl ePr l q.2.2.2.2.2.2.2] rfl ?_
    refine aT 1 rfl (vF 0 Tryz.underlying32 ti3) ?_
    refine aT 2 rfl (vL lone3) ?_
    refine a_two 0 7 rfl rfl (by kernel_rfl) ?_ ?_
    · skip
      refine s_callf cl39 (kinds_con) rfl (dd rfl) (pXs (by repeat constructor)) (fun g _ => aK ?_)
      refine a_two 3 7 rfl rfl (by kernel_rfl) ?_ ?_
      · skip
        refine s_val (v_lookupS kInt Tryz.underlying79 Tryz.underlying3 ti77 rfl rfl (hX (by repeat constructor)) (hlk g.2.1 g.2.2)) (dd rfl) (aK ?_)
        refine aT 4 rfl vM ?_
        refine aT 5 rfl vE ?_
        refine aT 6 rfl vE ?_
        refine aO 7 rfl (s_alloc ti77 (dd rfl) (fun b3 => aK ?_))
        refine aS 8 rfl ti77 ?_
        refine aT 9 rfl vA ?_
        refine a_done (by kernel_rfl) ?_ _
        refine cU (MEET ((b3, g)) (trivial))
      · skip
        refine s_alloc ti77 (dd rfl) (fun b3 => aK ?_)
        refine aO 3 rfl (s_val (v_lookupS kInt Tryz.underlying79 Tryz.underlying3 ti77 rfl rfl (hX (by repeat constructor)) (hlk g.2.1 g.2.2)) (dd rfl) (aK ?_))
        refine aT 4 rfl vM ?_
        refine aT 5 rfl vE ?_
        refine aT 6 rfl vE ?_
        refine aS 8 rfl ti77 ?_
        refine aT 9 rfl vA ?_
        refine a_done (by kernel_rfl) ?_ _
        refine cU (MEET ((b3, g)) (trivial))
    · skip
      refine s_alloc ti77 (dd rfl) (fun b3 => aK ?_)
      refine aO 0 rfl (s_callf cl39 (kinds_con) rfl (dd rfl) (pXs (by repeat constructor)) (fun g _ => aK ?_))
      refine aO 3 rfl (s_val (v_lookupS kInt Tryz.underlying79 Tryz.underlying3 ti77 rfl rfl (hX (by repeat constructor)) (hlk g.2.1 g.2.2)) (dd rfl) (aK ?_))
      refine aT 4 rfl vM ?_
      refine aT 5 rfl vE ?_
      refine aT 6 rfl vE ?_
      refine aS 8 rfl ti77 ?_
      refine aT 9 rfl vA ?_
      refine a_done (by kernel_rfl) ?_ _
      refine cU (MEET ((b3, g)) (trivial))
  rintro ⟨b3, bm, bn, bg⟩ -
  dsimp only [List.cons_append, List.nil_append]
  refine c_seq ?_
  refine c_held [BlkR b3 77 [fnV 83, fnV 84], BlkR b1 32 [.int .i64 q.1, .int .i64 q.2.1, .int .i64 q.2.2.1, .string q.2.2.2.1, .string q.2.2.2.2.1, d, f, l], Sl (eInt .i64) d q.2.2.2.2.2.1, Sl eStr f q.2.2.2.2.2.2.1, Sl ePr l q.2.2.2.2.2.2.2] rfl ?_
  refine aT 0 rfl vM ?_
  refine aT 1 rfl vM ?_
  refine aN 2 rfl (vF 0 Tryz.underlying77 ti29) ?_
  refine aN 3 rfl (vL lone29) ?_
  refine aN 4 rfl (vW Tryz.underlying32 ti32) ?_
  refine aP 5 rfl (s_call_keep cl83 (hT) (first := []) (cap := []) rfl rfl rfl (dd rfl) (rX (by repeat constructor)) (fun _ => sX) (fun _ _ => aK ?_))
  refine aT 6 rfl vT ?_
  refine aT 7 rfl vM ?_
  refine a_know (s := 19) rfl (show _ = Value.bool true from rfl) ?_
  refine aN 8 rfl (vF 1 Tryz.underlying77 ti75) ?_
  refine aN 9 rfl (vL lone75) ?_
  refine aN 10 rfl (vW Tryz.underlying32 ti32) ?_
  refine aN 12 rfl (vF 0 Tryz.underlying32 ti3) ?_
  refine aN 13 rfl (vL lone3) ?_
  refine aN 14 rfl (v_buildS (places := [(0, 1), (1, 1), (2, 1), (3, 1), (4, 1), (5, 1), (6, 1), (7, 1)]) (cells := [_, .int .i64 0, .int .i64 0, .string ⟨#[]⟩, .string ⟨#[]⟩, .slice none 0 0, .slice none 0 0, .slice none 0 0]) Tryz.underlying32 ti32 (by kernel_rfl) rfl (by repeat (first | exact PartsC.nil | (apply PartsC.one (by first | exact OneC.lit rfl | exact OneC.sl (hX (by repeat constructor)) )) | (apply PartsC.lit rfl))) rfl) ?_
  refine aP 11 rfl (s_call_keep cl84 (hR) (first := []) (cap := []) rfl rfl rfl (dd rfl) (rX (by repeat constructor)) (fun _ => sX) (fun _ _ => aK ?_))
  refine aP 15 rfl (s_callf cl15 (hS) rfl (dd rfl) (pXs (by repeat constructor)) (fun _ _ => aK ?_))
  refine aT 16 rfl vT ?_
  refine aT 17 rfl vA ?_
  refine a_done (by kernel_rfl) ?_ _
  refine c_ret1 Tryz.func12 rfl rfl fun w O hS => ?_
  exact ⟨(), congrArg Value.bool (decide_eq_decide.2 (by rw [hi]; simp)), trivial, trivial⟩
set_option maxRecDepth 100000 in
theorem right9_con (q : Rq9) (d f l : Value) (hk : q.1 = 9) (hq : FineQ q) : Con Tryz.prog 12 [.agg #[.int .i64 q.1, .int .i64 q.2.1, .int .i64 q.2.2.1, .string q.2.2.2.1, .string q.2.2.2.2.1, d, f, l]] [Sl (eInt .i64) d q.2.2.2.2.2.1, Sl eStr f q.2.2.2.2.2.2.1, Sl ePr l q.2.2.2.2.2.2.2] (γ := Unit) (fun _ => .bool (decide (RightQ q))) (fun _ => True) (fun _ => []) := by
  have hlk : ∀ b1 b2, Go.SL.look (kindsM b1 b2) q.1 = some (.agg #[fnV 85, fnV 81]) := fun b1 b2 => by rw [hk]; exact look9 b1 b2
  have hT := tNamed_con q d f l hq.name
  have hR := rName_con q d f l
  have hi := right_iff9 hk
  have hS := sameReq_con (q.1, q.2.1, q.2.2.1, ⟨#[]⟩, q.2.2.2.2.1, q.2.2.2.2.2.1, q.2.2.2.2.2.2.1, q.2.2.2.2.2.2.2) (zeroQ q.1) (d) (f) (l) (.slice none 0 0) (.slice none 0 0) (.slice none 0 0) ⟨hq.size.1, hq.size.2.1, hq.size.2.2⟩ (zeroQ_size _)
  dsimp only at hS
  refine con_of Tryz.func12 rfl (dd rfl) fun w0 O0 => ?_
  refine c_seq (c_region ?_)
  refine o_step (s_box rfl (dd rfl) (fun b1 => ?_))
  refine oV vA ?_
  refine o_nil (c_seq ?_)
  refine c_joinR (γ := Nat × Nat × Nat × Nat) [(1, _), (2, _)] (fun _ => True) (fun g => [(3, ptr g.1), (4, .bool true)]) (fun g => [Blk g.1 77 [fnV 85, fnV 81], Blk b1 32 [.int .i64 q.1, .int .i64 q.2.1, .int .i64 q.2.2.1, .string q.2.2.2.1, .string q.2.2.2.2.1, d, f, l], Sl (eInt .i64) d q.2.2.2.2.2.1, Sl eStr f q.2.2.2.2.2.2.1, Sl ePr l q.2.2.2.2.2.2.2, Blk g.2.2.1 75 [fnV 81], Blk g.2.2.2 75 [fnV 82]]) (by repeat (first | exact trivial | refine ⟨rfl, ?_⟩)) ?_ ?_
  rotate_left
  · intro MEET
    skip
    refine c_held [BlkR b1 32 [.int .i64 q.1, .int .i64 q.2.1, .int .i64 q.2.2.1, .string q.2.2.2.1, .string q.2.2.2.2.1, d, f, l], Sl (eInt .i64) d q.2.2.2.2.2.1, Sl eStr f q.2.2.2.2.2.2.1, Sl ePr l q.2.2.2.2.2.2.2] rfl ?_
    refine aT 1 rfl (vF 0 Tryz.underlying32 ti3) ?_
    refine aT 2 rfl (vL lone3) ?_
    refine a_two 0 7 rfl rfl (by kernel_rfl) ?_ ?_
    · skip
      refine s_callf cl39 (kinds_con) rfl (dd rfl) (pXs (by repeat constructor)) (fun g _ => aK ?_)
      refine a_two 3 7 rfl rfl (by kernel_rfl) ?_ ?_
      · skip
        refine s_val (v_lookupS kInt Tryz.underlying79 Tryz.underlying3 ti77 rfl rfl (hX (by repeat constructor)) (hlk g.2.1 g.2.2)) (dd rfl) (aK ?_)
        refine aT 4 rfl vM ?_
        refine aT 5 rfl vE ?_
        refine aT 6 rfl vE ?_
        refine aO 7 rfl (s_alloc ti77 (dd rfl) (fun b3 => aK ?_))
        refine aS 8 rfl ti77 ?_
        refine aT 9 rfl vA ?_
        refine a_done (by kernel_rfl) ?_ _
        refine cU (MEET ((b3, g)) (trivial))
      · skip
        refine s_alloc ti77 (dd rfl) (fun b3 => aK ?_)
        refine aO 3 rfl (s_val (v_lookupS kInt Tryz.underlying79 Tryz.underlying3 ti77 rfl rfl (hX (by repeat constructor)) (hlk g.2.1 g.2.2)) (dd rfl) (aK ?_))
        refine aT 4 rfl vM ?_
        refine aT 5 rfl vE ?_
        refine aT 6 rfl vE ?_
        refine aS 8 rfl ti77 ?_
        refine aT 9 rfl vA ?_
        refine a_done (by kernel_rfl) ?_ _
        refine cU (MEET ((b3, g)) (trivial))
    · skip
      refine s_alloc ti77 (dd rfl) (fun b3 => aK ?_)
      refine aO 0 rfl (s_callf cl39 (kinds_con) rfl (dd rfl) (pXs (by repeat constructor)) (fun g _ => aK ?_))
      refine aO 3 rfl (s_val (v_lookupS kInt Tryz.underlying79 Tryz.underlying3 ti77 rfl rfl (hX (by repeat constructor)) (hlk g.2.1 g.2.2)) (dd rfl) (aK ?_))
      refine aT 4 rfl vM ?_
      refine aT 5 rfl vE ?_
      refine aT 6 rfl vE ?_
      refine aS 8 rfl ti77 ?_
      refine aT 9 rfl vA ?_
      refine a_done (by kernel_rfl) ?_ _
      refine cU (MEET ((b3, g)) (trivial))
  rintro ⟨b3, bm, bn, bg⟩ -
  dsimp only [List.cons_append, List.nil_append]
  refine c_seq ?_
  refine c_held [BlkR b3 77 [fnV 85, fnV 81], BlkR b1 32 [.int .i64 q.1, .int .i64 q.2.1, .int .i64 q.2.2.1, .string q.2.2.2.1, .string q.2.2.2.2.1, d, f, l], Sl (eInt .i64) d q.2.2.2.2.2.1, Sl eStr f q.2.2.2.2.2.2.1, Sl ePr l q.2.2.2.2.2.2.2] rfl ?_
  refine aT 0 rfl vM ?_
  refine aT 1 rfl vM ?_
  refine aN 2 rfl (vF 0 Tryz.underlying77 ti29) ?_
  refine aN 3 rfl (vL lone29) ?_
  refine aN 4 rfl (vW Tryz.underlying32 ti32) ?_
  by_cases g1 : (namedP q.2.2.2.1) = true
  · rw [g1] at hT
    refine aP 5 rfl (s_call_keep cl85 (hT) (first := []) (cap := []) rfl rfl rfl (dd rfl) (rX (by repeat constructor)) (fun _ => sX) (fun _ _ => aK ?_))
    refine aT 6 rfl vT ?_
    refine aT 7 rfl vM ?_
    refine a_know (s := 19) rfl (show _ = Value.bool true from rfl) ?_
    refine aN 8 rfl (vF 1 Tryz.underlying77 ti75) ?_
    refine aN 9 rfl (vL lone75) ?_
    refine aN 10 rfl (vW Tryz.underlying32 ti32) ?_
    refine aN 12 rfl (vF 0 Tryz.underlying32 ti3) ?_
    refine aN 13 rfl (vL lone3) ?_
    refine aN 14 rfl (v_buildS (places := [(0, 1), (1, 1), (2, 1), (3, 1), (4, 1), (5, 1), (6, 1), (7, 1)]) (cells := [_, .int .i64 0, .int .i64 0, .string ⟨#[]⟩, .string ⟨#[]⟩, .slice none 0 0, .slice none 0 0, .slice none 0 0]) Tryz.underlying32 ti32 (by kernel_rfl) rfl (by repeat (first | exact PartsC.nil | (apply PartsC.one (by first | exact OneC.lit rfl | exact OneC.sl (hX (by repeat constructor)) )) | (apply PartsC.lit rfl))) rfl) ?_
    refine aP 11 rfl (s_call_keep cl81 (hR) (first := []) (cap := []) rfl rfl rfl (dd rfl) (rX (by repeat constructor)) (fun _ => sX) (fun _ _ => aK ?_))
    refine aP 15 rfl (s_callf cl15 (hS) rfl (dd rfl) (pXs (by repeat constructor)) (fun _ _ => aK ?_))
    refine aT 16 rfl vT ?_
    refine aT 17 rfl vA ?_
    refine a_done (by kernel_rfl) ?_ _
    refine c_ret1 Tryz.func12 rfl rfl fun w O hS => ?_
    exact ⟨(), congrArg Value.bool (decide_eq_decide.2 (by rw [hi, g1]; simp)), trivial, trivial⟩
  · have g2 : (namedP q.2.2.2.1) = false := Bool.eq_false_iff.2 g1
    rw [g2] at hT
    refine aP 5 rfl (s_call_keep cl85 (hT) (first := []) (cap := []) rfl rfl rfl (dd rfl) (rX (by repeat constructor)) (fun _ => sX) (fun _ _ => aK ?_))
    refine aT 6 rfl vT ?_
    refine aT 7 rfl vM ?_
    refine a_know (s := 19) rfl (show _ = Value.bool false from rfl) ?_
    refine aX 8 rfl ?_
    refine aX 9 rfl ?_
    refine aX 10 rfl ?_
    refine aX 11 rfl ?_
    refine aX 12 rfl ?_
    refine aX 13 rfl ?_
    refine aX 14 rfl ?_
    refine aX 15 rfl ?_
    refine aT 16 rfl vQ ?_
    refine aT 17 rfl vA ?_
    refine a_done (by kernel_rfl) ?_ _
    refine c_ret1 Tryz.func12 rfl rfl fun w O hS => ?_
    exact ⟨(), congrArg Value.bool (decide_eq_false (by rw [hi, g2]; simp)).symm, trivial, trivial⟩
set_option maxRecDepth 100000 in
theorem right10_con (q : Rq9) (d f l : Value) (hk : q.1 = 10) (hq : FineQ q) : Con Tryz.prog 12 [.agg #[.int .i64 q.1, .int .i64 q.2.1, .int .i64 q.2.2.1, .string q.2.2.2.1, .string q.2.2.2.2.1, d, f, l]] [Sl (eInt .i64) d q.2.2.2.2.2.1, Sl eStr f q.2.2.2.2.2.2.1, Sl ePr l q.2.2.2.2.2.2.2] (γ := Unit) (fun _ => .bool (decide (RightQ q))) (fun _ => True) (fun _ => []) := by
  have hlk : ∀ b1 b2, Go.SL.look (kindsM b1 b2) q.1 = some (.agg #[fnV 101, fnV 81]) := fun b1 b2 => by rw [hk]; exact look10 b1 b2
  have hT := tWatch_con q d f l hq.name
  have hR := rName_con q d f l
  have hi := right_iff10 hk
  have hS := sameReq_con (q.1, q.2.1, q.2.2.1, ⟨#[]⟩, q.2.2.2.2.1, q.2.2.2.2.2.1, q.2.2.2.2.2.2.1, q.2.2.2.2.2.2.2) (zeroQ q.1) (d) (f) (l) (.slice none 0 0) (.slice none 0 0) (.slice none 0 0) ⟨hq.size.1, hq.size.2.1, hq.size.2.2⟩ (zeroQ_size _)
  dsimp only at hS
  refine con_of Tryz.func12 rfl (dd rfl) fun w0 O0 => ?_
  refine c_seq (c_region ?_)
  refine o_step (s_box rfl (dd rfl) (fun b1 => ?_))
  refine oV vA ?_
  refine o_nil (c_seq ?_)
  refine c_joinR (γ := Nat × Nat × Nat × Nat) [(1, _), (2, _)] (fun _ => True) (fun g => [(3, ptr g.1), (4, .bool true)]) (fun g => [Blk g.1 77 [fnV 101, fnV 81], Blk b1 32 [.int .i64 q.1, .int .i64 q.2.1, .int .i64 q.2.2.1, .string q.2.2.2.1, .string q.2.2.2.2.1, d, f, l], Sl (eInt .i64) d q.2.2.2.2.2.1, Sl eStr f q.2.2.2.2.2.2.1, Sl ePr l q.2.2.2.2.2.2.2, Blk g.2.2.1 75 [fnV 81], Blk g.2.2.2 75 [fnV 82]]) (by repeat (first | exact trivial | refine ⟨rfl, ?_⟩)) ?_ ?_
  rotate_left
  · intro MEET
    skip
    refine c_held [BlkR b1 32 [.int .i64 q.1, .int .i64 q.2.1, .int .i64 q.2.2.1, .string q.2.2.2.1, .string q.2.2.2.2.1, d, f, l], Sl (eInt .i64) d q.2.2.2.2.2.1, Sl eStr f q.2.2.2.2.2.2.1, Sl ePr l q.2.2.2.2.2.2.2] rfl ?_
    refine aT 1 rfl (vF 0 Tryz.underlying32 ti3) ?_
    refine aT 2 rfl (vL lone3) ?_
    refine a_two 0 7 rfl rfl (by kernel_rfl) ?_ ?_
    · skip
      refine s_callf cl39 (kinds_con) rfl (dd rfl) (pXs (by repeat constructor)) (fun g _ => aK ?_)
      refine a_two 3 7 rfl rfl (by kernel_rfl) ?_ ?_
      · skip
        refine s_val (v_lookupS kInt Tryz.underlying79 Tryz.underlying3 ti77 rfl rfl (hX (by repeat constructor)) (hlk g.2.1 g.2.2)) (dd rfl) (aK ?_)
        refine aT 4 rfl vM ?_
        refine aT 5 rfl vE ?_
        refine aT 6 rfl vE ?_
        refine aO 7 rfl (s_alloc ti77 (dd rfl) (fun b3 => aK ?_))
        refine aS 8 rfl ti77 ?_
        refine aT 9 rfl vA ?_
        refine a_done (by kernel_rfl) ?_ _
        refine cU (MEET ((b3, g)) (trivial))
      · skip
        refine s_alloc ti77 (dd rfl) (fun b3 => aK ?_)
        refine aO 3 rfl (s_val (v_lookupS kInt Tryz.underlying79 Tryz.underlying3 ti77 rfl rfl (hX (by repeat constructor)) (hlk g.2.1 g.2.2)) (dd rfl) (aK ?_))
        refine aT 4 rfl vM ?_
        refine aT 5 rfl vE ?_
        refine aT 6 rfl vE ?_
        refine aS 8 rfl ti77 ?_
        refine aT 9 rfl vA ?_
        refine a_done (by kernel_rfl) ?_ _
        refine cU (MEET ((b3, g)) (trivial))
    · skip
      refine s_alloc ti77 (dd rfl) (fun b3 => aK ?_)
      refine aO 0 rfl (s_callf cl39 (kinds_con) rfl (dd rfl) (pXs (by repeat constructor)) (fun g _ => aK ?_))
      refine aO 3 rfl (s_val (v_lookupS kInt Tryz.underlying79 Tryz.underlying3 ti77 rfl rfl (hX (by repeat constructor)) (hlk g.2.1 g.2.2)) (dd rfl) (aK ?_))
      refine aT 4 rfl vM ?_
      refine aT 5 rfl vE ?_
      refine aT 6 rfl vE ?_
      refine aS 8 rfl ti77 ?_
      refine aT 9 rfl vA ?_
      refine a_done (by kernel_rfl) ?_ _
      refine cU (MEET ((b3, g)) (trivial))
  rintro ⟨b3, bm, bn, bg⟩ -
  dsimp only [List.cons_append, List.nil_append]
  refine c_seq ?_
  refine c_held [BlkR b3 77 [fnV 101, fnV 81], BlkR b1 32 [.int .i64 q.1, .int .i64 q.2.1, .int .i64 q.2.2.1, .string q.2.2.2.1, .string q.2.2.2.2.1, d, f, l], Sl (eInt .i64) d q.2.2.2.2.2.1, Sl eStr f q.2.2.2.2.2.2.1, Sl ePr l q.2.2.2.2.2.2.2] rfl ?_
  refine aT 0 rfl vM ?_
  refine aT 1 rfl vM ?_
  refine aN 2 rfl (vF 0 Tryz.underlying77 ti29) ?_
  refine aN 3 rfl (vL lone29) ?_
  refine aN 4 rfl (vW Tryz.underlying32 ti32) ?_
  by_cases g1 : (decide (q.2.2.2.1 = ⟨#[]⟩) || namedP q.2.2.2.1) = true
  · rw [g1] at hT
    refine aP 5 rfl (s_call_keep cl101 (hT) (first := []) (cap := []) rfl rfl rfl (dd rfl) (rX (by repeat constructor)) (fun _ => sX) (fun _ _ => aK ?_))
    refine aT 6 rfl vT ?_
    refine aT 7 rfl vM ?_
    refine a_know (s := 19) rfl (show _ = Value.bool true from rfl) ?_
    refine aN 8 rfl (vF 1 Tryz.underlying77 ti75) ?_
    refine aN 9 rfl (vL lone75) ?_
    refine aN 10 rfl (vW Tryz.underlying32 ti32) ?_
    refine aN 12 rfl (vF 0 Tryz.underlying32 ti3) ?_
    refine aN 13 rfl (vL lone3) ?_
    refine aN 14 rfl (v_buildS (places := [(0, 1), (1, 1), (2, 1), (3, 1), (4, 1), (5, 1), (6, 1), (7, 1)]) (cells := [_, .int .i64 0, .int .i64 0, .string ⟨#[]⟩, .string ⟨#[]⟩, .slice none 0 0, .slice none 0 0, .slice none 0 0]) Tryz.underlying32 ti32 (by kernel_rfl) rfl (by repeat (first | exact PartsC.nil | (apply PartsC.one (by first | exact OneC.lit rfl | exact OneC.sl (hX (by repeat constructor)) )) | (apply PartsC.lit rfl))) rfl) ?_
    refine aP 11 rfl (s_call_keep cl81 (hR) (first := []) (cap := []) rfl rfl rfl (dd rfl) (rX (by repeat constructor)) (fun _ => sX) (fun _ _ => aK ?_))
    refine aP 15 rfl (s_callf cl15 (hS) rfl (dd rfl) (pXs (by repeat constructor)) (fun _ _ => aK ?_))
    refine aT 16 rfl vT ?_
    refine aT 17 rfl vA ?_
    refine a_done (by kernel_rfl) ?_ _
    refine c_ret1 Tryz.func12 rfl rfl fun w O hS => ?_
    exact ⟨(), congrArg Value.bool (decide_eq_decide.2 (by rw [hi, g1]; simp)), trivial, trivial⟩
  · have g2 : (decide (q.2.2.2.1 = ⟨#[]⟩) || namedP q.2.2.2.1) = false := Bool.eq_false_iff.2 g1
    rw [g2] at hT
    refine aP 5 rfl (s_call_keep cl101 (hT) (first := []) (cap := []) rfl rfl rfl (dd rfl) (rX (by repeat constructor)) (fun _ => sX) (fun _ _ => aK ?_))
    refine aT 6 rfl vT ?_
    refine aT 7 rfl vM ?_
    refine a_know (s := 19) rfl (show _ = Value.bool false from rfl) ?_
    refine aX 8 rfl ?_
    refine aX 9 rfl ?_
    refine aX 10 rfl ?_
    refine aX 11 rfl ?_
    refine aX 12 rfl ?_
    refine aX 13 rfl ?_
    refine aX 14 rfl ?_
    refine aX 15 rfl ?_
    refine aT 16 rfl vQ ?_
    refine aT 17 rfl vA ?_
    refine a_done (by kernel_rfl) ?_ _
    refine c_ret1 Tryz.func12 rfl rfl fun w O hS => ?_
    exact ⟨(), congrArg Value.bool (decide_eq_false (by rw [hi, g2]; simp)).symm, trivial, trivial⟩
set_option maxRecDepth 100000 in
theorem right11_con (q : Rq9) (d f l : Value) (hk : q.1 = 11) (hq : FineQ q) : Con Tryz.prog 12 [.agg #[.int .i64 q.1, .int .i64 q.2.1, .int .i64 q.2.2.1, .string q.2.2.2.1, .string q.2.2.2.2.1, d, f, l]] [Sl (eInt .i64) d q.2.2.2.2.2.1, Sl eStr f q.2.2.2.2.2.2.1, Sl ePr l q.2.2.2.2.2.2.2] (γ := Unit) (fun _ => .bool (decide (RightQ q))) (fun _ => True) (fun _ => []) := by
  have hlk : ∀ b1 b2, Go.SL.look (kindsM b1 b2) q.1 = some (.agg #[fnV 83, fnV 84]) := fun b1 b2 => by rw [hk]; exact look11 b1 b2
  have hT := tNone_con q d f l
  have hR := rNone_con q d f l
  have hi := right_iff11 hk
  have hS := sameReq_con (q.1, q.2.1, q.2.2.1, q.2.2.2.1, q.2.2.2.2.1, q.2.2.2.2.2.1, q.2.2.2.2.2.2.1, q.2.2.2.2.2.2.2) (zeroQ q.1) (d) (f) (l) (.slice none 0 0) (.slice none 0 0) (.slice none 0 0) ⟨hq.size.1, hq.size.2.1, hq.size.2.2⟩ (zeroQ_size _)
  dsimp only at hS
  refine con_of Tryz.func12 rfl (dd rfl) fun w0 O0 => ?_
  refine c_seq (c_region ?_)
  refine o_step (s_box rfl (dd rfl) (fun b1 => ?_))
  refine oV vA ?_
  refine o_nil (c_seq ?_)
  refine c_joinR (γ := Nat × Nat × Nat × Nat) [(1, _), (2, _)] (fun _ => True) (fun g => [(3, ptr g.1), (4, .bool true)]) (fun g => [Blk g.1 77 [fnV 83, fnV 84], Blk b1 32 [.int .i64 q.1, .int .i64 q.2.1, .int .i64 q.2.2.1, .string q.2.2.2.1, .string q.2.2.2.2.1, d, f, l], Sl (eInt .i64) d q.2.2.2.2.2.1, Sl eStr f q.2.2.2.2.2.2.1, Sl ePr l q.2.2.2.2.2.2.2, Blk g.2.2.1 75 [fnV 81], Blk g.2.2.2 75 [fnV 82]]) (by repeat (first | exact trivial | refine ⟨rfl, ?_⟩)) ?_ ?_
  rotate_left
  · intro MEET
    skip
    refine c_held [BlkR b1 32 [.int .i64 q.1, .int .i64 q.2.1, .int .i64 q.2.2.1, .string q.2.2.2.1, .string q.2.2.2.2.1, d, f, l], Sl (eInt .i64) d q.2.2.2.2.2.1, Sl eStr f q.2.2.2.2.2.2.1, Sl ePr l q.2.2.2.2.2.2.2] rfl ?_
    refine aT 1 rfl (vF 0 Tryz.underlying32 ti3) ?_
    refine aT 2 rfl (vL lone3) ?_
    refine a_two 0 7 rfl rfl (by kernel_rfl) ?_ ?_
    · skip
      refine s_callf cl39 (kinds_con) rfl (dd rfl) (pXs (by repeat constructor)) (fun g _ => aK ?_)
      refine a_two 3 7 rfl rfl (by kernel_rfl) ?_ ?_
      · skip
        refine s_val (v_lookupS kInt Tryz.underlying79 Tryz.underlying3 ti77 rfl rfl (hX (by repeat constructor)) (hlk g.2.1 g.2.2)) (dd rfl) (aK ?_)
        refine aT 4 rfl vM ?_
        refine aT 5 rfl vE ?_
        refine aT 6 rfl vE ?_
        refine aO 7 rfl (s_alloc ti77 (dd rfl) (fun b3 => aK ?_))
        refine aS 8 rfl ti77 ?_
        refine aT 9 rfl vA ?_
        refine a_done (by kernel_rfl) ?_ _
        refine cU (MEET ((b3, g)) (trivial))
      · skip
        refine s_alloc ti77 (dd rfl) (fun b3 => aK ?_)
        refine aO 3 rfl (s_val (v_lookupS kInt Tryz.underlying79 Tryz.underlying3 ti77 rfl rfl (hX (by repeat constructor)) (hlk g.2.1 g.2.2)) (dd rfl) (aK ?_))
        refine aT 4 rfl vM ?_
        refine aT 5 rfl vE ?_
        refine aT 6 rfl vE ?_
        refine aS 8 rfl ti77 ?_
        refine aT 9 rfl vA ?_
        refine a_done (by kernel_rfl) ?_ _
        refine cU (MEET ((b3, g)) (trivial))
    · skip
      refine s_alloc ti77 (dd rfl) (fun b3 => aK ?_)
      refine aO 0 rfl (s_callf cl39 (kinds_con) rfl (dd rfl) (pXs (by repeat constructor)) (fun g _ => aK ?_))
      refine aO 3 rfl (s_val (v_lookupS kInt Tryz.underlying79 Tryz.underlying3 ti77 rfl rfl (hX (by repeat constructor)) (hlk g.2.1 g.2.2)) (dd rfl) (aK ?_))
      refine aT 4 rfl vM ?_
      refine aT 5 rfl vE ?_
      refine aT 6 rfl vE ?_
      refine aS 8 rfl ti77 ?_
      refine aT 9 rfl vA ?_
      refine a_done (by kernel_rfl) ?_ _
      refine cU (MEET ((b3, g)) (trivial))
  rintro ⟨b3, bm, bn, bg⟩ -
  dsimp only [List.cons_append, List.nil_append]
  refine c_seq ?_
  refine c_held [BlkR b3 77 [fnV 83, fnV 84], BlkR b1 32 [.int .i64 q.1, .int .i64 q.2.1, .int .i64 q.2.2.1, .string q.2.2.2.1, .string q.2.2.2.2.1, d, f, l], Sl (eInt .i64) d q.2.2.2.2.2.1, Sl eStr f q.2.2.2.2.2.2.1, Sl ePr l q.2.2.2.2.2.2.2] rfl ?_
  refine aT 0 rfl vM ?_
  refine aT 1 rfl vM ?_
  refine aN 2 rfl (vF 0 Tryz.underlying77 ti29) ?_
  refine aN 3 rfl (vL lone29) ?_
  refine aN 4 rfl (vW Tryz.underlying32 ti32) ?_
  refine aP 5 rfl (s_call_keep cl83 (hT) (first := []) (cap := []) rfl rfl rfl (dd rfl) (rX (by repeat constructor)) (fun _ => sX) (fun _ _ => aK ?_))
  refine aT 6 rfl vT ?_
  refine aT 7 rfl vM ?_
  refine a_know (s := 19) rfl (show _ = Value.bool true from rfl) ?_
  refine aN 8 rfl (vF 1 Tryz.underlying77 ti75) ?_
  refine aN 9 rfl (vL lone75) ?_
  refine aN 10 rfl (vW Tryz.underlying32 ti32) ?_
  refine aN 12 rfl (vF 0 Tryz.underlying32 ti3) ?_
  refine aN 13 rfl (vL lone3) ?_
  refine aN 14 rfl (v_buildS (places := [(0, 1), (1, 1), (2, 1), (3, 1), (4, 1), (5, 1), (6, 1), (7, 1)]) (cells := [_, .int .i64 0, .int .i64 0, .string ⟨#[]⟩, .string ⟨#[]⟩, .slice none 0 0, .slice none 0 0, .slice none 0 0]) Tryz.underlying32 ti32 (by kernel_rfl) rfl (by repeat (first | exact PartsC.nil | (apply PartsC.one (by first | exact OneC.lit rfl | exact OneC.sl (hX (by repeat constructor)) )) | (apply PartsC.lit rfl))) rfl) ?_
  refine aP 11 rfl (s_call_keep cl84 (hR) (first := []) (cap := []) rfl rfl rfl (dd rfl) (rX (by repeat constructor)) (fun _ => sX) (fun _ _ => aK ?_))
  refine aP 15 rfl (s_callf cl15 (hS) rfl (dd rfl) (pXs (by repeat constructor)) (fun _ _ => aK ?_))
  refine aT 16 rfl vT ?_
  refine aT 17 rfl vA ?_
  refine a_done (by kernel_rfl) ?_ _
  refine c_ret1 Tryz.func12 rfl rfl fun w O hS => ?_
  exact ⟨(), congrArg Value.bool (decide_eq_decide.2 (by rw [hi]; simp)), trivial, trivial⟩
set_option maxRecDepth 100000 in
theorem right12_con (q : Rq9) (d f l : Value) (hk : q.1 = 12) (hq : FineQ q) : Con Tryz.prog 12 [.agg #[.int .i64 q.1, .int .i64 q.2.1, .int .i64 q.2.2.1, .string q.2.2.2.1, .string q.2.2.2.2.1, d, f, l]] [Sl (eInt .i64) d q.2.2.2.2.2.1, Sl eStr f q.2.2.2.2.2.2.1, Sl ePr l q.2.2.2.2.2.2.2] (γ := Unit) (fun _ => .bool (decide (RightQ q))) (fun _ => True) (fun _ => []) := by
  have hlk : ∀ b1 b2, Go.SL.look (kindsM b1 b2) q.1 = some (.agg #[fnV 102, fnV 103]) := fun b1 b2 => by rw [hk]; exact look12 b1 b2
  have hT := tTake_con q d f l
  have hR := rTake_con q d f l
  have hi := right_iff12 hk
  have hS := sameReq_con (q.1, q.2.1, 0, q.2.2.2.1, q.2.2.2.2.1, q.2.2.2.2.2.1, q.2.2.2.2.2.2.1, q.2.2.2.2.2.2.2) (zeroQ q.1) (d) (f) (l) (.slice none 0 0) (.slice none 0 0) (.slice none 0 0) ⟨hq.size.1, hq.size.2.1, hq.size.2.2⟩ (zeroQ_size _)
  dsimp only at hS
  refine con_of Tryz.func12 rfl (dd rfl) fun w0 O0 => ?_
  refine c_seq (c_region ?_)
  refine o_step (s_box rfl (dd rfl) (fun b1 => ?_))
  refine oV vA ?_
  refine o_nil (c_seq ?_)
  refine c_joinR (γ := Nat × Nat × Nat × Nat) [(1, _), (2, _)] (fun _ => True) (fun g => [(3, ptr g.1), (4, .bool true)]) (fun g => [Blk g.1 77 [fnV 102, fnV 103], Blk b1 32 [.int .i64 q.1, .int .i64 q.2.1, .int .i64 q.2.2.1, .string q.2.2.2.1, .string q.2.2.2.2.1, d, f, l], Sl (eInt .i64) d q.2.2.2.2.2.1, Sl eStr f q.2.2.2.2.2.2.1, Sl ePr l q.2.2.2.2.2.2.2, Blk g.2.2.1 75 [fnV 81], Blk g.2.2.2 75 [fnV 82]]) (by repeat (first | exact trivial | refine ⟨rfl, ?_⟩)) ?_ ?_
  rotate_left
  · intro MEET
    skip
    refine c_held [BlkR b1 32 [.int .i64 q.1, .int .i64 q.2.1, .int .i64 q.2.2.1, .string q.2.2.2.1, .string q.2.2.2.2.1, d, f, l], Sl (eInt .i64) d q.2.2.2.2.2.1, Sl eStr f q.2.2.2.2.2.2.1, Sl ePr l q.2.2.2.2.2.2.2] rfl ?_
    refine aT 1 rfl (vF 0 Tryz.underlying32 ti3) ?_
    refine aT 2 rfl (vL lone3) ?_
    refine a_two 0 7 rfl rfl (by kernel_rfl) ?_ ?_
    · skip
      refine s_callf cl39 (kinds_con) rfl (dd rfl) (pXs (by repeat constructor)) (fun g _ => aK ?_)
      refine a_two 3 7 rfl rfl (by kernel_rfl) ?_ ?_
      · skip
        refine s_val (v_lookupS kInt Tryz.underlying79 Tryz.underlying3 ti77 rfl rfl (hX (by repeat constructor)) (hlk g.2.1 g.2.2)) (dd rfl) (aK ?_)
        refine aT 4 rfl vM ?_
        refine aT 5 rfl vE ?_
        refine aT 6 rfl vE ?_
        refine aO 7 rfl (s_alloc ti77 (dd rfl) (fun b3 => aK ?_))
        refine aS 8 rfl ti77 ?_
        refine aT 9 rfl vA ?_
        refine a_done (by kernel_rfl) ?_ _
        refine cU (MEET ((b3, g)) (trivial))
      · skip
        refine s_alloc ti77 (dd rfl) (fun b3 => aK ?_)
        refine aO 3 rfl (s_val (v_lookupS kInt Tryz.underlying79 Tryz.underlying3 ti77 rfl rfl (hX (by repeat constructor)) (hlk g.2.1 g.2.2)) (dd rfl) (aK ?_))
        refine aT 4 rfl vM ?_
        refine aT 5 rfl vE ?_
        refine aT 6 rfl vE ?_
        refine aS 8 rfl ti77 ?_
        refine aT 9 rfl vA ?_
        refine a_done (by kernel_rfl) ?_ _
        refine cU (MEET ((b3, g)) (trivial))
    · skip
      refine s_alloc ti77 (dd rfl) (fun b3 => aK ?_)
      refine aO 0 rfl (s_callf cl39 (kinds_con) rfl (dd rfl) (pXs (by repeat constructor)) (fun g _ => aK ?_))
      refine aO 3 rfl (s_val (v_lookupS kInt Tryz.underlying79 Tryz.underlying3 ti77 rfl rfl (hX (by repeat constructor)) (hlk g.2.1 g.2.2)) (dd rfl) (aK ?_))
      refine aT 4 rfl vM ?_
      refine aT 5 rfl vE ?_
      refine aT 6 rfl vE ?_
      refine aS 8 rfl ti77 ?_
      refine aT 9 rfl vA ?_
      refine a_done (by kernel_rfl) ?_ _
      refine cU (MEET ((b3, g)) (trivial))
  rintro ⟨b3, bm, bn, bg⟩ -
  dsimp only [List.cons_append, List.nil_append]
  refine c_seq ?_
  refine c_held [BlkR b3 77 [fnV 102, fnV 103], BlkR b1 32 [.int .i64 q.1, .int .i64 q.2.1, .int .i64 q.2.2.1, .string q.2.2.2.1, .string q.2.2.2.2.1, d, f, l], Sl (eInt .i64) d q.2.2.2.2.2.1, Sl eStr f q.2.2.2.2.2.2.1, Sl ePr l q.2.2.2.2.2.2.2] rfl ?_
  refine aT 0 rfl vM ?_
  refine aT 1 rfl vM ?_
  refine aN 2 rfl (vF 0 Tryz.underlying77 ti29) ?_
  refine aN 3 rfl (vL lone29) ?_
  refine aN 4 rfl (vW Tryz.underlying32 ti32) ?_
  by_cases g1 : (decide (0 ≤ q.2.2.1 ∧ q.2.2.1 ≤ 100)) = true
  · rw [g1] at hT
    refine aP 5 rfl (s_call_keep cl102 (hT) (first := []) (cap := []) rfl rfl rfl (dd rfl) (rX (by repeat constructor)) (fun _ => sX) (fun _ _ => aK ?_))
    refine aT 6 rfl vT ?_
    refine aT 7 rfl vM ?_
    refine a_know (s := 19) rfl (show _ = Value.bool true from rfl) ?_
    refine aN 8 rfl (vF 1 Tryz.underlying77 ti75) ?_
    refine aN 9 rfl (vL lone75) ?_
    refine aN 10 rfl (vW Tryz.underlying32 ti32) ?_
    refine aN 12 rfl (vF 0 Tryz.underlying32 ti3) ?_
    refine aN 13 rfl (vL lone3) ?_
    refine aN 14 rfl (v_buildS (places := [(0, 1), (1, 1), (2, 1), (3, 1), (4, 1), (5, 1), (6, 1), (7, 1)]) (cells := [_, .int .i64 0, .int .i64 0, .string ⟨#[]⟩, .string ⟨#[]⟩, .slice none 0 0, .slice none 0 0, .slice none 0 0]) Tryz.underlying32 ti32 (by kernel_rfl) rfl (by repeat (first | exact PartsC.nil | (apply PartsC.one (by first | exact OneC.lit rfl | exact OneC.sl (hX (by repeat constructor)) )) | (apply PartsC.lit rfl))) rfl) ?_
    refine aP 11 rfl (s_call_keep cl103 (hR) (first := []) (cap := []) rfl rfl rfl (dd rfl) (rX (by repeat constructor)) (fun _ => sX) (fun _ _ => aK ?_))
    refine aP 15 rfl (s_callf cl15 (hS) rfl (dd rfl) (pXs (by repeat constructor)) (fun _ _ => aK ?_))
    refine aT 16 rfl vT ?_
    refine aT 17 rfl vA ?_
    refine a_done (by kernel_rfl) ?_ _
    refine c_ret1 Tryz.func12 rfl rfl fun w O hS => ?_
    exact ⟨(), congrArg Value.bool (decide_eq_decide.2 (by rw [hi, g1]; simp)), trivial, trivial⟩
  · have g2 : (decide (0 ≤ q.2.2.1 ∧ q.2.2.1 ≤ 100)) = false := Bool.eq_false_iff.2 g1
    rw [g2] at hT
    refine aP 5 rfl (s_call_keep cl102 (hT) (first := []) (cap := []) rfl rfl rfl (dd rfl) (rX (by repeat constructor)) (fun _ => sX) (fun _ _ => aK ?_))
    refine aT 6 rfl vT ?_
    refine aT 7 rfl vM ?_
    refine a_know (s := 19) rfl (show _ = Value.bool false from rfl) ?_
    refine aX 8 rfl ?_
    refine aX 9 rfl ?_
    refine aX 10 rfl ?_
    refine aX 11 rfl ?_
    refine aX 12 rfl ?_
    refine aX 13 rfl ?_
    refine aX 14 rfl ?_
    refine aX 15 rfl ?_
    refine aT 16 rfl vQ ?_
    refine aT 17 rfl vA ?_
    refine a_done (by kernel_rfl) ?_ _
    refine c_ret1 Tryz.func12 rfl rfl fun w O hS => ?_
    exact ⟨(), congrArg Value.bool (decide_eq_false (by rw [hi, g2]; simp)).symm, trivial, trivial⟩
set_option maxRecDepth 100000 in
theorem rightN_con (q : Rq9) (d f l : Value) (hk : q.1 < 0 ∨ 12 < q.1) : Con Tryz.prog 12 [.agg #[.int .i64 q.1, .int .i64 q.2.1, .int .i64 q.2.2.1, .string q.2.2.2.1, .string q.2.2.2.2.1, d, f, l]] [Sl (eInt .i64) d q.2.2.2.2.2.1, Sl eStr f q.2.2.2.2.2.2.1, Sl ePr l q.2.2.2.2.2.2.2] (γ := Unit) (fun _ => .bool (decide (RightQ q))) (fun _ => True) (fun _ => []) := by
  have hlk : ∀ b1 b2, Go.SL.look (kindsM b1 b2) q.1 = none := fun b1 b2 => lookN b1 b2 hk
  refine con_of Tryz.func12 rfl (dd rfl) fun w0 O0 => ?_
  refine c_seq (c_region ?_)
  refine o_step (s_box rfl (dd rfl) (fun b1 => ?_))
  refine oV vA ?_
  refine o_nil (c_seq ?_)
  refine c_joinR (γ := Unit) [(1, _), (2, _)] (fun _ => True) (fun g => [(4, .bool false)]) (fun g => [Blk b1 32 [.int .i64 q.1, .int .i64 q.2.1, .int .i64 q.2.2.1, .string q.2.2.2.1, .string q.2.2.2.2.1, d, f, l]]) (by repeat (first | exact trivial | refine ⟨rfl, ?_⟩)) ?_ ?_
  rotate_left
  · intro MEET
    skip
    refine c_held [BlkR b1 32 [.int .i64 q.1, .int .i64 q.2.1, .int .i64 q.2.2.1, .string q.2.2.2.1, .string q.2.2.2.2.1, d, f, l], Sl (eInt .i64) d q.2.2.2.2.2.1, Sl eStr f q.2.2.2.2.2.2.1, Sl ePr l q.2.2.2.2.2.2.2] rfl ?_
    refine aT 1 rfl (vF 0 Tryz.underlying32 ti3) ?_
    refine aT 2 rfl (vL lone3) ?_
    refine a_two 0 7 rfl rfl (by kernel_rfl) ?_ ?_
    · skip
      refine s_callf cl39 (kinds_con) rfl (dd rfl) (pXs (by repeat constructor)) (fun g _ => aK ?_)
      refine a_two 3 7 rfl rfl (by kernel_rfl) ?_ ?_
      · skip
        refine s_val (v_lookupN kInt Tryz.underlying79 Tryz.underlying3 ti77 rfl rfl (hX (by repeat constructor)) (hlk g.2.1 g.2.2)) (dd rfl) (aK ?_)
        refine aT 4 rfl vM ?_
        refine aT 5 rfl vE ?_
        refine aT 6 rfl vE ?_
        refine aO 7 rfl (s_alloc ti77 (dd rfl) (fun b3 => aK ?_))
        refine aS 8 rfl ti77 ?_
        refine aT 9 rfl vA ?_
        refine a_done (by kernel_rfl) ?_ _
        refine cU (MEET (()) (trivial))
      · skip
        refine s_alloc ti77 (dd rfl) (fun b3 => aK ?_)
        refine aO 3 rfl (s_val (v_lookupN kInt Tryz.underlying79 Tryz.underlying3 ti77 rfl rfl (hX (by repeat constructor)) (hlk g.2.1 g.2.2)) (dd rfl) (aK ?_))
        refine aT 4 rfl vM ?_
        refine aT 5 rfl vE ?_
        refine aT 6 rfl vE ?_
        refine aS 8 rfl ti77 ?_
        refine aT 9 rfl vA ?_
        refine a_done (by kernel_rfl) ?_ _
        refine cU (MEET (()) (trivial))
    · skip
      refine s_alloc ti77 (dd rfl) (fun b3 => aK ?_)
      refine aO 0 rfl (s_callf cl39 (kinds_con) rfl (dd rfl) (pXs (by repeat constructor)) (fun g _ => aK ?_))
      refine aO 3 rfl (s_val (v_lookupN kInt Tryz.underlying79 Tryz.underlying3 ti77 rfl rfl (hX (by repeat constructor)) (hlk g.2.1 g.2.2)) (dd rfl) (aK ?_))
      refine aT 4 rfl vM ?_
      refine aT 5 rfl vE ?_
      refine aT 6 rfl vE ?_
      refine aS 8 rfl ti77 ?_
      refine aT 9 rfl vA ?_
      refine a_done (by kernel_rfl) ?_ _
      refine cU (MEET (()) (trivial))
  rintro - -
  dsimp only [List.cons_append, List.nil_append]
  refine c_seq ?_
  refine c_held [BlkR b1 32 [.int .i64 q.1, .int .i64 q.2.1, .int .i64 q.2.2.1, .string q.2.2.2.1, .string q.2.2.2.2.1, d, f, l]] rfl ?_
  refine aT 0 rfl vM ?_
  refine aT 1 rfl vM ?_
  refine aX 2 rfl ?_
  refine aX 3 rfl ?_
  refine aX 4 rfl ?_
  refine aX 5 rfl ?_
  refine aT 6 rfl vQ ?_
  refine aT 7 rfl vM ?_
  refine aX 8 rfl ?_
  refine aX 9 rfl ?_
  refine aX 10 rfl ?_
  refine aX 11 rfl ?_
  refine aX 12 rfl ?_
  refine aX 13 rfl ?_
  refine aX 14 rfl ?_
  refine aX 15 rfl ?_
  refine aT 16 rfl vQ ?_
  refine aT 17 rfl vA ?_
  refine a_done (by kernel_rfl) ?_ _
  refine c_ret1 Tryz.func12 rfl rfl fun w O hS => ?_
  exact ⟨(), congrArg Value.bool (decide_eq_false (right_none hk)).symm, trivial, trivial⟩
theorem reqRight_con (q : Rq9) (d f l : Value) (hq : FineQ q) : Con Tryz.prog 12 [.agg #[.int .i64 q.1, .int .i64 q.2.1, .int .i64 q.2.2.1, .string q.2.2.2.1, .string q.2.2.2.2.1, d, f, l]] [Sl (eInt .i64) d q.2.2.2.2.2.1, Sl eStr f q.2.2.2.2.2.2.1, Sl ePr l q.2.2.2.2.2.2.2] (γ := Unit) (fun _ => .bool (decide (RightQ q))) (fun _ => True) (fun _ => []) := by
  by_cases hn : q.1 < 0 ∨ 12 < q.1
  · exact rightN_con q d f l hn
  have h : q.1 = 0 ∨ q.1 = 1 ∨ q.1 = 2 ∨ q.1 = 3 ∨ q.1 = 4 ∨ q.1 = 5 ∨ q.1 = 6 ∨ q.1 = 7 ∨ q.1 = 8 ∨ q.1 = 9 ∨ q.1 = 10 ∨ q.1 = 11 ∨ q.1 = 12 := by omega
  rcases h with h | h | h | h | h | h | h | h | h | h | h | h | h
  · exact right0_con q d f l h hq
  · exact right1_con q d f l h hq
  · exact right2_con q d f l h hq
  · exact right3_con q d f l h hq
  · exact right4_con q d f l h hq
  · exact right5_con q d f l h hq
  · exact right6_con q d f l h hq
  · exact right7_con q d f l h hq
  · exact right8_con q d f l h hq
  · exact right9_con q d f l h hq
  · exact right10_con q d f l h hq
  · exact right11_con q d f l h hq
  · exact right12_con q d f l h hq
end Go.Proofs.YtlfehnnmpkohkaaGreatDoor
/- Chapter 16: which requests may be, as the document asks. -/
namespace Go.Proofs.YtlfehnnmpkohkaaGreatDoor
open Go Go.Lib
def needI (k : Int) : Bool := decide (k = 1 ∨ k = 2 ∨ k = 3 ∨ k = 12)
def needN (k : Int) : Bool := decide (k = 5 ∨ k = 6 ∨ k = 9 ∨ k = 10)
def needF (k : Int) : Bool := decide (k = 1 ∨ k = 2 ∨ k = 4 ∨ k = 5)
/-- What a kind needs, by the field's name. -/
def needsV (fd : ByteArray) (k : Int) : Bool :=
  if fd = ⟨#[98, 97, 115, 101]⟩ ∨ fd = ⟨#[108]⟩ then decide (k = 0) else if fd = ⟨#[110, 111, 116, 101]⟩ ∨ fd = ⟨#[100, 101, 112, 115]⟩ then decide (k = 1) else if fd = ⟨#[105, 100]⟩ then needI k else if fd = ⟨#[110, 97, 109, 101]⟩ then needN k else needF k
theorem nd_base (k : Int) : needsV ⟨#[98, 97, 115, 101]⟩ k = decide (k = 0) := rfl
theorem nd_l (k : Int) : needsV ⟨#[108]⟩ k = decide (k = 0) := rfl
theorem nd_note (k : Int) : needsV ⟨#[110, 111, 116, 101]⟩ k = decide (k = 1) := rfl
theorem nd_deps (k : Int) : needsV ⟨#[100, 101, 112, 115]⟩ k = decide (k = 1) := rfl
theorem nd_id (k : Int) : needsV ⟨#[105, 100]⟩ k = needI k := rfl
theorem nd_name (k : Int) : needsV ⟨#[110, 97, 109, 101]⟩ k = needN k := rfl
theorem nd_files (k : Int) : needsV ⟨#[102, 105, 108, 101, 115]⟩ k = needF k := rfl
def bad1 (q : Rq9) : Prop := q.1 < 0 ∨ 12 < q.1 ∨ q.2.1 < 0 ∨ 1099511627776 < q.2.1 ∨ 24 < q.2.2.2.2.2.2.2.length ∨ ¬ q.2.2.2.2.2.2.2.all rightP = true ∨ ¬ lineP q.2.2.2.2.1 = true ∨ 8 < q.2.2.2.2.2.1.length ∨ 8 < q.2.2.2.2.2.2.1.length
def bad2 (q : Rq9) : Prop := q.2.2.2.1 ≠ ⟨#[]⟩ ∧ ¬ namedP q.2.2.2.1 = true
def bad3 (q : Rq9) : Prop := (q.2.1 ≠ 0 ∧ q.1 ≠ 0) ∨ (q.2.2.1 ≠ 0 ∧ ¬ needI q.1 = true) ∨ (q.2.2.2.1 ≠ ⟨#[]⟩ ∧ ¬ needN q.1 = true) ∨ (q.2.2.2.2.1 ≠ ⟨#[]⟩ ∧ q.1 ≠ 1)
def bad4 (q : Rq9) : Prop := (0 < q.2.2.2.2.2.1.length ∧ q.1 ≠ 1) ∨ (0 < q.2.2.2.2.2.2.1.length ∧ ¬ needF q.1 = true) ∨ ¬ (0 < q.2.2.2.2.2.2.2.length ↔ q.1 = 0)
instance (q : Rq9) : Decidable (bad1 q) := by unfold bad1; infer_instance
instance (q : Rq9) : Decidable (bad2 q) := by unfold bad2; infer_instance
instance (q : Rq9) : Decidable (bad3 q) := by unfold bad3; infer_instance
instance (q : Rq9) : Decidable (bad4 q) := by unfold bad4; infer_instance
theorem named_nil : namedP ⟨#[]⟩ = false := by decide +kernel
theorem line_nil : lineP ⟨#[]⟩ = true := by decide +kernel
theorem len0 {α : Type} {l : List α} : l = [] ↔ ¬ 0 < l.length := by cases l <;> simp
theorem right_bad1 {q : Rq9} (h : bad1 q) : ¬ RightQ q := by
  obtain ⟨k, b, i, n, t, d, f, l⟩ := q
  unfold bad1 at h
  dsimp only at h
  rintro ⟨h1, h2, h3, -, h5, -⟩
  dsimp only at h1 h2 h3 h5
  have e1 : ∀ {α : Type} {l : List α}, l = [] → l.length = 0 := fun h => by rw [h]; rfl
  rcases h with h | h | h | h | h | h | h | h | h
  · omega
  · omega
  · split at h2 <;> omega
  · unfold far9 at h2; split at h2 <;> omega
  · split at h2
    · omega
    · have := e1 h2.2; omega
  · split at h2
    · exact h h2.2.2.2.2
    · rw [h2.2] at h; exact h rfl
  · split at h3
    · exact h h3.1
    · rw [h3.1] at h; exact h line_nil
  · split at h3
    · omega
    · have := e1 h3.2; omega
  · split at h5
    · omega
    · have := e1 h5; omega
theorem right_deps {q : Rq9} (h : RightQ q) : depsP q.2.2.1 0 q.2.2.2.2.2.1 = true := by
  have h3 := h.2.2.1
  split at h3
  · exact h3.2.2
  · rw [h3.2]; rfl
theorem right_files {q : Rq9} (h : RightQ q) : filesP ⟨#[]⟩ q.2.2.2.2.2.2.1 = true := by
  have h3 := h.2.2.2.2.1
  split at h3
  · exact h3.2
  · rw [h3]; rfl
theorem right_bad2 {q : Rq9} (h : bad2 q) : ¬ RightQ q := by
  rintro ⟨-, -, -, -, -, h6⟩
  obtain ⟨a, b⟩ := h
  split at h6
  · exact b h6
  split at h6
  · exact h6.elim a b
  · exact a h6
theorem right_bad3 {q : Rq9} (h : bad3 q) : ¬ RightQ q := by
  obtain ⟨k, b, i, n, t, d, f, l⟩ := q
  unfold bad3 needI needN at h
  simp only [decide_eq_true_eq] at h
  rintro ⟨h1, h2, h3, h4, -, h6⟩
  dsimp only at *
  rcases h with ⟨a, b⟩ | ⟨a, b⟩ | ⟨a, b⟩ | ⟨a, b⟩
  · rw [if_neg b] at h2; exact a h2.1
  · rw [if_neg (by omega), if_neg (by omega)] at h4; exact a h4
  · rw [if_neg (by omega), if_neg (by omega)] at h6; exact a h6
  · rw [if_neg b] at h3; exact a h3.1
theorem right_bad4 {q : Rq9} (h : bad4 q) : ¬ RightQ q := by
  obtain ⟨k, b, i, n, t, d, f, l⟩ := q
  unfold bad4 needF at h
  simp only [decide_eq_true_eq] at h
  rintro ⟨h1, h2, h3, -, h5, -⟩
  dsimp only at *
  rcases h with ⟨a, b⟩ | ⟨a, b⟩ | a
  · rw [if_neg b] at h3; exact absurd a (len0.1 h3.2)
  · rw [if_neg (by omega)] at h5; exact absurd a (len0.1 h5)
  · by_cases hk : k = 0
    · rw [if_pos hk] at h2; exact a ⟨fun _ => hk, fun _ => by omega⟩
    · rw [if_neg hk] at h2; exact a ⟨fun h => absurd h (len0.1 h2.2), fun h => absurd h hk⟩
theorem right_good {q : Rq9} (g1 : ¬ bad1 q) (gd : depsP q.2.2.1 0 q.2.2.2.2.2.1 = true) (gf : filesP ⟨#[]⟩ q.2.2.2.2.2.2.1 = true) (g2 : ¬ bad2 q) (g3 : ¬ bad3 q) (g4 : ¬ bad4 q) :
    RightQ q ↔ (if q.1 = 12 then 0 ≤ q.2.2.1 ∧ q.2.2.1 ≤ 100 else ¬ (needI q.1 = true ∧ (q.2.2.1 < 1 ∨ 1000000000 < q.2.2.1)) ∧ (q.2.2.2.1 ≠ ⟨#[]⟩ ∨ ¬ needN q.1 = true ∨ q.1 = 10)) := by
  obtain ⟨k, b, i, n, t, d, f, l⟩ := q
  unfold bad1 bad2 bad3 bad4 needI needN needF at *
  unfold RightQ
  dsimp only at *
  simp only [decide_eq_true_eq] at *
  have e1 := @len0 _ d
  have e2 := @len0 _ f
  have e3 := @len0 _ l
  have hL : l.all rightP = true := Classical.byContradiction fun h => g1 (.inr (.inr (.inr (.inr (.inr (.inl h))))))
  have hT : lineP t = true := Classical.byContradiction fun h => g1 (.inr (.inr (.inr (.inr (.inr (.inr (.inl h)))))))
  have hN : n = ⟨#[]⟩ ∨ namedP n = true := Classical.byContradiction fun h => g2 ⟨fun e => h (.inl e), fun e => h (.inr e)⟩
  have hk : 0 ≤ k ∧ k ≤ 12 := by omega
  have hb : 0 ≤ b ∧ b ≤ far9 := by unfold far9; omega
  have hl : l.length ≤ 24 ∧ d.length ≤ 8 ∧ f.length ≤ 8 := by omega
  have z0 : k ≠ 0 → b = 0 ∧ l = [] := fun h => ⟨Classical.byContradiction fun e => g3 (.inl ⟨e, h⟩), e3.2 fun e => g4 (.inr (.inr fun q => h (q.1 e)))⟩
  have z1 : k = 0 → 1 ≤ l.length := fun h => Classical.byContradiction fun e => g4 (.inr (.inr fun q => e (q.2 h)))
  have z2 : k ≠ 1 → t = ⟨#[]⟩ ∧ d = [] := fun h => ⟨Classical.byContradiction fun e => g3 (.inr (.inr (.inr ⟨e, h⟩))), e1.2 fun e => g4 (.inl ⟨e, h⟩)⟩
  have z3 : ¬ (k = 1 ∨ k = 2 ∨ k = 3 ∨ k = 12) → i = 0 := fun h => Classical.byContradiction fun e => g3 (.inr (.inl ⟨e, h⟩))
  have z4 : ¬ (k = 5 ∨ k = 6 ∨ k = 9 ∨ k = 10) → n = ⟨#[]⟩ := fun h => Classical.byContradiction fun e => g3 (.inr (.inr (.inl ⟨e, h⟩)))
  have z5 : ¬ (k = 1 ∨ k = 2 ∨ k = 4 ∨ k = 5) → f = [] := fun h => e2.2 fun e => g4 (.inr (.inl ⟨e, h⟩))
  have p1 : (if k = 0 then 0 ≤ b ∧ b ≤ far9 ∧ 1 ≤ l.length ∧ l.length ≤ 24 ∧ l.all rightP = true else b = 0 ∧ l = []) := by
    split
    · rename_i h; exact ⟨hb.1, hb.2, z1 h, hl.1, hL⟩
    · rename_i h; exact z0 h
  have p2 : (if k = 1 then lineP t = true ∧ d.length ≤ 8 ∧ depsP i 0 d = true else t = ⟨#[]⟩ ∧ d = []) := by
    split
    · exact ⟨hT, hl.2.1, gd⟩
    · rename_i h; exact z2 h
  have p3 : (if k = 1 ∨ k = 2 ∨ k = 4 ∨ k = 5 then f.length ≤ 8 ∧ filesP ⟨#[]⟩ f = true else f = []) := by
    split
    · exact ⟨hl.2.2, gf⟩
    · rename_i h; exact z5 (by omega)
  have nn : namedP n = true → n ≠ ⟨#[]⟩ := fun h e => by rw [e, named_nil] at h; cases h
  constructor
  · rintro ⟨-, -, -, h4, -, h6⟩
    split
    · rename_i h; rw [if_neg (by omega), if_pos h] at h4; exact h4
    · rename_i h
      constructor
      · rintro ⟨a, c⟩
        rw [if_pos (by omega)] at h4; omega
      · by_cases h7 : k = 5 ∨ k = 6 ∨ k = 9
        · rw [if_pos h7] at h6; exact .inl (nn h6)
        · by_cases h8 : k = 10
          · exact .inr (.inr h8)
          · exact .inr (.inl (by omega))
  · intro h
    refine ⟨hk, p1, p2, ?_, p3, ?_⟩
    · split
      · rename_i h1
        rw [if_neg (by omega)] at h
        have := h.1
        have h2 : ¬ (i < 1 ∨ 1000000000 < i) := fun e => this ⟨by omega, e⟩
        omega
      · rename_i h1
        split
        · rename_i h2; rw [if_pos h2] at h; exact h
        · rename_i h2; exact z3 (by omega)
    · split
      · rename_i h1
        rw [if_neg (by omega)] at h
        exact hN.resolve_left (h.2.resolve_right (by omega))
      · split
        · exact hN
        · exact z4 (by omega)
end Go.Proofs.YtlfehnnmpkohkaaGreatDoor
/- Chapter 16: which requests may be: the document's way. -/
namespace Go.Proofs.YtlfehnnmpkohkaaGreatDoor
open Go Go.SL Go.Lib
attribute [local irreducible] Cfg Kont StepK Val Con Qops Any Sl Own Blk BlkR Rd Pu ExA AllA Has Pick Ent Elem Beside Callable TI Lone OwnO AndA
set_option maxRecDepth 100000 in
theorem needs_con (k : Int) (fd : ByteArray) : Con Tryz.prog 44 [.int .i64 k, .string fd] [] (γ := Unit) (fun _ => .bool (needsV fd k)) (fun _ => True) (fun _ => []) := by
  refine con_of Tryz.func44 rfl (dd rfl) fun w0 O0 => ?_
  refine c_seq (c_region ?_)
  refine oV vA ?_
  refine o_nil (c_seq (c_seq (c_region ?_)))
  refine oV vM ?_
  refine o_nil (c_block (c_seq (c_seq (c_region ?_))))
  refine oV (v_seq rfl rfl) ?_
  refine oV vA ?_
  refine o_nil ?_
  refine c_cond_p rfl (fun h1 => ?_) (fun h1 => ?_)
  · refine c_skip ?_
    refine c_cond_p rfl (fun k1 => ?_) (fun k1 => ?_)
    · refine c_seq (c_region ?_)
      refine oV vM ?_
      refine oV (v_eq rfl rfl) ?_
      refine oV vA ?_
      refine o_nil ?_
      refine c_ret1 Tryz.func44 rfl rfl fun w O hS => ?_
      exact ⟨(), by unfold needsV; rw [if_pos (.inl h1)], trivial, trivial⟩
    · skip
      exact absurd h1 k1
  · refine c_region ?_
    refine oV (v_seq rfl rfl) ?_
    refine oV vA ?_
    refine o_nil ?_
    refine c_cond_p rfl (fun h2 => ?_) (fun h2 => ?_)
    · refine c_seq (c_region ?_)
      refine oV vM ?_
      refine oV (v_eq rfl rfl) ?_
      refine oV vA ?_
      refine o_nil ?_
      refine c_ret1 Tryz.func44 rfl rfl fun w O hS => ?_
      exact ⟨(), by unfold needsV; rw [if_pos (.inr h2)], trivial, trivial⟩
    · have n1 : ¬ (fd = ⟨#[98, 97, 115, 101]⟩ ∨ fd = ⟨#[108]⟩) := fun h => h.elim h1 h2
      refine c_seq (c_seq (c_region ?_))
      refine oV (v_seq rfl rfl) ?_
      refine oV vA ?_
      refine o_nil ?_
      refine c_cond_p rfl (fun h3 => ?_) (fun h3 => ?_)
      · refine c_skip ?_
        refine c_cond_p rfl (fun k1 => ?_) (fun k1 => ?_)
        · refine c_seq (c_region ?_)
          refine oV vM ?_
          refine oV (v_eq rfl rfl) ?_
          refine oV vA ?_
          refine o_nil ?_
          refine c_ret1 Tryz.func44 rfl rfl fun w O hS => ?_
          exact ⟨(), by unfold needsV; rw [if_neg n1, if_pos (.inl h3)], trivial, trivial⟩
        · skip
          exact absurd h3 k1
      · refine c_region ?_
        refine oV (v_seq rfl rfl) ?_
        refine oV vA ?_
        refine o_nil ?_
        refine c_cond_p rfl (fun h4 => ?_) (fun h4 => ?_)
        · refine c_seq (c_region ?_)
          refine oV vM ?_
          refine oV (v_eq rfl rfl) ?_
          refine oV vA ?_
          refine o_nil ?_
          refine c_ret1 Tryz.func44 rfl rfl fun w O hS => ?_
          exact ⟨(), by unfold needsV; rw [if_neg n1, if_pos (.inr h4)], trivial, trivial⟩
        · have n2 : ¬ (fd = ⟨#[110, 111, 116, 101]⟩ ∨ fd = ⟨#[100, 101, 112, 115]⟩) := fun h => h.elim h3 h4
          refine c_seq (c_region ?_)
          refine oV (v_seq rfl rfl) ?_
          refine oV vA ?_
          refine o_nil ?_
          refine c_cond_p rfl (fun h5 => ?_) (fun h5 => ?_)
          · refine c_seq ?_
            refine c_env (env' := [(0, _)]) (by repeat (first | exact trivial | refine ⟨rfl, ?_⟩)) ?_
            refine c_joinb (d := 4) (decide (k = 1 ∨ k = 2 ∨ k = 3 ∨ k = 12)) ?_ ?_
            rotate_left
            · intro J
              refine c_region ?_
              refine oV vM ?_
              refine oV (v_eq rfl rfl) ?_
              refine oV vM ?_
              first | refine o_guard_f rfl rfl (fun g20 => ?_) (fun g20 => ?_) | refine o_guard rfl rfl (fun g20 => ?_) (fun g20 => ?_)
              · refine oV vM ?_
                refine oN ?_
                refine oV (v_eq rfl rfl) ?_
                refine oV vQ ?_
                refine oV vM ?_
                first | refine o_guard_f rfl rfl (fun g24 => ?_) (fun g24 => ?_) | refine o_guard rfl rfl (fun g24 => ?_) (fun g24 => ?_)
                · refine oV vM ?_
                  refine oN ?_
                  refine oV (v_eq rfl rfl) ?_
                  refine oV vQ ?_
                  refine oV vM ?_
                  first | refine o_guard_f rfl rfl (fun g28 => ?_) (fun g28 => ?_) | refine o_guard rfl rfl (fun g28 => ?_) (fun g28 => ?_)
                  · refine oV vM ?_
                    refine oN ?_
                    refine oV (v_eq rfl rfl) ?_
                    refine oV vQ ?_
                    refine oV vA ?_
                    refine o_nil ?_
                    exact cJ J rfl (by first | rfl | (simp_all; done) | (simp_all; omega) | (simp; omega))
                  · refine oX ?_
                    refine oX ?_
                    refine oV vT ?_
                    refine oV vA ?_
                    refine o_nil ?_
                    exact cJ J rfl (by first | rfl | (simp_all; done) | (simp_all; omega) | (simp; omega))
                · refine oX ?_
                  refine oX ?_
                  refine oV vT ?_
                  refine oV vM ?_
                  iterate 2 refine oX ?_
                  refine oV vT ?_
                  refine oV vA ?_
                  refine o_nil ?_
                  exact cJ J rfl (by first | rfl | (simp_all; done) | (simp_all; omega) | (simp; omega))
              · refine oX ?_
                refine oX ?_
                refine oV vT ?_
                refine oV vM ?_
                iterate 2 refine oX ?_
                refine oV vT ?_
                refine oV vM ?_
                iterate 2 refine oX ?_
                refine oV vT ?_
                refine oV vA ?_
                refine o_nil ?_
                exact cJ J rfl (by first | rfl | (simp_all; done) | (simp_all; omega) | (simp; omega))
            refine c_ret1 Tryz.func44 rfl rfl fun w O hS => ?_
            exact ⟨(), by unfold needsV; rw [if_neg n1, if_neg n2, if_pos h5]; rfl, trivial, trivial⟩
          · refine c_seq (c_region ?_)
            refine oV (v_seq rfl rfl) ?_
            refine oV vA ?_
            refine o_nil ?_
            refine c_cond_p rfl (fun h6 => ?_) (fun h6 => ?_)
            · refine c_seq ?_
              refine c_env (env' := [(0, _)]) (by repeat (first | exact trivial | refine ⟨rfl, ?_⟩)) ?_
              refine c_joinb (d := 4) (decide (k = 5 ∨ k = 6 ∨ k = 9 ∨ k = 10)) ?_ ?_
              rotate_left
              · intro J
                refine c_region ?_
                refine oV vM ?_
                refine oV (v_eq rfl rfl) ?_
                refine oV vM ?_
                first | refine o_guard_f rfl rfl (fun g36 => ?_) (fun g36 => ?_) | refine o_guard rfl rfl (fun g36 => ?_) (fun g36 => ?_)
                · refine oV vM ?_
                  refine oN ?_
                  refine oV (v_eq rfl rfl) ?_
                  refine oV vQ ?_
                  refine oV vM ?_
                  first | refine o_guard_f rfl rfl (fun g40 => ?_) (fun g40 => ?_) | refine o_guard rfl rfl (fun g40 => ?_) (fun g40 => ?_)
                  · refine oV vM ?_
                    refine oN ?_
                    refine oV (v_eq rfl rfl) ?_
                    refine oV vQ ?_
                    refine oV vM ?_
                    first | refine o_guard_f rfl rfl (fun g44 => ?_) (fun g44 => ?_) | refine o_guard rfl rfl (fun g44 => ?_) (fun g44 => ?_)
                    · refine oV vM ?_
                      refine oN ?_
                      refine oV (v_eq rfl rfl) ?_
                      refine oV vQ ?_
                      refine oV vA ?_
                      refine o_nil ?_
                      exact cJ J rfl (by first | rfl | (simp_all; done) | (simp_all; omega) | (simp; omega))
                    · refine oX ?_
                      refine oX ?_
                      refine oV vT ?_
                      refine oV vA ?_
                      refine o_nil ?_
                      exact cJ J rfl (by first | rfl | (simp_all; done) | (simp_all; omega) | (simp; omega))
                  · refine oX ?_
                    refine oX ?_
                    refine oV vT ?_
                    refine oV vM ?_
                    iterate 2 refine oX ?_
                    refine oV vT ?_
                    refine oV vA ?_
                    refine o_nil ?_
                    exact cJ J rfl (by first | rfl | (simp_all; done) | (simp_all; omega) | (simp; omega))
                · refine oX ?_
                  refine oX ?_
                  refine oV vT ?_
                  refine oV vM ?_
                  iterate 2 refine oX ?_
                  refine oV vT ?_
                  refine oV vM ?_
                  iterate 2 refine oX ?_
                  refine oV vT ?_
                  refine oV vA ?_
                  refine o_nil ?_
                  exact cJ J rfl (by first | rfl | (simp_all; done) | (simp_all; omega) | (simp; omega))
              refine c_ret1 Tryz.func44 rfl rfl fun w O hS => ?_
              exact ⟨(), by unfold needsV; rw [if_neg n1, if_neg n2, if_neg h5, if_pos h6]; rfl, trivial, trivial⟩
            · refine c_skip (c_inBlock (c_seq ?_))
              refine c_env (env' := [(0, _)]) (by repeat (first | exact trivial | refine ⟨rfl, ?_⟩)) ?_
              refine c_joinb (d := 4) (decide (k = 1 ∨ k = 2 ∨ k = 4 ∨ k = 5)) ?_ ?_
              rotate_left
              · intro J
                refine c_region ?_
                refine oV vM ?_
                refine oV (v_eq rfl rfl) ?_
                refine oV vM ?_
                first | refine o_guard_f rfl rfl (fun g50 => ?_) (fun g50 => ?_) | refine o_guard rfl rfl (fun g50 => ?_) (fun g50 => ?_)
                · refine oV vM ?_
                  refine oN ?_
                  refine oV (v_eq rfl rfl) ?_
                  refine oV vQ ?_
                  refine oV vM ?_
                  first | refine o_guard_f rfl rfl (fun g54 => ?_) (fun g54 => ?_) | refine o_guard rfl rfl (fun g54 => ?_) (fun g54 => ?_)
                  · refine oV vM ?_
                    refine oN ?_
                    refine oV (v_eq rfl rfl) ?_
                    refine oV vQ ?_
                    refine oV vM ?_
                    first | refine o_guard_f rfl rfl (fun g58 => ?_) (fun g58 => ?_) | refine o_guard rfl rfl (fun g58 => ?_) (fun g58 => ?_)
                    · refine oV vM ?_
                      refine oN ?_
                      refine oV (v_eq rfl rfl) ?_
                      refine oV vQ ?_
                      refine oV vA ?_
                      refine o_nil ?_
                      exact cJ J rfl (by first | rfl | (simp_all; done) | (simp_all; omega) | (simp; omega))
                    · refine oX ?_
                      refine oX ?_
                      refine oV vT ?_
                      refine oV vA ?_
                      refine o_nil ?_
                      exact cJ J rfl (by first | rfl | (simp_all; done) | (simp_all; omega) | (simp; omega))
                  · refine oX ?_
                    refine oX ?_
                    refine oV vT ?_
                    refine oV vM ?_
                    iterate 2 refine oX ?_
                    refine oV vT ?_
                    refine oV vA ?_
                    refine o_nil ?_
                    exact cJ J rfl (by first | rfl | (simp_all; done) | (simp_all; omega) | (simp; omega))
                · refine oX ?_
                  refine oX ?_
                  refine oV vT ?_
                  refine oV vM ?_
                  iterate 2 refine oX ?_
                  refine oV vT ?_
                  refine oV vM ?_
                  iterate 2 refine oX ?_
                  refine oV vT ?_
                  refine oV vA ?_
                  refine o_nil ?_
                  exact cJ J rfl (by first | rfl | (simp_all; done) | (simp_all; omega) | (simp; omega))
              refine c_ret1 Tryz.func44 rfl rfl fun w O hS => ?_
              exact ⟨(), by unfold needsV; rw [if_neg n1, if_neg n2, if_neg h5, if_neg h6]; rfl, trivial, trivial⟩
end Go.Proofs.YtlfehnnmpkohkaaGreatDoor

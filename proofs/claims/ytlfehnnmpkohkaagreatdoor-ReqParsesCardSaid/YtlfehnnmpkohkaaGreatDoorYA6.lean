/- The texts HA, HB, HC, HD, S4, HE, HF, E8, QO, HG, KA, KB, R4, one behind the other. -/
import Derived.Test.YtlfehnnmpkohkaaGreatDoorYA5
import Derived.Laws.OwnMore
import Derived.Lib.SlBytesConst
import Derived.Test.YtlfehnnmpkohkaaGreatDoorRows
import Derived.Lay
import Derived.Stop.LaidErr
import Derived.Lib.LaidTab
set_option linter.unusedVariables false
set_option linter.unusedSimpArgs false
/- Chapter 16: requests of bytes that are not too many; responses of bytes: the program's way. -/
namespace Go.Proofs.YtlfehnnmpkohkaaGreatDoor
open Go Go.SL Go.Lib
/-- What Unpack tells. -/
def unpackP (l : List UInt8) : Option Rq9 := if 3000 < l.length then none else parseP l
def unpackE (l : List UInt8) : Value := .int .i64 (if 3000 < l.length then 161 else if (parseP l).isSome then 0 else 160)
def unpackQ (l : List UInt8) : Rq9 := (unpackP l).getD (zeroQ 0)
attribute [local irreducible] Cfg Kont StepK Val Con Qops Any Sl Own Blk BlkR Rd Pu ExA AllA Has Pick Ent Elem Beside Callable TI Lone OwnO AndA
set_option maxRecDepth 100000 in
theorem unpack_con (v : Value) (l : List UInt8) (hl : l.length ≤ big9) (te : TypeId) (pe : Value) : Con Tryz.prog 20 [v] [Sl eByte v l, G1 te pe, G3] (γ := Value × Value × Value)
    (fun g => .tuple #[.agg (rqC (unpackQ l) g.1 g.2.1 g.2.2).toArray, unpackE l]) (fun _ => True) (fun g => [Sl (eInt .i64) g.1 (unpackQ l).2.2.2.2.2.1, Sl eStr g.2.1 (unpackQ l).2.2.2.2.2.2.1, Sl ePr g.2.2 (unpackQ l).2.2.2.2.2.2.2]) := by
  have hP := parse_con v l hl te pe
  refine con_of Tryz.func20 rfl (dd rfl) fun w0 O0 => ?_
  refine c_seq (c_region ?_)
  refine o_step (s_alloc ti32 (dd rfl) (fun b2 => ?_))
  refine oV vA ?_
  refine o_nil (c_seq (c_seq (c_region ?_)))
  refine oV vM ?_
  refine oV ((by first | exact v_len_form Tryz.underlying38 rfl | exact v_len_sl Tryz.underlying38 rfl (hX (by repeat constructor)))) ?_
  refine oV (v_gt rfl rfl) ?_
  refine o_nil ?_
  refine c_cond_p rfl (fun h => ?_) (fun h => ?_)
  · have hq : unpackQ l = zeroQ 0 := by unfold unpackQ unpackP; rw [if_pos (by omega)]; rfl
    have he : unpackE l = .int .i64 161 := by unfold unpackE; rw [if_pos (by omega)]
    rw [hq, he]
    refine c_seq (c_region ?_)
    refine oV (v_buildS (places := [(0, 1), (1, 1), (2, 1), (3, 1), (4, 1), (5, 1), (6, 1), (7, 1)]) (cells := [.int .i64 0, .int .i64 0, .int .i64 0, .string ⟨#[]⟩, .string ⟨#[]⟩, .slice none 0 0, .slice none 0 0, .slice none 0 0]) Tryz.underlying32 ti32 (by kernel_rfl) rfl (by repeat (first | exact PartsC.nil | (apply PartsC.one (by first | exact OneC.lit rfl | exact OneC.sl (hX (by repeat constructor)) )) | (apply PartsC.lit rfl))) rfl) ?_
    refine o_step (s_store_all ti32 rfl rfl (by first | exact CellsV.lit rfl | exact CellsV.one (by first | exact OneC.lit rfl | exact OneC.sl (hX (by repeat constructor)) )) (by repeat (first | exact OneAll.nil | (refine OneAll.cons ?_ ?_; · first | exact OneC.lit rfl | exact OneC.sl (hX (by repeat constructor)) ) | exact OneAll.rd (hX (by repeat constructor)))) rfl (pB (by repeat constructor)) rfl (?_))
    refine oV vA ?_
    refine o_nil ?_
    refine c_ret_ct Tryz.func20 rfl ⟨_, Tryz.underlying32⟩ ti32 rfl rfl (hX (by repeat constructor)) fun w O hS => ?_
    exact ⟨(.slice none 0 0, .slice none 0 0, .slice none 0 0), rfl, trivial, Ent.get hS (eX (by repeat constructor))⟩
  · have hq : unpackQ l = parseQ l := by unfold unpackQ unpackP; rw [if_neg (by omega)]; rfl
    have he : unpackE l = errV 160 (parseP l).isSome := by unfold unpackE; rw [if_neg (by omega)]; rfl
    rw [hq, he]
    clear hq
    generalize parseQ l = q at hP ⊢
    obtain ⟨k, bs, id, n, t, dl, fl, pl⟩ := q
    dsimp only [rqC] at hP ⊢
    refine c_skip (c_seq (c_region ?_))
    refine oV vM ?_
    refine oC cl23 (hP) fun g _ => ?_
    refine oV vE ?_
    refine oV vE ?_
    refine o_step (s_store_all ti32 rfl rfl (by first | exact CellsV.lit rfl | exact CellsV.one (by first | exact OneC.lit rfl | exact OneC.sl (hX (by repeat constructor)) )) (by repeat (first | exact OneAll.nil | (refine OneAll.cons ?_ ?_; · first | exact OneC.lit rfl | exact OneC.sl (hX (by repeat constructor)) ) | exact OneAll.rd (hX (by repeat constructor)))) rfl (pB (by repeat constructor)) rfl (?_))
    refine oV vA ?_
    refine o_nil ?_
    refine c_ret_ct Tryz.func20 rfl ⟨_, Tryz.underlying32⟩ ti32 rfl rfl (hX (by repeat constructor)) fun w O hS => ?_
    exact ⟨g, rfl, trivial, Ent.get hS (eX (by repeat constructor))⟩
abbrev zeroS : Rs9 := (0, 0, [], [], [], [])
def resQ (l : List UInt8) : Rs9 := (resP l).getD zeroS
set_option maxRecDepth 100000 in
theorem unpackRes_con (v : Value) (l : List UInt8) (hl : l.length ≤ big9) (te : TypeId) (pe : Value) : Con Tryz.prog 30 [v] [Sl eByte v l, G1 te pe, G3] (γ := Value × Value × Value × Value)
    (fun g => .tuple #[.agg (rsC (resQ l) g.1 g.2.1 g.2.2.1 g.2.2.2).toArray, errV 160 (resP l).isSome]) (fun _ => True) (fun g => [Sl ePr g.1 (resQ l).2.2.1, Sl (eInt .i64) g.2.1 (resQ l).2.2.2.1, Sl eStr g.2.2.1 (resQ l).2.2.2.2.1, Sl eNt g.2.2.2 (resQ l).2.2.2.2.2]) := by
  have hof := of_con v l (by unfold big9 at hl; omega)
  obtain ⟨hsize, hcount, hlen⟩ := rs_raw (s := (l, false)) hl
  have hP : resP l = if (rawRes (takeRowP 1000) (manyP9 takeNote 1000) (l, false)).1 = ([], false) ∧ resB (rawRes (takeRowP 1000) (manyP9 takeNote 1000) (l, false)).2 = l then some (rawRes (takeRowP 1000) (manyP9 takeNote 1000) (l, false)).2 else none := rfl
  have c1 := fun i w => inNum_con i w (l, false) te pe
  obtain ⟨s1, c, h1⟩ : ∃ s1 k, takeNum (l, false) = (s1, k) := ⟨_, _, rfl⟩
  rw [h1] at c1
  have c2 := fun i w => inNum_con i w s1 te pe
  obtain ⟨s2, ver, h2⟩ : ∃ s2 k, takeNum s1 = (s2, k) := ⟨_, _, rfl⟩
  rw [h2] at c2
  have l1 := Nat.le_trans (goes_len goes_num (l, false)) hl
  rw [h1] at l1
  have l2 := Nat.le_trans (goes_len goes_num s1) l1
  rw [h2] at l2
  have c3 := fun i w => inPrims_con i w s2 1000 l2 te pe
  obtain ⟨s3, pl, h3⟩ : ∃ s3 k, takePrims 1000 s2 = (s3, k) := ⟨_, _, rfl⟩
  rw [h3] at c3
  have c4 := fun i w => take_con i w s3 1000 (by decide) te pe
  obtain ⟨s4, il, h4⟩ : ∃ s4 k, takeRowP 1000 s3 = (s4, k) := ⟨_, _, rfl⟩
  rw [h4] at c4
  have c5 := fun i w => inTexts_con i w s4 1000 60 te pe
  obtain ⟨s5, tl, h5⟩ : ∃ s5 k, takeTexts 1000 60 s4 = (s5, k) := ⟨_, _, rfl⟩
  rw [h5] at c5
  have c6 := fun i w => inNum_con i w s5 te pe
  obtain ⟨s6, m, h6⟩ : ∃ s6 k, takeNum s5 = (s6, k) := ⟨_, _, rfl⟩
  rw [h6] at c6
  obtain ⟨cn, hcn⟩ : ∃ cn, cn = (min (max m 0) 1000).toNat := ⟨_, rfl⟩
  have hcn' : (cn : Int) = min (max m 0) 1000 := by omega
  obtain ⟨s7, nl, h7⟩ : ∃ s7 k, manyP9 takeNote 1000 s5 = (s7, k) := ⟨_, _, rfl⟩
  have h7' : repG takeNote cn s6 [] = (s7, nl) := by
    rw [← h7]; unfold manyP9; rw [h6, hcn]
  have hraw : rawRes (takeRowP 1000) (manyP9 takeNote 1000) (l, false) = (s7, (c, ver, pl, il, tl, nl)) := by unfold rawRes; simp only [h1, h2, h3, h4, h5, h7]
  rw [hraw] at hcount hlen hP
  have hK := fun lv iv tv nv => packRes_con (c, ver, pl, il, tl, nl) lv iv tv nv hcount (Nat.le_trans hlen (by decide))
  have hdn := fun i w => done_con i w s7
  dsimp only [rsC] at c1 c2 c3 c4 c5 c6 hK hP
  refine con_of Tryz.func30 rfl (dd rfl) fun w0 O0 => ?_
  refine c_seq (c_region ?_)
  refine o_step (s_alloc ti55 (dd rfl) (fun b2 => ?_))
  refine oV vA ?_
  refine o_nil (c_seq (c_region ?_))
  refine oV vM ?_
  refine oC cl62 (hof) fun g _ => ?_
  refine oV vA ?_
  refine o_nil (c_seq (c_region ?_))
  refine oV vM ?_
  refine oC cl63 (c1 g.1 g.2) fun w1 _ => ?_
  refine oV vM ?_
  refine oC cl63 (c2 g.1 w1) fun w2 _ => ?_
  refine oV vM ?_
  refine oC cl67 (c3 g.1 w2) fun g3 _ => ?_
  refine oV (v_buildS (places := [(0, 1), (1, 1), (2, 1), (3, 1), (4, 1), (5, 1)]) (cells := [_, _, _, .slice none 0 0, .slice none 0 0, .slice none 0 0]) Tryz.underlying55 ti55 (by kernel_rfl) rfl (by repeat (first | exact PartsC.nil | (apply PartsC.one (by first | exact OneC.lit rfl | exact OneC.sl (hX (by repeat constructor)) )) | (apply PartsC.lit rfl))) rfl) ?_
  refine o_step (s_alloc ti55 (dd rfl) (fun b5 => ?_))
  refine o_step (s_store_all ti55 rfl rfl (by first | exact CellsV.lit rfl | exact CellsV.one (by first | exact OneC.lit rfl | exact OneC.sl (hX (by repeat constructor)) )) (by repeat (first | exact OneAll.nil | (refine OneAll.cons ?_ ?_; · first | exact OneC.lit rfl | exact OneC.sl (hX (by repeat constructor)) ) | exact OneAll.rd (hX (by repeat constructor)))) rfl (pB (by repeat constructor)) rfl (?_))
  refine o_nil (c_seq (c_region ?_))
  refine oV vM ?_
  refine oC cl65 (c4 g.1 g3.1) fun g4 _ => ?_
  refine oV (vF 3 Tryz.underlying55 ti22) ?_
  refine o_step (s_store1 ti22 rfl rfl (by first | exact OneC.lit rfl | exact OneC.sl (hX (by repeat constructor)) ) (pB (by repeat constructor)) (by first | decide | exact Nat.le_of_ble_eq_true rfl | simp) (by first | (dsimp only [List.set_cons_succ, List.set_cons_zero]; first | done | exact rfl) | rfl) (?_))
  refine o_nil (c_seq (c_region ?_))
  refine oV vM ?_
  refine oC cl66 (c5 g.1 g4.1) fun g5 _ => ?_
  refine oV (vF 4 Tryz.underlying55 ti23) ?_
  refine o_step (s_store1 ti23 rfl rfl (by first | exact OneC.lit rfl | exact OneC.sl (hX (by repeat constructor)) ) (pB (by repeat constructor)) (by first | decide | exact Nat.le_of_ble_eq_true rfl | simp) (by first | (dsimp only [List.set_cons_succ, List.set_cons_zero]; first | done | exact rfl) | rfl) (?_))
  refine o_nil (c_seq (c_seq (c_region ?_)))
  refine oV vM ?_
  refine oC cl63 (c6 g.1 g5.1) fun w6 _ => ?_
  refine oV (v_max rfl rfl) ?_
  refine oV (v_min rfl rfl) ?_
  refine oV vM ?_
  refine o_nil (c_block ?_)
  rw [← hcn']
  refine c_loopR (γ := Nat × St9 × List Nt9 × Value × Value) [(0, _), (2, _), (3, _), (4, _), (5, _), (25, _)] (fun j => cn - j.1) (fun j => j.1 ≤ cn ∧ j.2.2.1.length = j.1 ∧ repG takeNote (cn - j.1) j.2.1 j.2.2.1 = (s7, nl)) (fun j => [(26, .int .i64 j.1)]) (fun j => [Blk g.1 141 [j.2.2.2.1, .bool j.2.1.2], Sl eByte j.2.2.2.1 j.2.1.1, Blk b5 55 [.int .i64 c, .int .i64 ver, g3.2, g4.2, g5.2, j.2.2.2.2], Own eNt 72 j.2.2.2.2 j.2.2.1, Sl ePr g3.2 pl, Sl (eInt .i64) g4.2 il, Sl eStr g5.2 tl, Sl eByte v l, Blk b2 55 [.int .i64 0, .int .i64 0, .slice none 0 0, .slice none 0 0, .slice none 0 0, .slice none 0 0], G1 te pe, G3]) ((0, s6, [], w6, .slice none 0 0)) (⟨Nat.zero_le _, rfl, h7'⟩) (by repeat (first | exact trivial | refine ⟨rfl, ?_⟩)) (eX (by repeat constructor)) ?_
  rintro ⟨k, sk, out, r, nv⟩ ⟨hk, hlk, hTk⟩ IH
  dsimp only at hk hlk hTk ⊢
  try dsimp only [List.cons_append, List.nil_append]
  refine c_seq (c_region ?_)
  refine oV (v_lt rfl rfl) ?_
  refine o_nil (c_seq ?_)
  refine c_cond_p rfl (fun hlt => ?_) (fun hlt => ?_)
  · have hst := repG_step (take := takeNote) (n := cn) (k := k) (s := sk) (out := out) (by omega)
    have d1 := fun w => inNum_con g.1 w sk te pe
    obtain ⟨t1, x1, e1⟩ : ∃ s k, takeNum sk = (s, k) := ⟨_, _, rfl⟩
    rw [e1] at d1
    have d2 := fun w => inFlag_con g.1 w t1 te pe
    obtain ⟨t2, x2, e2⟩ : ∃ s k, takeFlag t1 = (s, k) := ⟨_, _, rfl⟩
    rw [e2] at d2
    have d3 := fun w => inTexts_con g.1 w t2 1000 60 te pe
    obtain ⟨t3, x3, e3⟩ : ∃ s k, takeTexts 1000 60 t2 = (s, k) := ⟨_, _, rfl⟩
    rw [e3] at d3
    have d3' := fun w => Con.post (L'' := fun q => [Blk g.1 141 [q.1, .bool t3.2], Sl eByte q.1 t3.1, Sl eStr q.2 x3]) (d3 w) fun q => (eX (by repeat constructor))
    have hnote : takeNote sk = (t3, (x1, x3, x2)) := by unfold takeNote; simp only [e1, e2, e3]
    rw [hnote] at hst
    dsimp only at d1 d2 hst
    refine c_skip (c_seq (c_block (c_seq (c_region ?_))))
    refine oV vM ?_
    refine oC cl63 (d1 r) fun r1 _ => ?_
    refine oV vM ?_
    refine oC cl77 (d2 r1) fun r2 _ => ?_
    refine oV (v_buildS (places := [(0, 1), (1, 1), (2, 1)]) (cells := [_, .slice none 0 0, _]) Tryz.underlying72 ti72 (by kernel_rfl) rfl (by repeat (first | exact PartsC.nil | (apply PartsC.one (by first | exact OneC.lit rfl | exact OneC.sl (hX (by repeat constructor)) )) | (apply PartsC.lit rfl))) rfl) ?_
    refine o_step (s_alloc ti72 (dd rfl) (fun b6 => ?_))
    refine o_step (s_store_all ti72 rfl rfl (by first | exact CellsV.lit rfl | exact CellsV.one (by first | exact OneC.lit rfl | exact OneC.sl (hX (by repeat constructor)) )) (by repeat (first | exact OneAll.nil | (refine OneAll.cons ?_ ?_; · first | exact OneC.lit rfl | exact OneC.sl (hX (by repeat constructor)) ) | exact OneAll.rd (hX (by repeat constructor)))) rfl (pB (by repeat constructor)) rfl (?_))
    refine o_nil (c_seq (c_region ?_))
    refine oV vM ?_
    refine oC cl66 (d3' r2) fun gt _ => ?_
    refine oV (vF 1 Tryz.underlying72 ti23) ?_
    refine o_step (s_store1 ti23 rfl rfl (by first | exact OneC.lit rfl | exact OneC.sl (hX (by repeat constructor)) ) (pB (by repeat constructor)) (by first | decide | exact Nat.le_of_ble_eq_true rfl | simp) (by first | (dsimp only [List.set_cons_succ, List.set_cons_zero]; first | done | exact rfl) | rfl) (?_))
    refine o_nil (c_region ?_)
    refine oV (vF 5 Tryz.underlying55 ti53) ?_
    refine oV (vL lone53) ?_
    refine oV (vW Tryz.underlying72 ti72) ?_
    refine o_step (s_buildSlice Tryz.underlying53 ti72 rfl rfl rfl (by decide) (by decide) (beside_agg1 (beside_of (Lp := [Sl eStr gt.2 x3]) (pXs (by repeat constructor)) fun w O => nt_rd w O)) rfl rfl (dd rfl) fun v2 => ?_)
    refine o_step (s_append Tryz.underlying53 ti72 rfl (by decide) rfl rfl (dd rfl) (pB (by repeat constructor)) (pX (by repeat constructor)) rfl (by (first | omega | (simp only [maxLen, List.length_append, List.length_drop, List.length_take, List.length_nil, List.length_cons]; omega))) (by (first | omega | (simp only [maxLen, List.length_append, List.length_drop, List.length_take, List.length_nil, List.length_cons]; omega))) fun v3 => ?_)
    refine oV (vF 5 Tryz.underlying55 ti53) ?_
    refine o_step (s_store1 ti53 rfl rfl (by first | exact OneC.lit rfl | exact OneC.sl (hX (by repeat constructor)) ) (pB (by repeat constructor)) (by first | decide | exact Nat.le_of_ble_eq_true rfl | simp) (by first | (dsimp only [List.set_cons_succ, List.set_cons_zero]; first | done | exact rfl) | rfl) (?_))
    refine o_nil (c_inBlock (c_region ?_))
    refine oV ((by first | exact v_add64 rfl rfl (by omega) | exact v_add rfl rfl)) ?_
    refine oV vM ?_
    refine o_nil ?_
    refine cU (IH ((k + 1, t3, out ++ [(x1, x3, x2)], gt.1, v3)) (by first | omega | (dsimp only; omega)) (⟨by dsimp only; omega, by simp [hlk], hst.symm.trans hTk⟩))
  · have hend := repG_end (take := takeNote) (n := cn) (k := k) (s := sk) (out := out) (by omega)
    rw [hend] at hTk
    cases hTk
    refine c_exit rfl ?_
    refine c_seq (c_seq ?_)
    by_cases hd : s7 = ([], false)
    · rw [decide_eq_true hd] at hdn
      refine c_held [BlkR g.1 141 [r, .bool s7.2], Sl eByte r s7.1, BlkR b5 55 [.int .i64 c, .int .i64 ver, g3.2, g4.2, g5.2, nv], Sl ePr g3.2 pl, Sl (eInt .i64) g4.2 il, Sl eStr g5.2 tl, Sl eNt nv nl, Sl eByte v l, G3] rfl ?_
      refine aT 0 rfl vM ?_
      refine aO 1 rfl (s_callf_keep cl68 (hdn g.1 r) rfl (dd rfl) (rX (by repeat constructor)) (fun _ => sX) (fun _ _ => aK ?_))
      refine aT 2 rfl (v_not rfl) ?_
      refine aT 3 rfl vM ?_
      refine a_know (s := 46) rfl (show _ = Value.bool false from rfl) ?_
      refine aN 4 rfl (vW Tryz.underlying55 ti55) ?_
      refine aN 7 rfl vM ?_
      refine aN 8 rfl (v_conv_bytes Tryz.underlying38 Tryz.underlying5 Tryz.underlying9 rfl (hX (by repeat constructor))) ?_
      refine aP 5 rfl (s_callf_keep cl26 (hK g3.2 g4.2 g5.2 nv) rfl (dd rfl) (rX (by repeat constructor)) (fun _ => sX) (fun r6 _ => aK ?_))
      refine aP 6 rfl (s_val (v_conv_bytes Tryz.underlying38 Tryz.underlying5 Tryz.underlying9 rfl (hX (by repeat constructor))) (dd rfl) (aK ?_))
      refine aN 9 rfl (v_sne rfl rfl) ?_
      refine aT 10 rfl vQ ?_
      refine a_done (by kernel_rfl) ?_ _
      refine c_cond_p rfl (fun hne => ?_) (fun hne => ?_)
      · have hn : resP l = none := by rw [hP, if_neg (fun h => hne (congrArg sB h.2))]
        have hq0 : resQ l = zeroS := by unfold resQ; rw [hn]; rfl
        refine c_seq (c_region ?_)
        refine oV (v_buildS (places := [(0, 1), (1, 1), (2, 1), (3, 1), (4, 1), (5, 1)]) (cells := [.int .i64 0, .int .i64 0, .slice none 0 0, .slice none 0 0, .slice none 0 0, .slice none 0 0]) Tryz.underlying55 ti55 (by kernel_rfl) rfl (by repeat (first | exact PartsC.nil | (apply PartsC.one (by first | exact OneC.lit rfl | exact OneC.sl (hX (by repeat constructor)) )) | (apply PartsC.lit rfl))) rfl) ?_
        refine o_step (s_store_all ti55 rfl rfl (by first | exact CellsV.lit rfl | exact CellsV.one (by first | exact OneC.lit rfl | exact OneC.sl (hX (by repeat constructor)) )) (by repeat (first | exact OneAll.nil | (refine OneAll.cons ?_ ?_; · first | exact OneC.lit rfl | exact OneC.sl (hX (by repeat constructor)) ) | exact OneAll.rd (hX (by repeat constructor)))) rfl (pB (by repeat constructor)) rfl (?_))
        refine oV vA ?_
        refine o_nil ?_
        refine c_ret_ct Tryz.func30 rfl ⟨_, Tryz.underlying55⟩ ti55 rfl rfl (hX (by repeat constructor)) fun w O hS => ?_
        exact ⟨(.slice none 0 0, .slice none 0 0, .slice none 0 0, .slice none 0 0), by rw [hq0, hn]; rfl, trivial, by rw [hq0]; exact Ent.get hS (eX (by repeat constructor))⟩
      · have hy : resP l = some (c, ver, pl, il, tl, nl) := by rw [hP, if_pos ⟨hd, sB_inj (Classical.not_not.1 hne)⟩]
        have hq1 : resQ l = (c, ver, pl, il, tl, nl) := by unfold resQ; rw [hy]; rfl
        refine c_skip (c_seq (c_region ?_))
        refine oV (vW Tryz.underlying55 ti55) ?_
        refine o_step (s_store_all ti55 rfl rfl (by first | exact CellsV.lit rfl | exact CellsV.one (by first | exact OneC.lit rfl | exact OneC.sl (hX (by repeat constructor)) )) (by repeat (first | exact OneAll.nil | (refine OneAll.cons ?_ ?_; · first | exact OneC.lit rfl | exact OneC.sl (hX (by repeat constructor)) ) | exact OneAll.rd (hX (by repeat constructor)))) rfl (pB (by repeat constructor)) rfl (?_))
        refine oV vA ?_
        refine o_nil ?_
        refine c_ret_ct Tryz.func30 rfl ⟨_, Tryz.underlying55⟩ ti55 rfl rfl (hX (by repeat constructor)) fun w O hS => ?_
        exact ⟨(g3.2, g4.2, g5.2, nv), by rw [hq1, hy]; rfl, trivial, by rw [hq1]; exact Ent.get hS (eX (by repeat constructor))⟩
    · rw [decide_eq_false hd] at hdn
      have hn : resP l = none := by rw [hP, if_neg (fun h => hd h.1)]
      have hq0 : resQ l = zeroS := by unfold resQ; rw [hn]; rfl
      refine c_held [BlkR g.1 141 [r, .bool s7.2], Sl eByte r s7.1] rfl ?_
      refine aT 0 rfl vM ?_
      refine aO 1 rfl (s_callf_keep cl68 (hdn g.1 r) rfl (dd rfl) (rX (by repeat constructor)) (fun _ => sX) (fun _ _ => aK ?_))
      refine aT 2 rfl (v_not rfl) ?_
      refine aT 3 rfl vM ?_
      refine a_know (s := 46) rfl (show _ = Value.bool true from rfl) ?_
      refine aX 4 rfl ?_
      refine aX 5 rfl ?_
      refine aX 6 rfl ?_
      refine aX 7 rfl ?_
      refine aX 8 rfl ?_
      refine aX 9 rfl ?_
      refine aT 10 rfl vT ?_
      refine a_done (by kernel_rfl) ?_ _
      refine c_cond_t rfl ?_
      refine c_seq (c_region ?_)
      refine oV (v_buildS (places := [(0, 1), (1, 1), (2, 1), (3, 1), (4, 1), (5, 1)]) (cells := [.int .i64 0, .int .i64 0, .slice none 0 0, .slice none 0 0, .slice none 0 0, .slice none 0 0]) Tryz.underlying55 ti55 (by kernel_rfl) rfl (by repeat (first | exact PartsC.nil | (apply PartsC.one (by first | exact OneC.lit rfl | exact OneC.sl (hX (by repeat constructor)) )) | (apply PartsC.lit rfl))) rfl) ?_
      refine o_step (s_store_all ti55 rfl rfl (by first | exact CellsV.lit rfl | exact CellsV.one (by first | exact OneC.lit rfl | exact OneC.sl (hX (by repeat constructor)) )) (by repeat (first | exact OneAll.nil | (refine OneAll.cons ?_ ?_; · first | exact OneC.lit rfl | exact OneC.sl (hX (by repeat constructor)) ) | exact OneAll.rd (hX (by repeat constructor)))) rfl (pB (by repeat constructor)) rfl (?_))
      refine oV vA ?_
      refine o_nil ?_
      refine c_ret_ct Tryz.func30 rfl ⟨_, Tryz.underlying55⟩ ti55 rfl rfl (hX (by repeat constructor)) fun w O hS => ?_
      exact ⟨(.slice none 0 0, .slice none 0 0, .slice none 0 0, .slice none 0 0), by rw [hq0, hn]; rfl, trivial, by rw [hq0]; exact Ent.get hS (eX (by repeat constructor))⟩
end Go.Proofs.YtlfehnnmpkohkaaGreatDoor
/- Chapter 16: the bytes of requests and responses: the document's way. -/
namespace Go.Proofs.YtlfehnnmpkohkaaGreatDoor
open Go Go.SL Go.Lib
/-- Sizes of what is written. -/
structure FitQ (q : Rq9) : Prop where
  name : q.2.2.2.1.size ≤ 1000000
  note : q.2.2.2.2.1.size ≤ 1000000
  deps : q.2.2.2.2.2.1.length ≤ 1000000
  files : TextsFit q.2.2.2.2.2.2.1
  prims : PrsFit q.2.2.2.2.2.2.2
structure FitS (s : Rs9) : Prop where
  prims : PrsFit s.2.2.1
  ids : s.2.2.2.1.length ≤ 1000000
  lines : TextsFit s.2.2.2.2.1
  notes : s.2.2.2.2.2.length ≤ 100000 ∧ ∀ n ∈ s.2.2.2.2.2, TextsFit n.2.1
attribute [local irreducible] Cfg Kont StepK Val Con Qops Any Sl Own Blk BlkR Rd Pu ExA AllA Has Pick Ent Elem Beside Callable TI Lone OwnO AndA
end Go.Proofs.YtlfehnnmpkohkaaGreatDoor
/- Chapter 16: a row of numbers, a request, a response, read of bytes: the document's way. -/
namespace Go.Proofs.YtlfehnnmpkohkaaGreatDoor
open Go Go.SL Go.Lib
theorem plc_end6 {B : ByteArray} {s : St9} (h : EndsB B s) : (s.2 = true ∨ (plc B s : Int) < B.size) ↔ ¬ s = ([], false) := by
  have h1 := h.at.1
  have h2 := h.at.2.2
  constructor
  · rintro (q | q) e
    · rw [e] at q; cases q
    · rw [e] at h2 q; simp only [List.length_nil] at h2; omega
  · intro q
    cases hb : s.2 with
    | true => exact .inl rfl
    | false =>
      right
      have : s.1 ≠ [] := fun e => q (Prod.ext e hb)
      have := List.length_pos_iff.2 this
      omega
theorem manyR9_goes {α : Type} {take : St9 → St9 × α} (hg : GoesP take) (m : Int) : GoesP (manyR9 take m) := fun s => by
  have h : (if (takeNum s).2 < 0 ∨ m < (takeNum s).2 then spoil9 (takeNum s).1 else (takeNum s).1).1 = (takeNum s).1.1 := by split <;> rfl
  obtain ⟨i, hi, ei⟩ := goes_num s
  obtain ⟨j, hj, ej⟩ := goes_many hg (takeNum s).2.toNat (if (takeNum s).2 < 0 ∨ m < (takeNum s).2 then spoil9 (takeNum s).1 else (takeNum s).1) []
  rw [h, ei] at ej hj
  rw [List.length_drop] at hj
  exact ⟨i + j, by omega, by unfold manyR9; rw [ej, List.drop_drop]⟩
theorem manyR9_len {α : Type} {take : St9 → St9 × α} {m : Int} {n : Nat} {s : St9} (hm : m ≤ n) : (manyR9 take m s).2.length ≤ n := by
  unfold manyR9
  split
  · rw [takeMany_bad _ _ _ _ rfl]; exact Nat.zero_le _
  · have := many_len (take := take) (takeNum s).2.toNat (takeNum s).1 []
    simp only [List.length_nil] at this
    omega
theorem goes_rowR (m : Int) : GoesP (takeRowR m) := manyR9_goes goes_num m
theorem rq_rawR {s : St9} (h : s.1.length ≤ big9) : FineQ (rawReq (takeRowR 8) s).2 := by
  have h1 := Nat.le_trans (goes_len goes_num s) h
  have h2 := Nat.le_trans (goes_len goes_num (takeNum s).1) h1
  have h3 := Nat.le_trans (goes_len goes_num (takeNum (takeNum s).1).1) h2
  unfold rawReq
  dsimp only
  obtain ⟨s3, hs3⟩ : ∃ s3, s3 = (takeNum (takeNum (takeNum s).1).1).1 := ⟨_, rfl⟩
  rw [← hs3] at h3 ⊢
  have h4 := Nat.le_trans (goes_len (goes_text 24) s3) h3
  have h5 := Nat.le_trans (goes_len (goes_text 60) (takeText 24 s3).1) h4
  obtain ⟨s5, hs5⟩ : ∃ s5, s5 = (takeText 60 (takeText 24 s3).1).1 := ⟨_, rfl⟩
  rw [← hs5] at h5 ⊢
  have h6 := Nat.le_trans (goes_len (goes_rowR 8) s5) h5
  obtain ⟨s6, hs6⟩ : ∃ s6, s6 = (takeRowR 8 s5).1 := ⟨_, rfl⟩
  rw [← hs6] at h6 ⊢
  have h7 := Nat.le_trans (goes_len (goes_some (goes_text 24) 8) s6) h6
  have hfl : (takeTexts 8 24 s6).2.length ≤ 8 := some_len (by decide)
  have hft : ∀ x ∈ (takeTexts 8 24 s6).2, x.size ≤ big9 := some_ok (goes_text 24) (fun s hs => text_ok hs) h6
  have hpl : (takePrims 24 (takeTexts 8 24 s6).1).2.length ≤ 24 := some_len (by decide)
  have hps : ∀ p ∈ (takePrims 24 (takeTexts 8 24 s6).1).2, SizeP p := some_ok goes_prim (fun s hs => prim_ok hs) h7
  have hrl : (takeRowR 8 s5).2.length ≤ 8 := by rw [rowR_G]; exact manyR9_len (by decide)
  exact ⟨text_ok h3, text_ok h4, by dsimp only; omega, ⟨by dsimp only; omega, hft⟩, by dsimp only; omega, hps⟩
attribute [local irreducible] Cfg Kont StepK Val Con Qops Any Sl Own Blk BlkR Rd Pu ExA AllA Has Pick Ent Elem Beside Callable TI Lone OwnO AndA
set_option maxRecDepth 100000 in
theorem takeRowRef_con (B : ByteArray) (s : St9) (most : Int) (hB : B.size ≤ 4611686018427387904) (h : EndsB B s) : Con Tryz.prog 71 [inS B s, .int .i64 most] [] (γ := Value)
    (fun g => .tuple #[inS B (takeRowR most s).1, g]) (fun _ => True) (fun g => [Sl (eInt .i64) g (takeRowR most s).2]) := by
  have hgn := h.goes goes_num
  have hfar := num_far (s := s)
  have hN := takeNumRef_con B s hB h
  obtain ⟨n, hn⟩ : ∃ n, n = (takeNum s).2 := ⟨_, rfl⟩
  obtain ⟨s1, hs1⟩ : ∃ s1, s1 = (takeNum s).1 := ⟨_, rfl⟩
  rw [← hn, ← hs1] at hN
  rw [← hn] at hfar
  rw [← hs1] at hgn
  unfold far9 at hfar
  unfold takeRowR
  rw [← hn, ← hs1]
  obtain ⟨s2, hs2⟩ : ∃ s2, s2 = (if n < 0 ∨ most < n then spoil9 s1 else s1) := ⟨_, rfl⟩
  have hE2 : EndsB B s2 := by rw [hs2]; split <;> exact hgn
  have hp2 : plc B s2 = plc B s1 := by rw [hs2]; split <;> rfl
  rw [← hs2]
  unfold inS inV at *
  refine con_of Tryz.func71 rfl (dd rfl) fun w0 O0 => ?_
  refine c_seq (c_region ?_)
  refine o_step (s_box rfl (dd rfl) (fun b2 => ?_))
  refine o_step (s_alloc ti110 (dd rfl) (fun b4 => ?_))
  refine oV vA ?_
  refine o_nil (c_seq (c_region ?_))
  refine oV (vW Tryz.underlying110 ti110) ?_
  refine oC cl69 (hN) fun _ _ => ?_
  refine oV vM ?_
  refine oV vE ?_
  refine oV vE ?_
  refine o_step (s_store_all ti110 rfl rfl (by first | exact CellsV.lit rfl | exact CellsV.one (by first | exact OneC.lit rfl | exact OneC.sl (hX (by repeat constructor)) )) (by repeat (first | exact OneAll.nil | (refine OneAll.cons ?_ ?_; · first | exact OneC.lit rfl | exact OneC.sl (hX (by repeat constructor)) ) | exact OneAll.rd (hX (by repeat constructor)))) rfl (pB (by repeat constructor)) rfl (?_))
  refine oV vA ?_
  refine o_nil (c_seq (c_seq ?_))
  refine c_env (env' := [(1, _), (2, _), (4, _), (5, _), (6, _)]) (by repeat (first | exact trivial | refine ⟨rfl, ?_⟩)) ?_
  refine c_joinb (d := 22) (decide (n < 0 ∨ most < n)) ?_ ?_
  rotate_left
  · intro J
    refine c_region ?_
    refine oV vM ?_
    refine oV (v_lt rfl rfl) ?_
    refine oV vM ?_
    first | refine o_guard_f rfl rfl (fun g18 => ?_) (fun g18 => ?_) | refine o_guard rfl rfl (fun g18 => ?_) (fun g18 => ?_)
    · refine oV vM ?_
      refine oN ?_
      refine oV vM ?_
      refine oN ?_
      refine oV (v_gt rfl rfl) ?_
      refine oV vQ ?_
      refine o_nil ?_
      exact cJ J rfl (by first | rfl | (simp_all; done) | (simp_all; omega) | (simp; omega))
    · refine oX ?_
      iterate 2 refine oX ?_
      refine oV vT ?_
      refine o_nil ?_
      exact cJ J rfl (by first | rfl | (simp_all; done) | (simp_all; omega) | (simp; omega))
  refine c_joinR (γ := Unit) [(2, _), (4, _), (5, _), (6, _)] (fun _ => True) (fun _ => []) (fun _ => [Blk b2 110 [.string B, .int .i64 (plc B s2), .bool s2.2], Blk b4 110 [.string ⟨#[]⟩, .int .i64 0, .bool false]]) (by repeat (first | exact trivial | refine ⟨rfl, ?_⟩)) ?_ ?_
  rotate_left
  · intro MEET
    skip
    refine c_cond_p rfl (fun hq => ?_) (fun hq => ?_)
    · have e2 : s2.2 = true := by rw [hs2, if_pos hq]; rfl
      rw [hp2, e2] at MEET
      refine c_region ?_
      refine oV (vF 2 Tryz.underlying110 ti4) ?_
      refine o_step (s_store1 ti4 rfl rfl (by first | exact OneC.lit rfl | exact OneC.sl (hX (by repeat constructor)) ) (pB (by repeat constructor)) (by first | decide | exact Nat.le_of_ble_eq_true rfl | simp) (by first | (dsimp only [List.set_cons_succ, List.set_cons_zero]; first | done | exact rfl) | rfl) (?_))
      refine o_nil ?_
      refine cU (MEET (()) (trivial))
    · have e2 : s2.2 = s1.2 := by rw [hs2, if_neg hq]
      rw [hp2, e2] at MEET
      refine c_skip ?_
      refine cU (MEET (()) (trivial))
  rintro ⟨⟩ -
  dsimp only [List.cons_append, List.nil_append]
  refine c_seq (c_region ?_)
  refine oV vA ?_
  refine o_nil (c_seq (c_seq (c_region ?_)))
  refine oV vA ?_
  refine o_nil (c_block ?_)
  refine c_loopR (γ := Nat × St9 × List Int × Value) [(2, _), (4, _), (5, _), (6, _)] (fun g => n.toNat - g.1) (fun g => g.1 ≤ n.toNat ∧ EndsB B g.2.1 ∧ g.2.2.1.length = g.1 ∧ takeMany takeNum (n.toNat - g.1) g.2.1 g.2.2.1 = takeMany takeNum n.toNat s2 []) (fun g => [(8, .int .i64 g.1), (7, g.2.2.2)]) (fun g => [Blk b2 110 [.string B, .int .i64 (plc B g.2.1), .bool g.2.1.2], Blk b4 110 [.string ⟨#[]⟩, .int .i64 0, .bool false], Own (eInt .i64) 3 g.2.2.2 g.2.2.1]) ((0, s2, [], .slice none 0 0)) (⟨Nat.zero_le _, hE2, rfl, rfl⟩) (by repeat (first | exact trivial | refine ⟨rfl, ?_⟩)) (eX (by repeat constructor)) ?_
  rintro ⟨k, sk, out, v⟩ ⟨hk, hEk, hlk, hTk⟩ IH
  dsimp only at hk hEk hlk hTk ⊢
  have hTT := takeNumRef_con B sk hB hEk
  unfold inS inV at hTT
  try dsimp only [List.cons_append, List.nil_append]
  refine c_seq (c_seq ?_)
  refine c_env (env' := [(2, _), (4, _), (5, _), (6, _), (7, _), (8, _)]) (by repeat (first | exact trivial | refine ⟨rfl, ?_⟩)) ?_
  refine c_joinb (d := 31) (decide ((k : Int) < n ∧ sk.2 = false)) ?_ ?_
  rotate_left
  · intro J
    refine c_region ?_
    iterate 2 refine oV vM ?_
    refine oV (v_lt rfl rfl) ?_
    refine oV vM ?_
    first | refine o_guard_t rfl rfl (fun g27 => ?_) (fun g27 => ?_) | refine o_guard rfl rfl (fun g27 => ?_) (fun g27 => ?_)
    · refine oV (vF 2 Tryz.underlying110 ti4) ?_
      refine oN ?_
      refine oV (vL lone4) ?_
      refine oN ?_
      refine oV (v_not rfl) ?_
      refine oV vT ?_
      refine o_nil ?_
      exact cJ J rfl (by first | rfl | (simp_all; done) | (simp_all; omega))
    · refine oX ?_
      iterate 2 refine oX ?_
      refine oV vQ ?_
      refine o_nil ?_
      exact cJ J rfl (by first | rfl | (simp_all; done) | (simp_all; omega))
  refine c_cond_p rfl (fun hlt => ?_) (fun hlt => ?_)
  · have hst := takeMany_step takeNum (n := n.toNat) (k := k) (out := out) (by omega) hlt.2
    refine c_skip (c_seq (c_block (c_seq (c_region ?_))))
    refine oV (vW Tryz.underlying110 ti110) ?_
    refine oC cl69 (hTT) fun _ _ => ?_
    refine oV vM ?_
    refine oV vE ?_
    refine oV vE ?_
    refine o_step (s_alloc ti110 (dd rfl) (fun b9 => ?_))
    refine o_step (s_store_all ti110 rfl rfl (by first | exact CellsV.lit rfl | exact CellsV.one (by first | exact OneC.lit rfl | exact OneC.sl (hX (by repeat constructor)) )) (by repeat (first | exact OneAll.nil | (refine OneAll.cons ?_ ?_; · first | exact OneC.lit rfl | exact OneC.sl (hX (by repeat constructor)) ) | exact OneAll.rd (hX (by repeat constructor)))) rfl (pB (by repeat constructor)) rfl (?_))
    refine oV vA ?_
    refine o_nil (c_seq (c_region ?_))
    refine oV (vW Tryz.underlying110 ti110) ?_
    refine o_step (s_store_all ti110 rfl rfl (by first | exact CellsV.lit rfl | exact CellsV.one (by first | exact OneC.lit rfl | exact OneC.sl (hX (by repeat constructor)) )) (by repeat (first | exact OneAll.nil | (refine OneAll.cons ?_ ?_; · first | exact OneC.lit rfl | exact OneC.sl (hX (by repeat constructor)) ) | exact OneAll.rd (hX (by repeat constructor)))) rfl (pB (by repeat constructor)) rfl (?_))
    refine o_nil (c_region ?_)
    iterate 2 refine oV vM ?_
    refine o_step (s_buildSlice Tryz.underlying22 ti3 rfl rfl rfl (by decide) (by decide) (beside_int .i64 [(takeNum sk).2]) rfl rfl (dd rfl) fun v1 => ?_)
    refine o_step (s_append Tryz.underlying22 ti3 rfl (by decide) rfl rfl (dd rfl) (pB (by repeat constructor)) (pX (by repeat constructor)) rfl (by (first | omega | (simp only [maxLen, List.length_append, List.length_drop, List.length_take, List.length_nil, List.length_cons]; omega))) (by (first | omega | (simp only [maxLen, List.length_append, List.length_drop, List.length_take, List.length_nil, List.length_cons]; omega))) fun v2 => ?_)
    refine oV vA ?_
    refine o_nil (c_inBlock (c_region ?_))
    refine oV vM ?_
    refine oV ((by first | exact v_add64 rfl rfl (by omega) | exact v_add rfl rfl)) ?_
    refine oV vA ?_
    refine o_nil ?_
    refine cU (IH ((k + 1, (takeNum sk).1, out ++ [(takeNum sk).2], v2)) (by first | omega | (dsimp only; omega)) (⟨by dsimp only; omega, hEk.goes goes_num, by simp [hlk], hst.symm.trans hTk⟩))
  · have hend : takeMany takeNum (n.toNat - k) sk out = (sk, out) := by
      cases hb : sk.2 with
      | true => exact takeMany_bad _ _ _ _ hb
      | false => exact takeMany_end _ (by have : ¬ (k : Int) < n := fun q => hlt ⟨q, hb⟩; omega)
    rw [hend] at hTk
    refine c_exit rfl ?_
    refine c_seq (c_region ?_)
    refine oV (vW Tryz.underlying110 ti110) ?_
    refine oV vM ?_
    refine o_step (s_store_all ti110 rfl rfl (by first | exact CellsV.lit rfl | exact CellsV.one (by first | exact OneC.lit rfl | exact OneC.sl (hX (by repeat constructor)) )) (by repeat (first | exact OneAll.nil | (refine OneAll.cons ?_ ?_; · first | exact OneC.lit rfl | exact OneC.sl (hX (by repeat constructor)) ) | exact OneAll.rd (hX (by repeat constructor)))) rfl (pB (by repeat constructor)) rfl (?_))
    refine oV vA ?_
    refine o_nil ?_
    refine c_ret_ct Tryz.func71 rfl ⟨_, Tryz.underlying110⟩ ti110 rfl rfl (hX (by repeat constructor)) fun w O hS => ?_
    exact ⟨v, by rw [← hTk]; rfl, trivial, by rw [← hTk]; exact Ent.get hS (eX (by repeat constructor))⟩
def parseQR (l : List UInt8) : Rq9 := (parseR l).getD (zeroQ 0)
set_option maxRecDepth 100000 in
theorem parseRef_con (B : ByteArray) (l : List UInt8) (hBl : B = sB l) (hl : l.length ≤ big9) : Con Tryz.prog 24 [.string B] [] (γ := Value × Value × Value)
    (fun g => .tuple #[.agg (rqC (parseQR l) g.1 g.2.1 g.2.2).toArray, errV 160 (parseR l).isSome]) (fun _ => True) (fun g => [Sl (eInt .i64) g.1 (parseQR l).2.2.2.2.2.1, Sl eStr g.2.1 (parseQR l).2.2.2.2.2.2.1, Sl ePr g.2.2 (parseQR l).2.2.2.2.2.2.2]) := by
  have hBs : B.size = l.length := by rw [hBl, sB_size]
  have hB : B.size ≤ 4611686018427387904 := by unfold big9 at hl; omega
  have hB9 : B.size ≤ big9 := by omega
  have hst : EndsB B (l, false) ∧ plc B (l, false) = 0 := by have := EndsB.start B false; rwa [show B.data.toList = l by rw [hBl, sB_list]] at this
  obtain ⟨e0, p0⟩ := hst
  have hfine := rq_rawR (s := (l, false)) hl
  have hP : parseR l = if (rawReq (takeRowR 8) (l, false)).1 = ([], false) ∧ RightQ (rawReq (takeRowR 8) (l, false)).2 then some (rawReq (takeRowR 8) (l, false)).2 else none := rfl
  have c1 := takeNumRef_con B (l, false) hB e0
  have e1 := e0.goes goes_num
  obtain ⟨s1, k, h1⟩ : ∃ s1 k, takeNum (l, false) = (s1, k) := ⟨_, _, rfl⟩
  rw [h1] at c1 e1
  have c2 := takeNumRef_con B s1 hB e1
  have e2 := e1.goes goes_num
  obtain ⟨s2, bs, h2⟩ : ∃ s2 k, takeNum s1 = (s2, k) := ⟨_, _, rfl⟩
  rw [h2] at c2 e2
  have c3 := takeNumRef_con B s2 hB e2
  have e3 := e2.goes goes_num
  obtain ⟨s3, id, h3⟩ : ∃ s3 k, takeNum s2 = (s3, k) := ⟨_, _, rfl⟩
  rw [h3] at c3 e3
  have c4 := takeTextRef_con B s3 24 hB e3
  have e4 := e3.goes (goes_text 24)
  obtain ⟨s4, n, h4⟩ : ∃ s4 k, takeText 24 s3 = (s4, k) := ⟨_, _, rfl⟩
  rw [h4] at c4 e4
  have c5 := takeTextRef_con B s4 60 hB e4
  have e5 := e4.goes (goes_text 60)
  obtain ⟨s5, t, h5⟩ : ∃ s5 k, takeText 60 s4 = (s5, k) := ⟨_, _, rfl⟩
  rw [h5] at c5 e5
  have c6 := takeRowRef_con B s5 8 hB e5
  have e6 := e5.goes (goes_rowR 8)
  obtain ⟨s6, dl, h6⟩ : ∃ s6 k, takeRowR 8 s5 = (s6, k) := ⟨_, _, rfl⟩
  rw [h6] at c6 e6
  have c7 := takeTextsRef_con B s6 8 24 hB e6
  have e7 : EndsB B (takeTexts 8 24 s6).1 := e6.goes (goes_some (goes_text 24) 8)
  obtain ⟨s7, fl, h7⟩ : ∃ s7 k, takeTexts 8 24 s6 = (s7, k) := ⟨_, _, rfl⟩
  rw [h7] at c7 e7
  have c8 := takePrimsRef_con B s7 24 hB9 e7
  have e8 : EndsB B (takePrims 24 s7).1 := e7.goes (goes_some goes_prim 24)
  obtain ⟨s8, pl, h8⟩ : ∃ s8 k, takePrims 24 s7 = (s8, k) := ⟨_, _, rfl⟩
  rw [h8] at c8 e8
  have hraw : rawReq (takeRowR 8) (l, false) = (s8, (k, bs, id, n, t, dl, fl, pl)) := by unfold rawReq; simp only [h1, h2, h3, h4, h5, h6, h7, h8]
  rw [hraw] at hfine hP
  have hR := fun dv fv lv => reqRightR_con (k, bs, id, n, t, dl, fl, pl) dv fv lv hfine
  have hend := plc_end6 e8
  unfold inS inV at *
  dsimp only [rqC] at c1 c2 c3 c4 c5 c6 c7 c8 hR hP
  rw [p0] at c1
  refine con_of Tryz.func24 rfl (dd rfl) fun w0 O0 => ?_
  refine c_seq (c_region ?_)
  refine o_step (s_alloc ti26 (dd rfl) (fun b2 => ?_))
  refine oV vA ?_
  refine o_nil (c_seq (c_region ?_))
  refine o_step (s_alloc ti26 (dd rfl) (fun b4 => ?_))
  refine o_nil (c_seq (c_region ?_))
  refine oV vM ?_
  refine oV (v_buildS (places := [(0, 1), (1, 1), (2, 1)]) (cells := [_, .int .i64 0, .bool false]) Tryz.underlying110 ti110 (by kernel_rfl) rfl (by repeat (first | exact PartsC.nil | (apply PartsC.one (by first | exact OneC.lit rfl | exact OneC.sl (hX (by repeat constructor)) )) | (apply PartsC.lit rfl))) rfl) ?_
  refine o_step (s_alloc ti110 (dd rfl) (fun b5 => ?_))
  refine o_step (s_store_all ti110 rfl rfl (by first | exact CellsV.lit rfl | exact CellsV.one (by first | exact OneC.lit rfl | exact OneC.sl (hX (by repeat constructor)) )) (by repeat (first | exact OneAll.nil | (refine OneAll.cons ?_ ?_; · first | exact OneC.lit rfl | exact OneC.sl (hX (by repeat constructor)) ) | exact OneAll.rd (hX (by repeat constructor)))) rfl (pB (by repeat constructor)) rfl (?_))
  refine o_nil (c_seq (c_region ?_))
  refine oV (vW Tryz.underlying110 ti110) ?_
  refine oC cl69 (c1) fun _ _ => ?_
  refine oV vM ?_
  refine oV vE ?_
  refine oV vE ?_
  refine o_step (s_store_all ti110 rfl rfl (by first | exact CellsV.lit rfl | exact CellsV.one (by first | exact OneC.lit rfl | exact OneC.sl (hX (by repeat constructor)) )) (by repeat (first | exact OneAll.nil | (refine OneAll.cons ?_ ?_; · first | exact OneC.lit rfl | exact OneC.sl (hX (by repeat constructor)) ) | exact OneAll.rd (hX (by repeat constructor)))) rfl (pB (by repeat constructor)) rfl (?_))
  refine oV (vF 0 Tryz.underlying26 ti3) ?_
  refine o_step (s_store1 ti3 rfl rfl (by first | exact OneC.lit rfl | exact OneC.sl (hX (by repeat constructor)) ) (pB (by repeat constructor)) (by first | decide | exact Nat.le_of_ble_eq_true rfl | simp) (by first | (dsimp only [List.set_cons_succ, List.set_cons_zero]; first | done | exact rfl) | rfl) (?_))
  refine o_nil (c_seq (c_region ?_))
  refine oV (vW Tryz.underlying110 ti110) ?_
  refine oC cl69 (c2) fun _ _ => ?_
  refine oV vM ?_
  refine oV vE ?_
  refine oV vE ?_
  refine o_step (s_store_all ti110 rfl rfl (by first | exact CellsV.lit rfl | exact CellsV.one (by first | exact OneC.lit rfl | exact OneC.sl (hX (by repeat constructor)) )) (by repeat (first | exact OneAll.nil | (refine OneAll.cons ?_ ?_; · first | exact OneC.lit rfl | exact OneC.sl (hX (by repeat constructor)) ) | exact OneAll.rd (hX (by repeat constructor)))) rfl (pB (by repeat constructor)) rfl (?_))
  refine oV (vF 1 Tryz.underlying26 ti3) ?_
  refine o_step (s_store1 ti3 rfl rfl (by first | exact OneC.lit rfl | exact OneC.sl (hX (by repeat constructor)) ) (pB (by repeat constructor)) (by first | decide | exact Nat.le_of_ble_eq_true rfl | simp) (by first | (dsimp only [List.set_cons_succ, List.set_cons_zero]; first | done | exact rfl) | rfl) (?_))
  refine o_nil (c_seq (c_region ?_))
  refine oV (vW Tryz.underlying110 ti110) ?_
  refine oC cl69 (c3) fun _ _ => ?_
  refine oV vM ?_
  refine oV vE ?_
  refine oV vE ?_
  refine o_step (s_store_all ti110 rfl rfl (by first | exact CellsV.lit rfl | exact CellsV.one (by first | exact OneC.lit rfl | exact OneC.sl (hX (by repeat constructor)) )) (by repeat (first | exact OneAll.nil | (refine OneAll.cons ?_ ?_; · first | exact OneC.lit rfl | exact OneC.sl (hX (by repeat constructor)) ) | exact OneAll.rd (hX (by repeat constructor)))) rfl (pB (by repeat constructor)) rfl (?_))
  refine oV (vF 2 Tryz.underlying26 ti3) ?_
  refine o_step (s_store1 ti3 rfl rfl (by first | exact OneC.lit rfl | exact OneC.sl (hX (by repeat constructor)) ) (pB (by repeat constructor)) (by first | decide | exact Nat.le_of_ble_eq_true rfl | simp) (by first | (dsimp only [List.set_cons_succ, List.set_cons_zero]; first | done | exact rfl) | rfl) (?_))
  refine o_nil (c_seq (c_region ?_))
  refine oV (vW Tryz.underlying110 ti110) ?_
  refine oC cl70 (c4) fun _ _ => ?_
  refine oV vM ?_
  refine oV vE ?_
  refine oV vE ?_
  refine o_step (s_store_all ti110 rfl rfl (by first | exact CellsV.lit rfl | exact CellsV.one (by first | exact OneC.lit rfl | exact OneC.sl (hX (by repeat constructor)) )) (by repeat (first | exact OneAll.nil | (refine OneAll.cons ?_ ?_; · first | exact OneC.lit rfl | exact OneC.sl (hX (by repeat constructor)) ) | exact OneAll.rd (hX (by repeat constructor)))) rfl (pB (by repeat constructor)) rfl (?_))
  refine oV (vF 3 Tryz.underlying26 ti9) ?_
  refine o_step (s_store1 ti9 rfl rfl (by first | exact OneC.lit rfl | exact OneC.sl (hX (by repeat constructor)) ) (pB (by repeat constructor)) (by first | decide | exact Nat.le_of_ble_eq_true rfl | simp) (by first | (dsimp only [List.set_cons_succ, List.set_cons_zero]; first | done | exact rfl) | rfl) (?_))
  refine o_nil (c_seq (c_region ?_))
  refine oV (vW Tryz.underlying110 ti110) ?_
  refine oC cl70 (c5) fun _ _ => ?_
  refine oV vM ?_
  refine oV vE ?_
  refine oV vE ?_
  refine o_step (s_store_all ti110 rfl rfl (by first | exact CellsV.lit rfl | exact CellsV.one (by first | exact OneC.lit rfl | exact OneC.sl (hX (by repeat constructor)) )) (by repeat (first | exact OneAll.nil | (refine OneAll.cons ?_ ?_; · first | exact OneC.lit rfl | exact OneC.sl (hX (by repeat constructor)) ) | exact OneAll.rd (hX (by repeat constructor)))) rfl (pB (by repeat constructor)) rfl (?_))
  refine oV (vF 4 Tryz.underlying26 ti9) ?_
  refine o_step (s_store1 ti9 rfl rfl (by first | exact OneC.lit rfl | exact OneC.sl (hX (by repeat constructor)) ) (pB (by repeat constructor)) (by first | decide | exact Nat.le_of_ble_eq_true rfl | simp) (by first | (dsimp only [List.set_cons_succ, List.set_cons_zero]; first | done | exact rfl) | rfl) (?_))
  refine o_nil (c_seq (c_region ?_))
  refine oV (vW Tryz.underlying110 ti110) ?_
  refine oC cl71 (c6) fun dv _ => ?_
  refine oV vM ?_
  refine oV vE ?_
  refine oV vE ?_
  refine o_step (s_store_all ti110 rfl rfl (by first | exact CellsV.lit rfl | exact CellsV.one (by first | exact OneC.lit rfl | exact OneC.sl (hX (by repeat constructor)) )) (by repeat (first | exact OneAll.nil | (refine OneAll.cons ?_ ?_; · first | exact OneC.lit rfl | exact OneC.sl (hX (by repeat constructor)) ) | exact OneAll.rd (hX (by repeat constructor)))) rfl (pB (by repeat constructor)) rfl (?_))
  refine oV (vF 5 Tryz.underlying26 ti22) ?_
  refine o_step (s_store1 ti22 rfl rfl (by first | exact OneC.lit rfl | exact OneC.sl (hX (by repeat constructor)) ) (pB (by repeat constructor)) (by first | decide | exact Nat.le_of_ble_eq_true rfl | simp) (by first | (dsimp only [List.set_cons_succ, List.set_cons_zero]; first | done | exact rfl) | rfl) (?_))
  refine o_nil (c_seq (c_region ?_))
  refine oV (vW Tryz.underlying110 ti110) ?_
  refine oC cl72 (c7) fun fv _ => ?_
  refine oV vM ?_
  refine oV vE ?_
  refine oV vE ?_
  refine o_step (s_store_all ti110 rfl rfl (by first | exact CellsV.lit rfl | exact CellsV.one (by first | exact OneC.lit rfl | exact OneC.sl (hX (by repeat constructor)) )) (by repeat (first | exact OneAll.nil | (refine OneAll.cons ?_ ?_; · first | exact OneC.lit rfl | exact OneC.sl (hX (by repeat constructor)) ) | exact OneAll.rd (hX (by repeat constructor)))) rfl (pB (by repeat constructor)) rfl (?_))
  refine oV (vF 6 Tryz.underlying26 ti23) ?_
  refine o_step (s_store1 ti23 rfl rfl (by first | exact OneC.lit rfl | exact OneC.sl (hX (by repeat constructor)) ) (pB (by repeat constructor)) (by first | decide | exact Nat.le_of_ble_eq_true rfl | simp) (by first | (dsimp only [List.set_cons_succ, List.set_cons_zero]; first | done | exact rfl) | rfl) (?_))
  refine o_nil (c_seq (c_region ?_))
  refine oV (vW Tryz.underlying110 ti110) ?_
  refine oC cl73 (c8) fun lv _ => ?_
  refine oV vM ?_
  refine oV vE ?_
  refine oV vE ?_
  refine o_step (s_store_all ti110 rfl rfl (by first | exact CellsV.lit rfl | exact CellsV.one (by first | exact OneC.lit rfl | exact OneC.sl (hX (by repeat constructor)) )) (by repeat (first | exact OneAll.nil | (refine OneAll.cons ?_ ?_; · first | exact OneC.lit rfl | exact OneC.sl (hX (by repeat constructor)) ) | exact OneAll.rd (hX (by repeat constructor)))) rfl (pB (by repeat constructor)) rfl (?_))
  refine oV (vF 7 Tryz.underlying26 ti24) ?_
  refine o_step (s_store1 ti24 rfl rfl (by first | exact OneC.lit rfl | exact OneC.sl (hX (by repeat constructor)) ) (pB (by repeat constructor)) (by first | decide | exact Nat.le_of_ble_eq_true rfl | simp) (by first | (dsimp only [List.set_cons_succ, List.set_cons_zero]; first | done | exact rfl) | rfl) (?_))
  refine o_nil (c_seq (c_seq ?_))
  refine c_env (env' := [(0, _), (2, _), (3, _), (4, _), (5, _)]) (by repeat (first | exact trivial | refine ⟨rfl, ?_⟩)) ?_
  refine c_joinb (d := 69) (decide (s8.2 = true ∨ (plc B s8 : Int) < B.size ∨ ¬ RightQ (k, bs, id, n, t, dl, fl, pl))) ?_ ?_
  rotate_left
  · intro J
    refine c_region ?_
    refine oV (vF 2 Tryz.underlying110 ti4) ?_
    refine oV (vL lone4) ?_
    refine oV vM ?_
    first | refine o_guard_f rfl rfl (fun g58 => ?_) (fun g58 => ?_) | refine o_guard rfl rfl (fun g58 => ?_) (fun g58 => ?_)
    · refine oV (vF 1 Tryz.underlying110 ti3) ?_
      refine oN ?_
      refine oV (vL lone3) ?_
      refine oN ?_
      refine oV vM ?_
      refine oN ?_
      refine oV (v_len_str Tryz.underlying9 rfl) ?_
      refine oN ?_
      refine oV (v_lt rfl rfl) ?_
      refine oV vQ ?_
      refine oV vM ?_
      first | refine o_guard_f rfl rfl (fun g65 => ?_) (fun g65 => ?_) | refine o_guard rfl rfl (fun g65 => ?_) (fun g65 => ?_)
      · refine oV (vW Tryz.underlying26 ti26) ?_
        refine oN ?_
        refine o_step (s_callf_keep cl14 (hR dv fv lv) rfl (dd rfl) (rX (by repeat constructor)) (fun _ => sX) (fun _ _ => ?_))
        refine oN ?_
        refine oV (v_not rfl) ?_
        refine oV vQ ?_
        refine o_nil ?_
        exact cJ J rfl (by clear hR hP hfine c1 c2 c3 c4 c5 c6 c7 c8 hend; first | rfl | (simp_all; done) | (rw [← decide_not]; exact decide_eq_decide.2 ⟨fun h => .inr (.inr h), fun h => h.elim (fun a => absurd a (by rw [g58]; decide)) fun h => h.elim (fun a => absurd a g65) fun h => h⟩))
      · refine oX ?_
        iterate 2 refine oX ?_
        refine oV vT ?_
        refine o_nil ?_
        exact cJ J rfl (by clear hR hP hfine c1 c2 c3 c4 c5 c6 c7 c8 hend; first | rfl | (simp_all; done) | (rw [← decide_not]; exact decide_eq_decide.2 ⟨fun h => .inr (.inr h), fun h => h.elim (fun a => absurd a (by rw [g58]; decide)) fun h => h.elim (fun a => absurd a g65) fun h => h⟩))
    · refine oX ?_
      iterate 4 refine oX ?_
      refine oV vT ?_
      refine oV vM ?_
      iterate 3 refine oX ?_
      refine oV vT ?_
      refine o_nil ?_
      exact cJ J rfl (by clear hR hP hfine c1 c2 c3 c4 c5 c6 c7 c8 hend; first | rfl | (simp_all; done) | (rw [← decide_not]; exact decide_eq_decide.2 ⟨fun h => .inr (.inr h), fun h => h.elim (fun a => absurd a (by rw [g58]; decide)) fun h => h.elim (fun a => absurd a g65) fun h => h⟩))
  refine c_cond_p rfl (fun hz => ?_) (fun hz => ?_)
  · have hn : parseR l = none := by
      rw [hP, if_neg]
      rintro ⟨a, b⟩
      rcases hz with z | z | z
      · exact hend.1 (.inl z) a
      · exact hend.1 (.inr z) a
      · exact z b
    have hq0 : parseQR l = zeroQ 0 := by unfold parseQR; rw [hn]; rfl
    refine c_seq (c_region ?_)
    refine oV (v_buildS (places := [(0, 1), (1, 1), (2, 1), (3, 1), (4, 1), (5, 1), (6, 1), (7, 1)]) (cells := [.int .i64 0, .int .i64 0, .int .i64 0, .string ⟨#[]⟩, .string ⟨#[]⟩, .slice none 0 0, .slice none 0 0, .slice none 0 0]) Tryz.underlying26 ti26 (by kernel_rfl) rfl (by repeat (first | exact PartsC.nil | (apply PartsC.one (by first | exact OneC.lit rfl | exact OneC.sl (hX (by repeat constructor)) )) | (apply PartsC.lit rfl))) rfl) ?_
    refine o_step (s_store_all ti26 rfl rfl (by first | exact CellsV.lit rfl | exact CellsV.one (by first | exact OneC.lit rfl | exact OneC.sl (hX (by repeat constructor)) )) (by repeat (first | exact OneAll.nil | (refine OneAll.cons ?_ ?_; · first | exact OneC.lit rfl | exact OneC.sl (hX (by repeat constructor)) ) | exact OneAll.rd (hX (by repeat constructor)))) rfl (pB (by repeat constructor)) rfl (?_))
    refine oV vA ?_
    refine o_nil ?_
    refine c_ret_ct Tryz.func24 rfl ⟨_, Tryz.underlying26⟩ ti26 rfl rfl (hX (by repeat constructor)) fun w O hS => ?_
    exact ⟨(.slice none 0 0, .slice none 0 0, .slice none 0 0), by rw [hq0, hn]; rfl, trivial, by rw [hq0]; exact Ent.get hS (eX (by repeat constructor))⟩
  · have hy : parseR l = some (k, bs, id, n, t, dl, fl, pl) := by
      rw [hP, if_pos]
      exact ⟨Classical.byContradiction fun q => (hend.2 q).elim (fun z => hz (.inl z)) fun z => hz (.inr (.inl z)), Classical.not_not.1 fun q => hz (.inr (.inr q))⟩
    have hq1 : parseQR l = (k, bs, id, n, t, dl, fl, pl) := by unfold parseQR; rw [hy]; rfl
    refine c_skip (c_seq (c_region ?_))
    refine oV (vW Tryz.underlying26 ti26) ?_
    refine o_step (s_store_all ti26 rfl rfl (by first | exact CellsV.lit rfl | exact CellsV.one (by first | exact OneC.lit rfl | exact OneC.sl (hX (by repeat constructor)) )) (by repeat (first | exact OneAll.nil | (refine OneAll.cons ?_ ?_; · first | exact OneC.lit rfl | exact OneC.sl (hX (by repeat constructor)) ) | exact OneAll.rd (hX (by repeat constructor)))) rfl (pB (by repeat constructor)) rfl (?_))
    refine oV vA ?_
    refine o_nil ?_
    refine c_ret_ct Tryz.func24 rfl ⟨_, Tryz.underlying26⟩ ti26 rfl rfl (hX (by repeat constructor)) fun w O hS => ?_
    exact ⟨(dv, fv, lv), by rw [hq1, hy]; rfl, trivial, by rw [hq1]; exact Ent.get hS (eX (by repeat constructor))⟩
def unpackRR (l : List UInt8) : Option Rq9 := if 3000 < l.length then none else parseR l
def unpackER (l : List UInt8) : Value := .int .i64 (if 3000 < l.length then 161 else if (parseR l).isSome then 0 else 160)
def unpackQR (l : List UInt8) : Rq9 := (unpackRR l).getD (zeroQ 0)
set_option maxRecDepth 100000 in
theorem unpackRef_con (B : ByteArray) (l : List UInt8) (hBl : B = sB l) (hl : l.length ≤ big9) : Con Tryz.prog 22 [.string B] [] (γ := Value × Value × Value)
    (fun g => .tuple #[.agg (rqC (unpackQR l) g.1 g.2.1 g.2.2).toArray, unpackER l]) (fun _ => True) (fun g => [Sl (eInt .i64) g.1 (unpackQR l).2.2.2.2.2.1, Sl eStr g.2.1 (unpackQR l).2.2.2.2.2.2.1, Sl ePr g.2.2 (unpackQR l).2.2.2.2.2.2.2]) := by
  have hP := parseRef_con B l hBl hl
  have hBs : B.size = l.length := by rw [hBl, sB_size]
  refine con_of Tryz.func22 rfl (dd rfl) fun w0 O0 => ?_
  refine c_seq (c_region ?_)
  refine o_step (s_alloc ti26 (dd rfl) (fun b2 => ?_))
  refine oV vA ?_
  refine o_nil (c_seq (c_seq (c_region ?_)))
  refine oV vM ?_
  refine oV (v_len_str Tryz.underlying9 rfl) ?_
  refine oV (v_gt rfl rfl) ?_
  refine o_nil ?_
  refine c_cond_p rfl (fun h => ?_) (fun h => ?_)
  · have hq : unpackQR l = zeroQ 0 := by unfold unpackQR unpackRR; rw [if_pos (by omega)]; rfl
    have he : unpackER l = .int .i64 161 := by unfold unpackER; rw [if_pos (by omega)]
    rw [hq, he]
    refine c_seq (c_region ?_)
    refine oV (v_buildS (places := [(0, 1), (1, 1), (2, 1), (3, 1), (4, 1), (5, 1), (6, 1), (7, 1)]) (cells := [.int .i64 0, .int .i64 0, .int .i64 0, .string ⟨#[]⟩, .string ⟨#[]⟩, .slice none 0 0, .slice none 0 0, .slice none 0 0]) Tryz.underlying26 ti26 (by kernel_rfl) rfl (by repeat (first | exact PartsC.nil | (apply PartsC.one (by first | exact OneC.lit rfl | exact OneC.sl (hX (by repeat constructor)) )) | (apply PartsC.lit rfl))) rfl) ?_
    refine o_step (s_store_all ti26 rfl rfl (by first | exact CellsV.lit rfl | exact CellsV.one (by first | exact OneC.lit rfl | exact OneC.sl (hX (by repeat constructor)) )) (by repeat (first | exact OneAll.nil | (refine OneAll.cons ?_ ?_; · first | exact OneC.lit rfl | exact OneC.sl (hX (by repeat constructor)) ) | exact OneAll.rd (hX (by repeat constructor)))) rfl (pB (by repeat constructor)) rfl (?_))
    refine oV vA ?_
    refine o_nil ?_
    refine c_ret_ct Tryz.func22 rfl ⟨_, Tryz.underlying26⟩ ti26 rfl rfl (hX (by repeat constructor)) fun w O hS => ?_
    exact ⟨(.slice none 0 0, .slice none 0 0, .slice none 0 0), rfl, trivial, Ent.get hS (eX (by repeat constructor))⟩
  · have hq : unpackQR l = parseQR l := by unfold unpackQR unpackRR; rw [if_neg (by omega)]; rfl
    have he : unpackER l = errV 160 (parseR l).isSome := by unfold unpackER; rw [if_neg (by omega)]; rfl
    rw [hq, he]
    clear hq
    generalize parseQR l = q at hP ⊢
    obtain ⟨k, bs, id, n, t, dl, fl, pl⟩ := q
    dsimp only [rqC] at hP ⊢
    refine c_skip (c_seq (c_region ?_))
    refine oV vM ?_
    refine oC cl24 (hP) fun g _ => ?_
    refine oV vE ?_
    refine oV vE ?_
    refine o_step (s_store_all ti26 rfl rfl (by first | exact CellsV.lit rfl | exact CellsV.one (by first | exact OneC.lit rfl | exact OneC.sl (hX (by repeat constructor)) )) (by repeat (first | exact OneAll.nil | (refine OneAll.cons ?_ ?_; · first | exact OneC.lit rfl | exact OneC.sl (hX (by repeat constructor)) ) | exact OneAll.rd (hX (by repeat constructor)))) rfl (pB (by repeat constructor)) rfl (?_))
    refine oV vA ?_
    refine o_nil ?_
    refine c_ret_ct Tryz.func22 rfl ⟨_, Tryz.underlying26⟩ ti26 rfl rfl (hX (by repeat constructor)) fun w O hS => ?_
    exact ⟨g, rfl, trivial, Ent.get hS (eX (by repeat constructor))⟩
end Go.Proofs.YtlfehnnmpkohkaaGreatDoor
/- Chapter 16: a response read of bytes: the document's way. -/
namespace Go.Proofs.YtlfehnnmpkohkaaGreatDoor
open Go Go.SL Go.Lib
def resQR (l : List UInt8) : Rs9 := (resR l).getD zeroS
attribute [local irreducible] Cfg Kont StepK Val Con Qops Any Sl Own Blk BlkR Rd Pu ExA AllA Has Pick Ent Elem Beside Callable TI Lone OwnO AndA
set_option maxHeartbeats 1000000 in
set_option maxRecDepth 100000 in
theorem unpackResRef_con (B : ByteArray) (l : List UInt8) (hBl : B = sB l) (hl : l.length ≤ big9) : Con Tryz.prog 29 [.string B] [] (γ := Value × Value × Value × Value)
    (fun g => .tuple #[.agg (rsC (resQR l) g.1 g.2.1 g.2.2.1 g.2.2.2).toArray, errV 160 (resR l).isSome]) (fun _ => True) (fun g => [Sl ePr g.1 (resQR l).2.2.1, Sl (eInt .i64) g.2.1 (resQR l).2.2.2.1, Sl eStr g.2.2.1 (resQR l).2.2.2.2.1, Sl eNt g.2.2.2 (resQR l).2.2.2.2.2]) := by
  have hBs : B.size = l.length := by rw [hBl, sB_size]
  have hB : B.size ≤ 4611686018427387904 := by unfold big9 at hl; omega
  have hB9 : B.size ≤ big9 := by omega
  have hst : EndsB B (l, false) ∧ plc B (l, false) = 0 := by have := EndsB.start B false; rwa [show B.data.toList = l by rw [hBl, sB_list]] at this
  obtain ⟨e0, p0⟩ := hst
  have hP : resR l = if (rawRes (takeRowR 1000) (manyR9 takeNote 1000) (l, false)).1 = ([], false) then some (rawRes (takeRowR 1000) (manyR9 takeNote 1000) (l, false)).2 else none := rfl
  have c1 := takeNumRef_con B (l, false) hB e0
  have e1 := e0.goes goes_num
  obtain ⟨s1, c, h1⟩ : ∃ s1 k, takeNum (l, false) = (s1, k) := ⟨_, _, rfl⟩
  rw [h1] at c1 e1
  have c2 := takeNumRef_con B s1 hB e1
  have e2 := e1.goes goes_num
  obtain ⟨s2, ver, h2⟩ : ∃ s2 k, takeNum s1 = (s2, k) := ⟨_, _, rfl⟩
  rw [h2] at c2 e2
  have c3 := takePrimsRef_con B s2 1000 hB9 e2
  have e3 : EndsB B (takePrims 1000 s2).1 := e2.goes (goes_some goes_prim 1000)
  obtain ⟨s3, pl, h3⟩ : ∃ s3 k, takePrims 1000 s2 = (s3, k) := ⟨_, _, rfl⟩
  rw [h3] at c3 e3
  have c4 := takeRowRef_con B s3 1000 hB e3
  have e4 := e3.goes (goes_rowR 1000)
  obtain ⟨s4, il, h4⟩ : ∃ s4 k, takeRowR 1000 s3 = (s4, k) := ⟨_, _, rfl⟩
  rw [h4] at c4 e4
  have c5 := takeTextsRef_con B s4 1000 60 hB e4
  have e5 : EndsB B (takeTexts 1000 60 s4).1 := e4.goes (goes_some (goes_text 60) 1000)
  obtain ⟨s5, tl, h5⟩ : ∃ s5 k, takeTexts 1000 60 s4 = (s5, k) := ⟨_, _, rfl⟩
  rw [h5] at c5 e5
  have c6 := takeNumRef_con B s5 hB e5
  have e6 := e5.goes goes_num
  have hfar := num_far (s := s5)
  obtain ⟨s6, m, h6⟩ : ∃ s6 k, takeNum s5 = (s6, k) := ⟨_, _, rfl⟩
  rw [h6] at c6 e6 hfar
  dsimp only at hfar
  unfold far9 at hfar
  obtain ⟨s7, hs7⟩ : ∃ s7, s7 = (if m < 0 ∨ 1000 < m then spoil9 s6 else s6) := ⟨_, rfl⟩
  have hE7 : EndsB B s7 := by rw [hs7]; split <;> exact e6
  have hp7 : plc B s7 = plc B s6 := by rw [hs7]; split <;> rfl
  have hmany : manyR9 takeNote 1000 s5 = takeMany takeNote m.toNat s7 [] := by unfold manyR9; rw [h6, hs7]
  have hraw : rawRes (takeRowR 1000) (manyR9 takeNote 1000) (l, false) = ((takeMany takeNote m.toNat s7 []).1, (c, ver, pl, il, tl, (takeMany takeNote m.toNat s7 []).2)) := by unfold rawRes; simp only [h1, h2, h3, h4, h5, hmany]
  rw [hraw] at hP
  unfold inS inV at *
  dsimp only at c1 c2 c3 c4 c5 c6 hP
  rw [p0] at c1
  refine con_of Tryz.func29 rfl (dd rfl) fun w0 O0 => ?_
  refine c_seq (c_region ?_)
  refine o_step (s_alloc ti50 (dd rfl) (fun b2 => ?_))
  refine oV vA ?_
  refine o_nil (c_seq (c_region ?_))
  refine o_step (s_alloc ti50 (dd rfl) (fun b4 => ?_))
  refine o_nil (c_seq (c_region ?_))
  refine oV vM ?_
  refine oV (v_buildS (places := [(0, 1), (1, 1), (2, 1)]) (cells := [_, .int .i64 0, .bool false]) Tryz.underlying110 ti110 (by kernel_rfl) rfl (by repeat (first | exact PartsC.nil | (apply PartsC.one (by first | exact OneC.lit rfl | exact OneC.sl (hX (by repeat constructor)) )) | (apply PartsC.lit rfl))) rfl) ?_
  refine o_step (s_alloc ti110 (dd rfl) (fun b5 => ?_))
  refine o_step (s_store_all ti110 rfl rfl (by first | exact CellsV.lit rfl | exact CellsV.one (by first | exact OneC.lit rfl | exact OneC.sl (hX (by repeat constructor)) )) (by repeat (first | exact OneAll.nil | (refine OneAll.cons ?_ ?_; · first | exact OneC.lit rfl | exact OneC.sl (hX (by repeat constructor)) ) | exact OneAll.rd (hX (by repeat constructor)))) rfl (pB (by repeat constructor)) rfl (?_))
  refine o_nil (c_seq (c_region ?_))
  refine oV (vW Tryz.underlying110 ti110) ?_
  refine oC cl69 (c1) fun _ _ => ?_
  refine oV vM ?_
  refine oV vE ?_
  refine oV vE ?_
  refine o_step (s_store_all ti110 rfl rfl (by first | exact CellsV.lit rfl | exact CellsV.one (by first | exact OneC.lit rfl | exact OneC.sl (hX (by repeat constructor)) )) (by repeat (first | exact OneAll.nil | (refine OneAll.cons ?_ ?_; · first | exact OneC.lit rfl | exact OneC.sl (hX (by repeat constructor)) ) | exact OneAll.rd (hX (by repeat constructor)))) rfl (pB (by repeat constructor)) rfl (?_))
  refine oV (vF 0 Tryz.underlying50 ti3) ?_
  refine o_step (s_store1 ti3 rfl rfl (by first | exact OneC.lit rfl | exact OneC.sl (hX (by repeat constructor)) ) (pB (by repeat constructor)) (by first | decide | exact Nat.le_of_ble_eq_true rfl | simp) (by first | (dsimp only [List.set_cons_succ, List.set_cons_zero]; first | done | exact rfl) | rfl) (?_))
  refine o_nil (c_seq (c_region ?_))
  refine oV (vW Tryz.underlying110 ti110) ?_
  refine oC cl69 (c2) fun _ _ => ?_
  refine oV vM ?_
  refine oV vE ?_
  refine oV vE ?_
  refine o_step (s_store_all ti110 rfl rfl (by first | exact CellsV.lit rfl | exact CellsV.one (by first | exact OneC.lit rfl | exact OneC.sl (hX (by repeat constructor)) )) (by repeat (first | exact OneAll.nil | (refine OneAll.cons ?_ ?_; · first | exact OneC.lit rfl | exact OneC.sl (hX (by repeat constructor)) ) | exact OneAll.rd (hX (by repeat constructor)))) rfl (pB (by repeat constructor)) rfl (?_))
  refine oV (vF 1 Tryz.underlying50 ti3) ?_
  refine o_step (s_store1 ti3 rfl rfl (by first | exact OneC.lit rfl | exact OneC.sl (hX (by repeat constructor)) ) (pB (by repeat constructor)) (by first | decide | exact Nat.le_of_ble_eq_true rfl | simp) (by first | (dsimp only [List.set_cons_succ, List.set_cons_zero]; first | done | exact rfl) | rfl) (?_))
  refine o_nil (c_seq (c_region ?_))
  refine oV (vW Tryz.underlying110 ti110) ?_
  refine oC cl73 (c3) fun lv _ => ?_
  refine oV vM ?_
  refine oV vE ?_
  refine oV vE ?_
  refine o_step (s_store_all ti110 rfl rfl (by first | exact CellsV.lit rfl | exact CellsV.one (by first | exact OneC.lit rfl | exact OneC.sl (hX (by repeat constructor)) )) (by repeat (first | exact OneAll.nil | (refine OneAll.cons ?_ ?_; · first | exact OneC.lit rfl | exact OneC.sl (hX (by repeat constructor)) ) | exact OneAll.rd (hX (by repeat constructor)))) rfl (pB (by repeat constructor)) rfl (?_))
  refine oV (vF 2 Tryz.underlying50 ti24) ?_
  refine o_step (s_store1 ti24 rfl rfl (by first | exact OneC.lit rfl | exact OneC.sl (hX (by repeat constructor)) ) (pB (by repeat constructor)) (by first | decide | exact Nat.le_of_ble_eq_true rfl | simp) (by first | (dsimp only [List.set_cons_succ, List.set_cons_zero]; first | done | exact rfl) | rfl) (?_))
  refine o_nil (c_seq (c_region ?_))
  refine oV (vW Tryz.underlying110 ti110) ?_
  refine oC cl71 (c4) fun iv _ => ?_
  refine oV vM ?_
  refine oV vE ?_
  refine oV vE ?_
  refine o_step (s_store_all ti110 rfl rfl (by first | exact CellsV.lit rfl | exact CellsV.one (by first | exact OneC.lit rfl | exact OneC.sl (hX (by repeat constructor)) )) (by repeat (first | exact OneAll.nil | (refine OneAll.cons ?_ ?_; · first | exact OneC.lit rfl | exact OneC.sl (hX (by repeat constructor)) ) | exact OneAll.rd (hX (by repeat constructor)))) rfl (pB (by repeat constructor)) rfl (?_))
  refine oV (vF 3 Tryz.underlying50 ti22) ?_
  refine o_step (s_store1 ti22 rfl rfl (by first | exact OneC.lit rfl | exact OneC.sl (hX (by repeat constructor)) ) (pB (by repeat constructor)) (by first | decide | exact Nat.le_of_ble_eq_true rfl | simp) (by first | (dsimp only [List.set_cons_succ, List.set_cons_zero]; first | done | exact rfl) | rfl) (?_))
  refine o_nil (c_seq (c_region ?_))
  refine oV (vW Tryz.underlying110 ti110) ?_
  refine oC cl72 (c5) fun tv _ => ?_
  refine oV vM ?_
  refine oV vE ?_
  refine oV vE ?_
  refine o_step (s_store_all ti110 rfl rfl (by first | exact CellsV.lit rfl | exact CellsV.one (by first | exact OneC.lit rfl | exact OneC.sl (hX (by repeat constructor)) )) (by repeat (first | exact OneAll.nil | (refine OneAll.cons ?_ ?_; · first | exact OneC.lit rfl | exact OneC.sl (hX (by repeat constructor)) ) | exact OneAll.rd (hX (by repeat constructor)))) rfl (pB (by repeat constructor)) rfl (?_))
  refine oV (vF 4 Tryz.underlying50 ti23) ?_
  refine o_step (s_store1 ti23 rfl rfl (by first | exact OneC.lit rfl | exact OneC.sl (hX (by repeat constructor)) ) (pB (by repeat constructor)) (by first | decide | exact Nat.le_of_ble_eq_true rfl | simp) (by first | (dsimp only [List.set_cons_succ, List.set_cons_zero]; first | done | exact rfl) | rfl) (?_))
  refine o_nil (c_seq (c_region ?_))
  refine oV (vW Tryz.underlying110 ti110) ?_
  refine oC cl69 (c6) fun _ _ => ?_
  refine oV vM ?_
  refine oV vE ?_
  refine oV vE ?_
  refine o_step (s_store_all ti110 rfl rfl (by first | exact CellsV.lit rfl | exact CellsV.one (by first | exact OneC.lit rfl | exact OneC.sl (hX (by repeat constructor)) )) (by repeat (first | exact OneAll.nil | (refine OneAll.cons ?_ ?_; · first | exact OneC.lit rfl | exact OneC.sl (hX (by repeat constructor)) ) | exact OneAll.rd (hX (by repeat constructor)))) rfl (pB (by repeat constructor)) rfl (?_))
  refine oV vA ?_
  refine o_nil (c_seq (c_seq ?_))
  refine c_env (env' := [(0, _), (2, _), (3, _), (4, _), (5, _), (6, _)]) (by repeat (first | exact trivial | refine ⟨rfl, ?_⟩)) ?_
  refine c_joinb (d := 51) (decide (m < 0 ∨ 1000 < m)) ?_ ?_
  rotate_left
  · intro J
    refine c_region ?_
    refine oV vM ?_
    refine oV (v_lt rfl rfl) ?_
    refine oV vM ?_
    first | refine o_guard_f rfl rfl (fun g48 => ?_) (fun g48 => ?_) | refine o_guard rfl rfl (fun g48 => ?_) (fun g48 => ?_)
    · refine oV vM ?_
      refine oN ?_
      refine oV (v_gt rfl rfl) ?_
      refine oV vQ ?_
      refine o_nil ?_
      exact cJ J rfl (by first | rfl | (simp_all; done) | (simp_all; omega) | (simp; omega))
    · refine oX ?_
      refine oX ?_
      refine oV vT ?_
      refine o_nil ?_
      exact cJ J rfl (by first | rfl | (simp_all; done) | (simp_all; omega) | (simp; omega))
  refine c_joinR (γ := Unit) [(0, _), (2, _), (3, _), (4, _), (5, _), (6, _)] (fun _ => True) (fun _ => []) (fun _ => [Blk b5 110 [.string B, .int .i64 (plc B s7), .bool s7.2], Blk b4 50 [.int .i64 c, .int .i64 ver, lv, iv, tv, .slice none 0 0], Blk b2 50 [.int .i64 0, .int .i64 0, .slice none 0 0, .slice none 0 0, .slice none 0 0, .slice none 0 0], Sl ePr lv pl, Sl (eInt .i64) iv il, Sl eStr tv tl]) (by repeat (first | exact trivial | refine ⟨rfl, ?_⟩)) ?_ ?_
  rotate_left
  · intro MEET
    skip
    refine c_cond_p rfl (fun hq => ?_) (fun hq => ?_)
    · have e2 : s7.2 = true := by rw [hs7, if_pos hq]; rfl
      rw [hp7, e2] at MEET
      refine c_region ?_
      refine oV (vF 2 Tryz.underlying110 ti4) ?_
      refine o_step (s_store1 ti4 rfl rfl (by first | exact OneC.lit rfl | exact OneC.sl (hX (by repeat constructor)) ) (pB (by repeat constructor)) (by first | decide | exact Nat.le_of_ble_eq_true rfl | simp) (by first | (dsimp only [List.set_cons_succ, List.set_cons_zero]; first | done | exact rfl) | rfl) (?_))
      refine o_nil ?_
      refine cU (MEET (()) (trivial))
    · have e2 : s7.2 = s6.2 := by rw [hs7, if_neg hq]
      rw [hp7, e2] at MEET
      refine c_skip ?_
      refine cU (MEET (()) (trivial))
  rintro ⟨⟩ -
  dsimp only [List.cons_append, List.nil_append]
  refine c_seq (c_seq (c_region ?_))
  refine oV vA ?_
  refine o_nil (c_block ?_)
  refine c_loopR (γ := Nat × St9 × List Nt9 × Value) [(0, _), (2, _), (3, _), (4, _), (5, _), (6, _)] (fun j => m.toNat - j.1) (fun j => j.1 ≤ m.toNat ∧ EndsB B j.2.1 ∧ j.2.2.1.length = j.1 ∧ takeMany takeNote (m.toNat - j.1) j.2.1 j.2.2.1 = takeMany takeNote m.toNat s7 []) (fun j => [(7, .int .i64 j.1)]) (fun j => [Blk b5 110 [.string B, .int .i64 (plc B j.2.1), .bool j.2.1.2], Blk b4 50 [.int .i64 c, .int .i64 ver, lv, iv, tv, j.2.2.2], Own eNt 121 j.2.2.2 j.2.2.1, Blk b2 50 [.int .i64 0, .int .i64 0, .slice none 0 0, .slice none 0 0, .slice none 0 0, .slice none 0 0], Sl ePr lv pl, Sl (eInt .i64) iv il, Sl eStr tv tl]) ((0, s7, [], .slice none 0 0)) (⟨Nat.zero_le _, hE7, rfl, rfl⟩) (by repeat (first | exact trivial | refine ⟨rfl, ?_⟩)) (eX (by repeat constructor)) ?_
  rintro ⟨k, sk, out, nv⟩ ⟨hk, hEk, hlk, hTk⟩ IH
  dsimp only at hk hEk hlk hTk ⊢
  try dsimp only [List.cons_append, List.nil_append]
  refine c_seq (c_seq ?_)
  refine c_env (env' := [(0, _), (2, _), (3, _), (4, _), (5, _), (6, _), (7, _)]) (by repeat (first | exact trivial | refine ⟨rfl, ?_⟩)) ?_
  refine c_joinb (d := 60) (decide ((k : Int) < m ∧ sk.2 = false)) ?_ ?_
  rotate_left
  · intro J
    refine c_region ?_
    iterate 2 refine oV vM ?_
    refine oV (v_lt rfl rfl) ?_
    refine oV vM ?_
    first | refine o_guard_t rfl rfl (fun g56 => ?_) (fun g56 => ?_) | refine o_guard rfl rfl (fun g56 => ?_) (fun g56 => ?_)
    · refine oV (vF 2 Tryz.underlying110 ti4) ?_
      refine oN ?_
      refine oV (vL lone4) ?_
      refine oN ?_
      refine oV (v_not rfl) ?_
      refine oV vT ?_
      refine o_nil ?_
      exact cJ J rfl (by first | rfl | (simp_all; done) | (simp_all; omega))
    · refine oX ?_
      iterate 2 refine oX ?_
      refine oV vQ ?_
      refine o_nil ?_
      exact cJ J rfl (by first | rfl | (simp_all; done) | (simp_all; omega))
  refine c_cond_p rfl (fun hlt => ?_) (fun hlt => ?_)
  · have hst := takeMany_step takeNote (n := m.toNat) (k := k) (out := out) (by omega) hlt.2
    have d1 := takeNumRef_con B sk hB hEk
    have g1 := hEk.goes goes_num
    obtain ⟨t1, x1, f1⟩ : ∃ s k, takeNum sk = (s, k) := ⟨_, _, rfl⟩
    rw [f1] at d1 g1
    have d2 := takeFlagRef_con B t1 hB g1
    have g2 := g1.goes goes_flag
    obtain ⟨t2, x2, f2⟩ : ∃ s k, takeFlag t1 = (s, k) := ⟨_, _, rfl⟩
    rw [f2] at d2 g2
    have d3 := takeTextsRef_con B t2 1000 60 hB g2
    have g3 : EndsB B (takeTexts 1000 60 t2).1 := g2.goes (goes_some (goes_text 60) 1000)
    obtain ⟨t3, x3, f3⟩ : ∃ s k, takeTexts 1000 60 t2 = (s, k) := ⟨_, _, rfl⟩
    rw [f3] at d3 g3
    have hnote : takeNote sk = (t3, (x1, x3, x2)) := by unfold takeNote; simp only [f1, f2, f3]
    rw [hnote] at hst
    unfold inS inV at *
    dsimp only at d1 d2 d3 hst g3
    refine c_skip (c_seq (c_block (c_seq (c_region ?_))))
    refine o_step (s_alloc ti121 (dd rfl) (fun b8 => ?_))
    refine o_nil (c_seq (c_region ?_))
    refine oV (vW Tryz.underlying110 ti110) ?_
    refine oC cl69 (d1) fun _ _ => ?_
    refine oV vM ?_
    refine oV vE ?_
    refine oV vE ?_
    refine o_step (s_store_all ti110 rfl rfl (by first | exact CellsV.lit rfl | exact CellsV.one (by first | exact OneC.lit rfl | exact OneC.sl (hX (by repeat constructor)) )) (by repeat (first | exact OneAll.nil | (refine OneAll.cons ?_ ?_; · first | exact OneC.lit rfl | exact OneC.sl (hX (by repeat constructor)) ) | exact OneAll.rd (hX (by repeat constructor)))) rfl (pB (by repeat constructor)) rfl (?_))
    refine oV (vF 0 Tryz.underlying121 ti3) ?_
    refine o_step (s_store1 ti3 rfl rfl (by first | exact OneC.lit rfl | exact OneC.sl (hX (by repeat constructor)) ) (pB (by repeat constructor)) (by first | decide | exact Nat.le_of_ble_eq_true rfl | simp) (by first | (dsimp only [List.set_cons_succ, List.set_cons_zero]; first | done | exact rfl) | rfl) (?_))
    refine o_nil (c_seq (c_region ?_))
    refine oV (vW Tryz.underlying110 ti110) ?_
    refine oC cl76 (d2) fun _ _ => ?_
    refine oV vM ?_
    refine oV vE ?_
    refine oV vE ?_
    refine o_step (s_store_all ti110 rfl rfl (by first | exact CellsV.lit rfl | exact CellsV.one (by first | exact OneC.lit rfl | exact OneC.sl (hX (by repeat constructor)) )) (by repeat (first | exact OneAll.nil | (refine OneAll.cons ?_ ?_; · first | exact OneC.lit rfl | exact OneC.sl (hX (by repeat constructor)) ) | exact OneAll.rd (hX (by repeat constructor)))) rfl (pB (by repeat constructor)) rfl (?_))
    refine oV (vF 2 Tryz.underlying121 ti4) ?_
    refine o_step (s_store1 ti4 rfl rfl (by first | exact OneC.lit rfl | exact OneC.sl (hX (by repeat constructor)) ) (pB (by repeat constructor)) (by first | decide | exact Nat.le_of_ble_eq_true rfl | simp) (by first | (dsimp only [List.set_cons_succ, List.set_cons_zero]; first | done | exact rfl) | rfl) (?_))
    refine o_nil (c_seq (c_region ?_))
    refine oV (vW Tryz.underlying110 ti110) ?_
    refine oC cl72 (d3) fun gt _ => ?_
    refine oV vM ?_
    refine oV vE ?_
    refine oV vE ?_
    refine o_step (s_store_all ti110 rfl rfl (by first | exact CellsV.lit rfl | exact CellsV.one (by first | exact OneC.lit rfl | exact OneC.sl (hX (by repeat constructor)) )) (by repeat (first | exact OneAll.nil | (refine OneAll.cons ?_ ?_; · first | exact OneC.lit rfl | exact OneC.sl (hX (by repeat constructor)) ) | exact OneAll.rd (hX (by repeat constructor)))) rfl (pB (by repeat constructor)) rfl (?_))
    refine oV (vF 1 Tryz.underlying121 ti23) ?_
    refine o_step (s_store1 ti23 rfl rfl (by first | exact OneC.lit rfl | exact OneC.sl (hX (by repeat constructor)) ) (pB (by repeat constructor)) (by first | decide | exact Nat.le_of_ble_eq_true rfl | simp) (by first | (dsimp only [List.set_cons_succ, List.set_cons_zero]; first | done | exact rfl) | rfl) (?_))
    refine o_nil (c_region ?_)
    refine oV (vF 5 Tryz.underlying50 ti48) ?_
    refine oV (vL lone48) ?_
    refine oV (vW Tryz.underlying121 ti121) ?_
    refine o_step (s_buildSlice Tryz.underlying48 ti121 rfl rfl rfl (by decide) (by decide) (beside_agg1 (beside_of (Lp := [Sl eStr gt x3]) (pXs (by repeat constructor)) fun w O => nt_rd w O)) rfl rfl (dd rfl) fun v2 => ?_)
    refine o_step (s_append Tryz.underlying48 ti121 rfl (by decide) rfl rfl (dd rfl) (pB (by repeat constructor)) (pX (by repeat constructor)) rfl (by (first | omega | (simp only [maxLen, List.length_append, List.length_drop, List.length_take, List.length_nil, List.length_cons]; omega))) (by (first | omega | (simp only [maxLen, List.length_append, List.length_drop, List.length_take, List.length_nil, List.length_cons]; omega))) fun v3 => ?_)
    refine oV (vF 5 Tryz.underlying50 ti48) ?_
    refine o_step (s_store1 ti48 rfl rfl (by first | exact OneC.lit rfl | exact OneC.sl (hX (by repeat constructor)) ) (pB (by repeat constructor)) (by first | decide | exact Nat.le_of_ble_eq_true rfl | simp) (by first | (dsimp only [List.set_cons_succ, List.set_cons_zero]; first | done | exact rfl) | rfl) (?_))
    refine o_nil (c_inBlock (c_region ?_))
    refine oV vM ?_
    refine oV ((by first | exact v_add64 rfl rfl (by omega) | exact v_add rfl rfl)) ?_
    refine oV vA ?_
    refine o_nil ?_
    refine cU (IH ((k + 1, t3, out ++ [(x1, x3, x2)], v3)) (by first | omega | (dsimp only; omega)) (⟨by dsimp only; omega, g3, by simp [hlk], hst.symm.trans hTk⟩))
  · have hend : takeMany takeNote (m.toNat - k) sk out = (sk, out) := by
      cases hb : sk.2 with
      | true => exact takeMany_bad _ _ _ _ hb
      | false => exact takeMany_end _ (by have : ¬ (k : Int) < m := fun q => hlt ⟨q, hb⟩; omega)
    rw [hend] at hTk
    rw [← hTk] at hP
    dsimp only at hP
    have hpe := plc_end6 hEk
    refine c_exit rfl ?_
    refine c_seq (c_seq ?_)
    refine c_env (env' := [(0, _), (2, _), (3, _), (4, _), (5, _)]) (by repeat (first | exact trivial | refine ⟨rfl, ?_⟩)) ?_
    refine c_joinb (d := 95) (decide (sk.2 = true ∨ (plc B sk : Int) < B.size)) ?_ ?_
    rotate_left
    · intro J
      refine c_region ?_
      refine oV (vF 2 Tryz.underlying110 ti4) ?_
      refine oV (vL lone4) ?_
      refine oV vM ?_
      first | refine o_guard_f rfl rfl (fun g89 => ?_) (fun g89 => ?_) | refine o_guard rfl rfl (fun g89 => ?_) (fun g89 => ?_)
      · refine oV (vF 1 Tryz.underlying110 ti3) ?_
        refine oN ?_
        refine oV (vL lone3) ?_
        refine oN ?_
        refine oV vM ?_
        refine oN ?_
        refine oV (v_len_str Tryz.underlying9 rfl) ?_
        refine oN ?_
        refine oV (v_lt rfl rfl) ?_
        refine oV vQ ?_
        refine o_nil ?_
        exact cJ J rfl (by first | rfl | (simp_all; done) | (simp_all; omega) | (simp; omega))
      · refine oX ?_
        iterate 4 refine oX ?_
        refine oV vT ?_
        refine o_nil ?_
        exact cJ J rfl (by first | rfl | (simp_all; done) | (simp_all; omega) | (simp; omega))
    refine c_cond_p rfl (fun hz => ?_) (fun hz => ?_)
    · have hn : resR l = none := by rw [hP, if_neg (hpe.1 hz)]
      have hq0 : resQR l = zeroS := by unfold resQR; rw [hn]; rfl
      refine c_seq (c_region ?_)
      refine oV (v_buildS (places := [(0, 1), (1, 1), (2, 1), (3, 1), (4, 1), (5, 1)]) (cells := [.int .i64 0, .int .i64 0, .slice none 0 0, .slice none 0 0, .slice none 0 0, .slice none 0 0]) Tryz.underlying50 ti50 (by kernel_rfl) rfl (by repeat (first | exact PartsC.nil | (apply PartsC.one (by first | exact OneC.lit rfl | exact OneC.sl (hX (by repeat constructor)) )) | (apply PartsC.lit rfl))) rfl) ?_
      refine o_step (s_store_all ti50 rfl rfl (by first | exact CellsV.lit rfl | exact CellsV.one (by first | exact OneC.lit rfl | exact OneC.sl (hX (by repeat constructor)) )) (by repeat (first | exact OneAll.nil | (refine OneAll.cons ?_ ?_; · first | exact OneC.lit rfl | exact OneC.sl (hX (by repeat constructor)) ) | exact OneAll.rd (hX (by repeat constructor)))) rfl (pB (by repeat constructor)) rfl (?_))
      refine oV vA ?_
      refine o_nil ?_
      refine c_ret_ct Tryz.func29 rfl ⟨_, Tryz.underlying50⟩ ti50 rfl rfl (hX (by repeat constructor)) fun w O hS => ?_
      exact ⟨(.slice none 0 0, .slice none 0 0, .slice none 0 0, .slice none 0 0), by rw [hq0, hn]; rfl, trivial, by rw [hq0]; exact Ent.get hS (eX (by repeat constructor))⟩
    · have hy : resR l = some (c, ver, pl, il, tl, out) := by rw [hP, if_pos (Classical.byContradiction fun q => hz (hpe.2 q))]
      have hq1 : resQR l = (c, ver, pl, il, tl, out) := by unfold resQR; rw [hy]; rfl
      refine c_skip (c_seq (c_region ?_))
      refine oV (vW Tryz.underlying50 ti50) ?_
      refine o_step (s_store_all ti50 rfl rfl (by first | exact CellsV.lit rfl | exact CellsV.one (by first | exact OneC.lit rfl | exact OneC.sl (hX (by repeat constructor)) )) (by repeat (first | exact OneAll.nil | (refine OneAll.cons ?_ ?_; · first | exact OneC.lit rfl | exact OneC.sl (hX (by repeat constructor)) ) | exact OneAll.rd (hX (by repeat constructor)))) rfl (pB (by repeat constructor)) rfl (?_))
      refine oV vA ?_
      refine o_nil ?_
      refine c_ret_ct Tryz.func29 rfl ⟨_, Tryz.underlying50⟩ ti50 rfl rfl (hX (by repeat constructor)) fun w O hS => ?_
      exact ⟨(lv, iv, tv, nv), by rw [hq1, hy]; rfl, trivial, by rw [hq1]; exact Ent.get hS (eX (by repeat constructor))⟩
end Go.Proofs.YtlfehnnmpkohkaaGreatDoor
/- Chapter 09: changes and patches, as the document and as the program have them. -/
namespace Go.Proofs.YtlfehnnmpkohkaaGreatDoor
open Go Go.SL Go.Lib
attribute [local irreducible] Cfg Kont StepK Val Con Qops Any Sl Own Blk BlkR Rd Pu ExA AllA Has Pick Ent Elem Beside Callable TI Lone OwnO AndA
set_option maxRecDepth 100000 in
theorem oldPr_con (v : Value) (l : List Pr9) (hl : l.length ≤ 1000000) : Con Tryz.prog 61 [v] [Sl ePr v l] (γ := Value) (fun r => r) (fun _ => True) (fun r => [Own ePr 129 r l]) := by
  refine con_of Tryz.func61 rfl (dd rfl) fun w0 O0 => ?_
  refine c_seq (c_region ?_)
  refine oV vA ?_
  refine o_nil (c_seq (c_region ?_))
  refine oV vA ?_
  refine o_nil (c_seq (c_seq (c_region ?_)))
  refine oV vM ?_
  refine oV ((by first | exact v_len_form Tryz.underlying30 rfl | exact v_len_sl Tryz.underlying30 rfl (hX (by repeat constructor)))) ?_
  refine oV vM ?_
  refine o_nil (c_block ?_)
  refine c_loopR (γ := Nat × Value) [(2, _), (6, _), (7, _)] (fun g => l.length - g.1) (fun g => g.1 ≤ l.length) (fun g => [(8, .int .i64 g.1), (3, g.2)]) (fun g => [Sl ePr v l, Own ePr 129 g.2 (l.take g.1)]) ((0, .slice none 0 0)) (Nat.zero_le _) (by repeat (first | exact trivial | refine ⟨rfl, ?_⟩)) (eX (by repeat constructor)) ?_
  rintro ⟨k, r⟩ hk IH
  dsimp only at hk ⊢
  try dsimp only [List.cons_append, List.nil_append]
  refine c_seq (c_region ?_)
  refine oV (v_lt rfl rfl) ?_
  refine o_nil (c_seq ?_)
  refine c_cond_p rfl (fun hlt => ?_) (fun hlt => ?_)
  · have hk' : k < l.length := by omega
    refine c_skip (c_seq (c_block (c_seq (c_region ?_))))
    refine oV ((by first | exact v_indexAddrN Tryz.underlying30 ti74 rfl rfl (hX (by repeat constructor)) (by omega) | exact v_indexAddr Tryz.underlying30 ti74 rfl rfl (hX (by repeat constructor)) (by omega))) ?_
    refine o_step (s_load_shape ⟨_, Tryz.underlying74⟩ ti74 rfl (dd rfl) (by repeat (first|exact el1 (by omega)|exact el2 (by omega)|exact el3 (by omega)|apply Elem.there)) (pr_open) (fun g => ?_))
    refine o_step (s_alloc ti74 (dd rfl) (fun b5 => ?_))
    refine o_step (s_store_all ti74 rfl rfl (by first | exact CellsV.lit rfl | exact CellsV.one (by first | exact OneC.lit rfl | exact OneC.sl (hX (by repeat constructor)) )) (by repeat (first | exact OneAll.nil | (refine OneAll.cons ?_ ?_; · first | exact OneC.lit rfl | exact OneC.sl (hX (by repeat constructor)) ) | exact OneAll.rd (hX (by repeat constructor)))) rfl (pB (by repeat constructor)) rfl (?_))
    refine o_nil (c_region ?_)
    refine oV vM ?_
    refine oV (vW Tryz.underlying74 ti74) ?_
    refine o_step (s_buildSlice Tryz.underlying24 ti129 rfl rfl rfl (by decide) (by decide) (beside_agg1 (beside_of (Lp := [Sl eStr g.1 l[k].2.2.2.2.1, Sl eStr g.2 l[k].2.2.2.2.2]) (pXs (by repeat constructor)) fun w O => pr_close (z := l[k]) w O)) rfl rfl (dd rfl) fun v1 => ?_)
    refine o_step (s_append Tryz.underlying24 ti129 rfl (by decide) rfl rfl (dd rfl) (pB (by repeat constructor)) (pX (by repeat constructor)) rfl (by (first | omega | (simp only [maxLen, List.length_append, List.length_drop, List.length_take, List.length_nil, List.length_cons]; omega))) (by (first | omega | (simp only [maxLen, List.length_append, List.length_drop, List.length_take, List.length_nil, List.length_cons]; omega))) fun v2 => ?_)
    refine oV vA ?_
    refine o_nil (c_inBlock (c_region ?_))
    refine oV ((by first | exact v_add64 rfl rfl (by omega) | exact v_add rfl rfl)) ?_
    refine oV vM ?_
    refine o_nil ?_
    rw [← List.take_succ_eq_append_getElem hk']
    refine cU (IH ((k + 1, v2)) (by first | omega | (dsimp only; omega)) (by dsimp only; omega))
  · refine c_exit rfl ?_
    refine c_seq (c_region ?_)
    refine oV vM ?_
    refine oV vA ?_
    refine o_nil ?_
    refine c_ret1 Tryz.func61 rfl rfl fun w O hS => ?_
    exact ⟨r, rfl, trivial, by rw [List.take_of_length_le (by omega)] at hS; exact Ent.get hS (eX (by repeat constructor))⟩
end Go.Proofs.YtlfehnnmpkohkaaGreatDoor
/- Chapter 16: the law's own helpers. -/
namespace Go.Proofs.YtlfehnnmpkohkaaGreatDoor
open Go Go.SL Go.Lib
def manyQ (q : Rq9) : Nat := q.2.2.2.1.size + q.2.2.2.2.1.size + q.2.2.2.2.2.1.length + q.2.2.2.2.2.2.1.length + many3 q.2.2.2.2.2.2.2 + sumS q.2.2.2.2.2.2.1
def manyN (n : Nt9) : Nat := n.2.1.length + sumS n.2.1
def sizeS (s : Rs9) : Nat := many3 s.2.2.1 + s.2.2.2.1.length + s.2.2.2.2.1.length + s.2.2.2.2.2.length + sumS s.2.2.2.2.1 + (s.2.2.2.2.2.map manyN).sum
attribute [local irreducible] Cfg Kont StepK Val Con Qops Any Sl Own Blk BlkR Rd Pu ExA AllA Has Pick Ent Elem Beside Callable TI Lone OwnO AndA
set_option maxHeartbeats 1000000 in
set_option maxRecDepth 100000 in
theorem writes6_con (k : Int) : Con Tryz.prog 17 [.int .i64 k] [] (γ := Unit) (fun _ => .bool (decide (0 ≤ k ∧ k ≤ 6))) (fun _ => True) (fun _ => []) := by
  refine con_of Tryz.func17 rfl (dd rfl) fun w0 O0 => ?_
  refine c_seq (c_region ?_)
  refine oV vA ?_
  refine o_nil (c_seq (c_region ?_))
  refine oV vM ?_
  refine oV (v_ge rfl rfl) ?_
  refine oV vM ?_
  refine o_guard_t rfl rfl (fun g => ?_) (fun g => ?_)
  · refine oV vM ?_
    refine oN ?_
    refine oV (v_le rfl rfl) ?_
    refine oV vT ?_
    refine oV vA ?_
    refine o_nil ?_
    refine c_ret1 Tryz.func17 rfl rfl fun w O hS => ?_
    exact ⟨(), congrArg Value.bool (decide_eq_decide.2 ⟨fun h => ⟨g, h⟩, fun h => h.2⟩), trivial, trivial⟩
  · refine oX ?_
    refine oX ?_
    refine oV vQ ?_
    refine oV vA ?_
    refine o_nil ?_
    refine c_ret1 Tryz.func17 rfl rfl fun w O hS => ?_
    exact ⟨(), congrArg Value.bool (decide_eq_false fun h => g h.1).symm, trivial, trivial⟩
set_option maxHeartbeats 1000000 in
set_option maxRecDepth 100000 in
theorem oldQ_con (q : Rq9) (d f l : Value) (hl : q.2.2.2.2.2.2.2.length ≤ 1000000) : Con Tryz.prog 21 [.agg (rqC q d f l).toArray] [Sl (eInt .i64) d q.2.2.2.2.2.1, Sl eStr f q.2.2.2.2.2.2.1, Sl ePr l q.2.2.2.2.2.2.2] (γ := Value) (fun r => .agg (rqC q d f r).toArray) (fun _ => True) (fun r => [Sl (eInt .i64) d q.2.2.2.2.2.1, Sl eStr f q.2.2.2.2.2.2.1, Sl ePr r q.2.2.2.2.2.2.2]) := by
  have h := con_pu (oldPr_con l q.2.2.2.2.2.2.2 hl) fun _ _ _ h => form_of h
  dsimp only [rqC]
  refine con_of Tryz.func21 rfl (dd rfl) fun w0 O0 => ?_
  refine c_seq (c_region ?_)
  refine o_step (s_box rfl (dd rfl) (fun b1 => ?_))
  refine o_step (s_alloc ti26 (dd rfl) (fun b2 => ?_))
  refine o_nil (c_seq ?_)
  refine c_held [BlkR b1 32 [.int .i64 q.1, .int .i64 q.2.1, .int .i64 q.2.2.1, .string q.2.2.2.1, .string q.2.2.2.2.1, d, f, l], Sl (eInt .i64) d q.2.2.2.2.2.1, Sl eStr f q.2.2.2.2.2.2.1] rfl ?_
  refine aT 0 rfl (vF 0 Tryz.underlying32 ti3) ?_
  refine aT 1 rfl (vL lone3) ?_
  refine aT 2 rfl (vF 1 Tryz.underlying32 ti3) ?_
  refine aT 3 rfl (vL lone3) ?_
  refine aT 4 rfl (vF 2 Tryz.underlying32 ti3) ?_
  refine aT 5 rfl (vL lone3) ?_
  refine aT 6 rfl (vF 3 Tryz.underlying32 ti9) ?_
  refine aT 7 rfl (vL lone9) ?_
  refine aT 8 rfl (vF 4 Tryz.underlying32 ti9) ?_
  refine aT 9 rfl (vL lone9) ?_
  refine aT 10 rfl (vF 5 Tryz.underlying32 ti22) ?_
  refine aT 11 rfl (vL lone22) ?_
  refine aT 12 rfl (vF 6 Tryz.underlying32 ti23) ?_
  refine aT 13 rfl (vL lone23) ?_
  refine aT 14 rfl (vF 7 Tryz.underlying32 ti30) ?_
  refine aT 15 rfl (vL lone30) ?_
  refine aO 16 rfl (s_callf cl61 (h) rfl (dd rfl) (pXs (by repeat constructor)) (fun r hr => aK ?_))
  obtain ⟨-, a0, c0, rfl⟩ := hr
  refine aT 17 rfl (v_buildS (places := [(0, 1), (1, 1), (2, 1), (3, 1), (4, 1), (5, 1), (6, 1), (7, 1)]) (cells := [_, _, _, _, _, _, _, _]) Tryz.underlying26 ti26 (by kernel_rfl) rfl (by repeat (first | exact PartsC.nil | (apply PartsC.one (by first | exact OneC.lit rfl | exact OneC.sl (hX (by repeat constructor)) )) | (apply PartsC.lit rfl))) rfl) ?_
  refine aS 18 rfl ti26 ?_
  refine a_done (by kernel_rfl) ?_ _
  refine c_ret_cell Tryz.func21 rfl ⟨_, Tryz.underlying26⟩ ti26 rfl (hX (by repeat constructor)) fun w O hS => ?_
  exact ⟨.slice a0 q.2.2.2.2.2.2.2.length c0, rfl, trivial, Ent.get hS (eX (by repeat constructor))⟩
set_option maxHeartbeats 1000000 in
set_option maxRecDepth 100000 in
theorem oldN_con (v : Value) (l : List Nt9) (hl : l.length ≤ 1000000) : Con Tryz.prog 36 [v] [Sl eNt v l] (γ := Value) (fun r => r) (fun _ => True) (fun r => [Own eNt 121 r l]) := by
  refine con_of Tryz.func36 rfl (dd rfl) fun w0 O0 => ?_
  refine c_seq (c_region ?_)
  refine oV vA ?_
  refine o_nil (c_seq (c_region ?_))
  refine oV vA ?_
  refine o_nil (c_seq (c_seq (c_region ?_)))
  refine oV vM ?_
  refine oV ((by first | exact v_len_form Tryz.underlying53 rfl | exact v_len_sl Tryz.underlying53 rfl (hX (by repeat constructor)))) ?_
  refine oV vM ?_
  refine o_nil (c_block ?_)
  refine c_loopR (γ := Nat × Value) [(2, _), (6, _), (7, _)] (fun g => l.length - g.1) (fun g => g.1 ≤ l.length) (fun g => [(8, .int .i64 g.1), (3, g.2)]) (fun g => [Sl eNt v l, Own eNt 121 g.2 (l.take g.1)]) ((0, .slice none 0 0)) (Nat.zero_le _) (by repeat (first | exact trivial | refine ⟨rfl, ?_⟩)) (eX (by repeat constructor)) ?_
  rintro ⟨k, r⟩ hk IH
  dsimp only at hk ⊢
  try dsimp only [List.cons_append, List.nil_append]
  refine c_seq (c_region ?_)
  refine oV (v_lt rfl rfl) ?_
  refine o_nil (c_seq ?_)
  refine c_cond_p rfl (fun hlt => ?_) (fun hlt => ?_)
  · have hk' : k < l.length := by omega
    refine c_skip (c_seq (c_block (c_seq (c_region ?_))))
    refine oV ((by first | exact v_indexAddrN Tryz.underlying53 ti72 rfl rfl (hX (by repeat constructor)) (by omega) | exact v_indexAddr Tryz.underlying53 ti72 rfl rfl (hX (by repeat constructor)) (by omega))) ?_
    refine o_step (s_load_shape ⟨_, Tryz.underlying72⟩ ti72 rfl (dd rfl) (by repeat (first|exact el1 (by omega)|exact el2 (by omega)|exact el3 (by omega)|apply Elem.there)) (nt_open) (fun g => ?_))
    refine o_step (s_alloc ti72 (dd rfl) (fun b5 => ?_))
    refine o_step (s_store_all ti72 rfl rfl (by first | exact CellsV.lit rfl | exact CellsV.one (by first | exact OneC.lit rfl | exact OneC.sl (hX (by repeat constructor)) )) (by repeat (first | exact OneAll.nil | (refine OneAll.cons ?_ ?_; · first | exact OneC.lit rfl | exact OneC.sl (hX (by repeat constructor)) ) | exact OneAll.rd (hX (by repeat constructor)))) rfl (pB (by repeat constructor)) rfl (?_))
    refine o_nil (c_region ?_)
    refine oV vM ?_
    refine oV (vW Tryz.underlying72 ti72) ?_
    refine o_step (s_buildSlice Tryz.underlying48 ti121 rfl rfl rfl (by decide) (by decide) (beside_agg1 (beside_of (Lp := [Sl eStr g l[k].2.1]) (pXs (by repeat constructor)) fun w O => nt_rd w O)) rfl rfl (dd rfl) fun v1 => ?_)
    refine o_step (s_append Tryz.underlying48 ti121 rfl (by decide) rfl rfl (dd rfl) (pB (by repeat constructor)) (pX (by repeat constructor)) rfl (by (first | omega | (simp only [maxLen, List.length_append, List.length_drop, List.length_take, List.length_nil, List.length_cons]; omega))) (by (first | omega | (simp only [maxLen, List.length_append, List.length_drop, List.length_take, List.length_nil, List.length_cons]; omega))) fun v2 => ?_)
    refine oV vA ?_
    refine o_nil (c_inBlock (c_region ?_))
    refine oV ((by first | exact v_add64 rfl rfl (by omega) | exact v_add rfl rfl)) ?_
    refine oV vM ?_
    refine o_nil ?_
    rw [← List.take_succ_eq_append_getElem hk']
    refine cU (IH ((k + 1, v2)) (by first | omega | (dsimp only; omega)) (by dsimp only; omega))
  · refine c_exit rfl ?_
    refine c_seq (c_region ?_)
    refine oV vM ?_
    refine oV vA ?_
    refine o_nil ?_
    refine c_ret1 Tryz.func36 rfl rfl fun w O hS => ?_
    exact ⟨r, rfl, trivial, by rw [List.take_of_length_le (by omega)] at hS; exact Ent.get hS (eX (by repeat constructor))⟩
set_option maxHeartbeats 1000000 in
set_option maxRecDepth 100000 in
theorem oldS_con (s : Rs9) (l i t n : Value) (hl : s.2.2.1.length ≤ 1000000) (hn : s.2.2.2.2.2.length ≤ 1000000) : Con Tryz.prog 32 [.agg (rsC s l i t n).toArray] [Sl ePr l s.2.2.1, Sl (eInt .i64) i s.2.2.2.1, Sl eStr t s.2.2.2.2.1, Sl eNt n s.2.2.2.2.2] (γ := Value × Value) (fun r => .agg (rsC s r.1 i t r.2).toArray) (fun _ => True) (fun r => [Sl ePr r.1 s.2.2.1, Sl (eInt .i64) i s.2.2.2.1, Sl eStr t s.2.2.2.2.1, Sl eNt r.2 s.2.2.2.2.2]) := by
  have h := con_pu (oldPr_con l s.2.2.1 hl) fun _ _ _ h => form_of h
  have h' := con_pu (oldN_con n s.2.2.2.2.2 hn) fun _ _ _ h => form_of h
  dsimp only [rsC]
  refine con_of Tryz.func32 rfl (dd rfl) fun w0 O0 => ?_
  refine c_seq (c_region ?_)
  refine o_step (s_box rfl (dd rfl) (fun b1 => ?_))
  refine o_step (s_alloc ti50 (dd rfl) (fun b2 => ?_))
  refine o_nil (c_seq ?_)
  refine c_held [BlkR b1 55 [.int .i64 s.1, .int .i64 s.2.1, l, i, t, n], Sl ePr l s.2.2.1, Sl (eInt .i64) i s.2.2.2.1, Sl eStr t s.2.2.2.2.1, Sl eNt n s.2.2.2.2.2] rfl ?_
  refine aT 0 rfl (vF 0 Tryz.underlying55 ti3) ?_
  refine aT 1 rfl (vL lone3) ?_
  refine aT 2 rfl (vF 1 Tryz.underlying55 ti3) ?_
  refine aT 3 rfl (vL lone3) ?_
  refine aT 4 rfl (vF 2 Tryz.underlying55 ti30) ?_
  refine aT 5 rfl (vL lone30) ?_
  refine aT 7 rfl (vF 3 Tryz.underlying55 ti22) ?_
  refine aT 8 rfl (vL lone22) ?_
  refine aT 9 rfl (vF 4 Tryz.underlying55 ti23) ?_
  refine aT 10 rfl (vL lone23) ?_
  refine aT 11 rfl (vF 5 Tryz.underlying55 ti53) ?_
  refine aT 12 rfl (vL lone53) ?_
  refine aO 6 rfl (s_callf cl61 (h) rfl (dd rfl) (pXs (by repeat constructor)) (fun r hr => aK ?_))
  obtain ⟨-, a0, c0, rfl⟩ := hr
  refine aO 13 rfl (s_callf cl36 (h') rfl (dd rfl) (pXs (by repeat constructor)) (fun r' hr' => aK ?_))
  obtain ⟨-, a1, c1, rfl⟩ := hr'
  refine aT 14 rfl (v_buildS (places := [(0, 1), (1, 1), (2, 1), (3, 1), (4, 1), (5, 1)]) (cells := [_, _, _, _, _, _]) Tryz.underlying50 ti50 (by kernel_rfl) rfl (by repeat (first | exact PartsC.nil | (apply PartsC.one (by first | exact OneC.lit rfl | exact OneC.sl (hX (by repeat constructor)) )) | (apply PartsC.lit rfl))) rfl) ?_
  refine aS 15 rfl ti50 ?_
  refine a_done (by kernel_rfl) ?_ _
  refine c_ret_cell Tryz.func32 rfl ⟨_, Tryz.underlying50⟩ ti50 rfl (hX (by repeat constructor)) fun w O hS => ?_
  exact ⟨(.slice a0 s.2.2.1.length c0, .slice a1 s.2.2.2.2.2.length c1), rfl, trivial, Ent.get hS (eX (by repeat constructor))⟩
end Go.Proofs.YtlfehnnmpkohkaaGreatDoor
/- Chapter 16: how much a response has; whether a number is far. -/
namespace Go.Proofs.YtlfehnnmpkohkaaGreatDoor
open Go Go.SL Go.Lib
attribute [local irreducible] Cfg Kont StepK Val Con Qops Any Sl Own Blk BlkR Rd Pu ExA AllA Has Pick Ent Elem Beside Callable TI Lone OwnO AndA
end Go.Proofs.YtlfehnnmpkohkaaGreatDoor
/- Chapter 16: what the law's own look at a request of nothing comes to. -/
namespace Go.Proofs.YtlfehnnmpkohkaaGreatDoor
open Go Go.Lib
def aA : ByteArray := ⟨#[97]⟩
def pA6 : Pr9 := (1, aA, ⟨#[]⟩, 0, [], [])
def sA : Rs9 := (3, 9, [], [4], [], [(2, [aA], false)])
theorem alive_b : sB (reqB (zeroQ 7)) = ⟨#[55, 59, 48, 59, 48, 59, 48, 58, 44, 48, 58, 44, 48, 59, 48, 59, 48, 59]⟩ := by decide +kernel
theorem alive_l : (reqB (zeroQ 7)).length = 18 := by decide +kernel
theorem right7 : RightQ (zeroQ 7) := by decide +kernel
theorem rightA : RightQ (0, 0, 0, ⟨#[]⟩, ⟨#[]⟩, [], [], [pA6]) := by decide +kernel
theorem right0 : ¬ RightQ (zeroQ 0) := by decide +kernel
theorem alive_p : parseP (reqB (zeroQ 7)) = some (zeroQ 7) := parse_enc right7 (by rw [alive_l]; decide)
theorem alive_x : parseP [120] = none := by
  unfold parseP
  rw [if_neg]
  rintro ⟨h, -⟩
  revert h
  decide +kernel
theorem limA : LimS sA := ⟨by decide, by decide, ⟨by decide, fun _ h => by cases h⟩, ⟨by decide, by decide⟩, ⟨by decide, fun _ h => by cases h⟩, by decide, fun n hn => by
  rw [List.mem_singleton.1 hn]
  exact ⟨by decide, by decide, fun s hs => by rw [List.mem_singleton.1 hs]; decide⟩⟩
theorem alive_rl : (resB sA).length = 24 := by decide +kernel
theorem alive_r : resP (resB sA) = some sA := by
  rw [res_same (by rw [alive_rl]; decide)]
  unfold resR
  have h := res_enc limA (fun _ h => by cases h) []
  rw [List.append_nil] at h
  rw [h, if_pos rfl]
end Go.Proofs.YtlfehnnmpkohkaaGreatDoor
/- Rows of bytes: append of a count of zeros to a row of one's own, a row that is made, a literal that is marked as a text's. -/
namespace Go.SL
open Go
theorem zeroCells_u8 (c : Nat) : (Builtin.zeroCells (Value.int .u8 0).cells c).toList = List.replicate c (Value.int .u8 0) := by
  have hz : (Value.int .u8 0).cells = #[.int .u8 0] := rfl
  unfold Builtin.zeroCells
  rw [hz]
  apply List.ext_getElem
  · simp
  · intro i h1 h2
    simp [Nat.mod_one]
theorem bytes_zero {w : World} {O : Perm} (c : Nat) : Rows eByte w O (List.replicate c (Value.int .u8 0)) (List.replicate c (0 : UInt8)) := by
  rw [eByte_rows, List.map_replicate]; rfl
section
variable {E : TypeId} {T : TypeId}
end
section
variable {K : Act → World → Prop} {X : Cx} {kk : List Item} {env : Env} {L L1 L2 : List A} {d : Nat} {T : TypeId} {pos : String} {af : Array Edge} {x y : Operand} {E : TypeId} {v : Value}
/-- make([]byte, n). -/
theorem s_makeBytes {t : TypeId} {nb n : Nat} {l c : Operand} (hu : X.P.underlying t = some (.slice E)) (hE : TI X.P E (.int .u8 0) 1 nb) (hl : env.eval l = some (.int .i64 (n : Nat))) (hc : env.eval c = some (.int .i64 (n : Nat))) (hb : nb * n ≤ 281474976710656) (hm : n ≤ maxLen) (hd : d < X.fn.ntmps)
    (k : ∀ v', Kont X ((d, v') :: env) (Own eByte E v' (List.replicate n 0) :: L) K) : StepK X kk ⟨some d, .makeSlice t l c, T, pos, af, none⟩ env L K := by
  refine s_main (γ := Value) (V := fun u => u) (pu := fun _ => True) (L' := fun v' => Own eByte E v' (List.replicate n 0) :: L) ?_ hd (fun u _ => k u)
  intro a w O ha hst hdom
  obtain ⟨ti, hi, hz0, hsz, hbt⟩ := hE
  have h63' : (n : Int) ≤ 9223372036854775807 := by simp only [maxLen] at hm; omega
  have hb' : (ti.bytes : Int) * (n : Int) ≤ 281474976710656 := by rw [hbt, ← Int.natCast_mul]; omega
  have hrun := run_make (P := X.P) w t E ti (.int .u8 0) hu hi hz0 .i64 .i64 n n (by omega) (Int.le_refl _) hb' h63'
  simp only [Int.toNat_natCast] at hrun
  have hmc : (madeCells (Value.int .u8 0).cells (n * ti.size)).toList = List.replicate n (Value.int .u8 0) := by
    rw [hsz, Nat.mul_one, ← zeroCells_u8]
    have : (Value.int .u8 0).cells = #[.int .u8 0] := rfl
    simp [madeCells, Builtin.zeroCells, this]
  refine ⟨.slice (some ⟨w.heap.size, 0, none⟩) n n, w.alloc (.cells (madeCells (Value.int .u8 0).cells (n * ti.size)) E), fresh w O, ?_, trivial, stars_alloc _ hdom hst ?_, rel_alloc _ hdom⟩
  · simp [execOp, ha.eval hl, ha.eval hc, hrun]
  · refine ⟨fun b => if b = w.heap.size then 2 else 0, fun _ => 0, List.replicate n (Value.int .u8 0), ⟨fun _ => Nat.le_refl _, fun _ => Nat.zero_le _, fun _ _ => rfl, fun _ h => by omega⟩, ⟨by rw [List.length_replicate, List.length_replicate]; exact (Nat.mul_one _).symm, .inr ⟨w.heap.size, n, _, by rw [List.length_replicate], Nat.zero_le _, heap_alloc w _, by rw [List.length_replicate]; exact Nat.le_refl _, hm, ?_, ?_⟩⟩, fun b hb => ?_, bytes_zero n⟩
    · have := congrArg List.length hmc
      rw [Array.length_toList, List.length_replicate] at this
      rw [this]; exact (Nat.mul_one _).symm
    · rw [hmc, List.length_replicate]
      exact List.take_of_length_le (by rw [List.length_replicate]; exact Nat.le_of_eq (Nat.mul_one _).symm)
    · simp only [Value.ownBlock, Option.some.injEq] at hb
      subst hb
      show 2 ≤ if w.heap.size = w.heap.size then 2 else 0
      rw [if_pos rfl]; exact Nat.le_refl _
/-- []byte("..") of a constant: the literal's row, marked. -/
theorem s_markBytes {t : TypeId} {zs : List UInt8} (hu : X.P.underlying t = some (.slice E)) (he : X.P.underlying E = some (.int .u8)) (hx : env.eval x = some v) (hp : Pick (Own eByte E v zs) L L1) (h0 : zs ≠ []) (hd : d < X.fn.ntmps)
    (k : Kont X ((d, v) :: env) (Sl eByte v zs :: L1) K) : StepK X kk ⟨some d, .convert t t x, T, pos, af, none⟩ env L K := by
  refine s_main (γ := Unit) (V := fun _ => v) (pu := fun _ => True) (L' := fun _ => Sl eByte v zs :: L1) ?_ hd (fun _ _ => k)
  intro a w O ha hst hdom
  obtain ⟨O1, O2, s, hO, hs2⟩ := hp w O hst
  obtain ⟨P1, P2, cs, t1, g1, g2, g3⟩ := id hO
  rcases g1.2 with ⟨-, h⟩ | ⟨g, cap, cur, rfl, hbg, hg, hnc, hcm, hcs, htake⟩
  · exact absurd (List.eq_nil_of_length_eq_zero h) h0
  have hb2 : 2 ≤ O1 g := Nat.le_trans (g2 g rfl) (t1.l g)
  have hglt : g < w.heap.size := by
    rcases Nat.lt_or_ge g w.heap.size with h | h
    · exact h
    · rw [Array.getElem?_eq_none h] at hg; cases hg
  obtain ⟨w', hw'⟩ : ∃ w', w' = w.freeze ⟨g, cur.size, none⟩ 1 := ⟨_, rfl⟩
  obtain ⟨f, hheap, hf⟩ : ∃ f : Obj → Obj, w'.heap = w.heap.modify g f ∧ f (.cells cur E (0, 0)) = .cells cur E (cur.size, cur.size + 1) := by
    have e : ∃ f : Obj → Obj, (w.freeze ⟨g, cur.size, none⟩ 1).heap = w.heap.modify g f ∧ f (.cells cur E (0, 0)) = .cells cur E (cur.size, cur.size + 1) := by
      unfold World.freeze
      rw [if_neg (by decide)]
      dsimp only
      exact ⟨_, rfl, rfl⟩
    rw [hw']; exact e
  have hget : w'.heap[g]? = some (.cells cur E (cur.size, cur.size + 1)) := by
    rw [hheap, Array.getElem?_modify, if_pos rfl, hg, Option.map_some, hf]
  have hoth : ∀ b, b ≠ g → w'.heap[b]? = w.heap[b]? := fun b hb => by rw [hheap, Array.getElem?_modify, if_neg (fun e => hb e.symm)]
  have hos : w'.os = w.os ∧ w'.tape = w.tape ∧ w'.output = w.output := by
    rw [hw']; unfold World.freeze; rw [if_neg (by decide)]; exact ⟨rfl, rfl, rfl⟩
  have hsz' : w'.heap.size = w.heap.size := by rw [hheap, Array.size_modify]
  have hrun : (convert t t (.slice (some ⟨g, 0, none⟩) zs.length cap)).run X.P w = .ok (.slice (some ⟨g, 0, none⟩) zs.length cap) w' := by
    have hsh : w.shape? g = some (E, cur.size) := by unfold World.shape?; rw [hg]
    simp [convert, run_underlying hu, run_underlying he, markStringish, hsh, hw']
  have hrel1 : Rel w O1 w' (fun b => min (O1 b) 1) := ⟨hos.1, hos.2.1, hos.2.2, by omega, fun b _ hlt => hoth b fun e => by subst e; omega, fun b _ => Nat.min_le_left _ _, fun b hb => by
    rw [hsz']
    exact hdom b (by have := s.l b; have hb' : min (O1 b) 1 ≠ 0 := hb; omega)⟩
  have hsl : (Sl eByte (.slice (some ⟨g, 0, none⟩) zs.length cap) zs).h w' (fun b => min (O1 b) 1) := by
    have hrows : cs = zs.map fun b => Value.int .u8 (b.toNat : Int) := by have := g3; rw [eByte_rows] at this; exact this
    refine ⟨some ⟨g, 0, none⟩, cap, rfl, hnc, hcm, .inr ⟨g, 0, cs, rfl, ?_, ?_, fun i u hi => ?_⟩⟩
    · show 1 ≤ min (O1 g) 1; omega
    · rw [eByte_rows]; exact hrows
    · have hil := cell_in hi
      rw [← htake, List.getElem?_take] at hi
      split at hi
      · rw [blk_cell hget]; simpa using hi
      · cases hi
  obtain ⟨P, hP, hrel⟩ := step_at hdom s hs2 hrel1 (L' := [Sl eByte (.slice (some ⟨g, 0, none⟩) zs.length cap) zs]) ⟨fun b => min (O1 b) 1, fun _ => 0, ⟨fun _ => Nat.le_refl _, fun _ => Nat.zero_le _, fun _ _ => rfl, fun _ h => by omega⟩, hsl, trivial⟩
  refine ⟨(), w', P, ?_, trivial, hP, hrel⟩
  simp [execOp, ha.eval hx, hrun]
end
section
variable {X : Cx} {ops : Array Oper} {kk : List Item} {env : Env} {L S : List A} {fuel : Nat} {listed : Array Bool}
/-- In a region that draws: a guard that was itself passed over. -/
theorem a_take_offu (i : Nat) {j s : Nat} {want : Bool} {d : Nat} {op : Op} {T : TypeId} {pos : String} {af : Array Edge} (hi : ops[i]? = some ⟨some d, op, T, pos, af, some (j, want)⟩)
    (hj : (ops[j]?).bind (·.dst) = some s) (ht : env.look s = some undef) (hs : Region.noSelect ops = true)
    (hf : Region.free .any ops listed i = true) (hr : (Region.ready .any ops listed).contains i = true) (hS : Ent L S) (hd : d < X.fn.ntmps)
    (k : Any X ops S fuel (listed.setIfInBounds i true) kk ((d, undef) :: env) L) : Any X ops S (fuel + 1) listed kk env L := by
  intro a w O ha hst hrel
  have hy1 : yielded ops a.tmps j = none := by simp [yielded, hj, ha.look s _ ht, undef]
  have hw : ((none : Option Bool) == some want) = false := rfl
  exact wpAnyH_take hi hs hf hr (fun _ _ _ h => by cases h.1) (.inr ⟨by simp only [Region.wanted, hy1]; exact hw, rfl⟩) ⟨O, hS w O hst⟩ (k _ w O (ha.put hd undef) hst hrel)
end
end Go.SL
/- Chapter 16: alive. -/
namespace Go.Proofs.YtlfehnnmpkohkaaGreatDoor
open Go Go.SL Go.Lib
theorem own_sl {α : Type} {e : Enc α} {T : TypeId} {v : Value} {xs : List α} : Ent [Own e T v xs] [Sl e v xs] := fun w O hs => by
  obtain ⟨O1, O2, s, h1, _⟩ := hs
  exact ⟨O1, fun _ => 0, ⟨fun b => s.l b, fun _ => Nat.zero_le _, fun _ _ => rfl, fun _ h => absurd h (by simp)⟩, Own.sl h1, trivial⟩
theorem i64_0 : I64 0 := ⟨by decide, by decide⟩
theorem cntQ (k : Int) (h : I64 k) : CountQ (zeroQ k) := ⟨h, i64_0, i64_0, ⟨Nat.zero_le _, fun _ h => by cases h⟩, Nat.zero_le _, Nat.zero_le _, fun _ h => by cases h⟩
theorem cntA : CountS sA := ⟨⟨by decide, by decide⟩, ⟨by decide, by decide⟩, ⟨by decide, fun _ h => by cases h⟩, ⟨by decide, fun n hn => by rw [List.mem_singleton.1 hn]; exact ⟨by decide, by decide⟩⟩, by decide, by decide, fun n hn => by
  rw [List.mem_singleton.1 hn]
  exact ⟨⟨by decide, by decide⟩, by decide⟩⟩
theorem sizeA : SizeS sA := ⟨⟨by decide, fun _ h => by cases h⟩, by decide, by decide, by decide, fun n hn => by rw [List.mem_singleton.1 hn]; decide⟩
theorem fineA : FineQ (0, 0, 0, ⟨#[]⟩, ⟨#[]⟩, [], [], [pA6]) := ⟨by decide, by decide, by decide, ⟨by decide, fun _ h => by cases h⟩, by decide, fun p hp => by
  rw [List.mem_singleton.1 hp]
  exact ⟨by decide, by decide, ⟨by decide, fun _ h => by cases h⟩, by decide, fun _ h => by cases h⟩⟩
theorem fine0 (k : Int) : FineQ (zeroQ k) := ⟨Nat.zero_le _, Nat.zero_le _, Nat.zero_le _, ⟨Nat.zero_le _, fun _ h => by cases h⟩, Nat.zero_le _, fun _ h => by cases h⟩
attribute [local irreducible] Cfg Kont StepK Val Con Qops Any Sl Own Blk BlkR Rd Pu ExA AllA Has Pick Ent Elem Beside Callable TI Lone OwnO AndA
set_option maxHeartbeats 2000000 in
set_option maxRecDepth 100000 in
theorem alive_con (te : TypeId) (pe : Value) : Con Tryz.prog 11 [] [G1 te pe, G3] (γ := Unit) (fun _ => .bool true) (fun _ => True) (fun _ => []) := by
  have c1 := pack_con (zeroQ 7) (.slice none 0 0) (.slice none 0 0) (.slice none 0 0) (cntQ 7 ⟨by decide, by decide⟩) (by rw [alive_l]; decide)
  have c2 := fun v => unpack_con v (reqB (zeroQ 7)) (by rw [alive_l]; decide) te pe
  have q2 : unpackQ (reqB (zeroQ 7)) = zeroQ 7 := by unfold unpackQ unpackP; rw [if_neg (by rw [alive_l]; decide), alive_p]; rfl
  have e2 : unpackE (reqB (zeroQ 7)) = .int .i64 0 := by unfold unpackE; rw [if_neg (by rw [alive_l]; decide), alive_p]; rfl
  rw [q2, e2] at c2
  have c3 := fun v => unpack_con v [120] (by decide) te pe
  have q3 : unpackQ [120] = zeroQ 0 := by unfold unpackQ unpackP; rw [if_neg (by decide), alive_x]; rfl
  have e3 : unpackE [120] = .int .i64 160 := by unfold unpackE; rw [if_neg (by decide), alive_x]; rfl
  rw [q3, e3] at c3
  have hz : (List.replicate 3001 (0 : UInt8)).length = 3001 := List.length_replicate
  have c4 := fun v => unpack_con v (List.replicate 3001 0) (by rw [hz]; decide) te pe
  have q4 : unpackQ (List.replicate 3001 0) = zeroQ 0 := by unfold unpackQ unpackP; rw [if_pos (by rw [hz]; decide)]; rfl
  have e4 : unpackE (List.replicate 3001 0) = .int .i64 161 := by unfold unpackE; rw [if_pos (by rw [hz]; decide)]
  rw [q4, e4] at c4
  have c5 := fun i n => packRes_con sA (.slice none 0 0) i (.slice none 0 0) n cntA (by rw [alive_rl]; decide)
  have c6 := fun v => unpackRes_con v (resB sA) (by rw [alive_rl]; decide) te pe
  have q6 : resQ (resB sA) = sA := by unfold resQ; rw [alive_r]; rfl
  have e6 : errV 160 (resP (resB sA)).isSome = .int .i64 0 := by rw [alive_r]; rfl
  rw [q6, e6] at c6
  have c7 := fun l i t n i' n' => sameRes_con sA sA l i t n (.slice none 0 0) i' (.slice none 0 0) n' sizeA sizeA
  have c8 := fun l => reqRight_con (0, 0, 0, ⟨#[]⟩, ⟨#[]⟩, [], [], [pA6]) (.slice none 0 0) (.slice none 0 0) l fineA
  have c9 := reqRight_con (zeroQ 0) (.slice none 0 0) (.slice none 0 0) (.slice none 0 0) (fine0 0)
  have cA := fun d f l => sameReq_con (zeroQ 7) (zeroQ 7) d f l (.slice none 0 0) (.slice none 0 0) (.slice none 0 0) (zeroQ_size 7) (zeroQ_size 7)
  rw [decide_eq_true rightA] at c8
  rw [decide_eq_false right0] at c9
  have hb := alive_b
  generalize reqB (zeroQ 7) = bq at c1 c2 hb
  generalize resB sA = br at c5 c6
  unfold sA aA at c5 c6 c7
  unfold pA6 aA at c8
  dsimp only [rqC, rsC] at c1 c2 c3 c4 c5 c6 c7 c8 c9 cA
  refine con_of Tryz.func11 rfl (dd rfl) fun w0 O0 => ?_
  refine c_seq (c_region ?_)
  refine oV vA ?_
  refine o_nil (c_seq (c_region ?_))
  refine oV (v_buildS (places := [(0, 1), (1, 1), (2, 1), (3, 1), (4, 1), (5, 1), (6, 1), (7, 1)]) (cells := [_, .int .i64 0, .int .i64 0, .string ⟨#[]⟩, .string ⟨#[]⟩, .slice none 0 0, .slice none 0 0, .slice none 0 0]) Tryz.underlying32 ti32 (by kernel_rfl) rfl (by repeat (first | exact PartsC.nil | (apply PartsC.one (by first | exact OneC.lit rfl | exact OneC.sl (hX (by repeat constructor)) )) | (apply PartsC.lit rfl))) rfl) ?_
  refine oC cl18 (c1) fun v1 _ => ?_
  refine oV vA ?_
  refine o_nil (c_seq (c_region ?_))
  refine oV vM ?_
  refine o_mk (own_sl (e := eByte) (v := v1)) (pXs (by repeat constructor)) ?_
  refine oC cl20 (c2 v1) fun g2 _ => ?_
  refine oV vM ?_
  refine oV vE ?_
  refine oV vE ?_
  refine o_step (s_alloc ti32 (dd rfl) (fun b2 => ?_))
  refine o_step (s_store_all ti32 rfl rfl (by first | exact CellsV.lit rfl | exact CellsV.one (by first | exact OneC.lit rfl | exact OneC.sl (hX (by repeat constructor)) )) (by repeat (first | exact OneAll.nil | (refine OneAll.cons ?_ ?_; · first | exact OneC.lit rfl | exact OneC.sl (hX (by repeat constructor)) ) | exact OneAll.rd (hX (by repeat constructor)))) rfl (pB (by repeat constructor)) rfl (?_))
  refine oV vA ?_
  refine o_nil (c_seq (c_region ?_))
  refine o_step (s_buildSlice Tryz.underlying38 ti5 rfl rfl rfl (by decide) (by decide) (beside_byte [120]) rfl rfl (dd rfl) fun v3 => ?_)
  refine o_step (s_markBytes Tryz.underlying38 Tryz.underlying5 rfl (pX (by repeat constructor)) (by decide) (dd rfl) ?_)
  refine oC cl20 (c3 v3) fun g3 _ => ?_
  refine oV vM ?_
  refine oV vE ?_
  refine oV vE ?_
  refine o_step (s_alloc ti32 (dd rfl) (fun b4 => ?_))
  refine o_step (s_store_all ti32 rfl rfl (by first | exact CellsV.lit rfl | exact CellsV.one (by first | exact OneC.lit rfl | exact OneC.sl (hX (by repeat constructor)) )) (by repeat (first | exact OneAll.nil | (refine OneAll.cons ?_ ?_; · first | exact OneC.lit rfl | exact OneC.sl (hX (by repeat constructor)) ) | exact OneAll.rd (hX (by repeat constructor)))) rfl (pB (by repeat constructor)) rfl (?_))
  refine oV vA ?_
  refine o_nil (c_seq (c_region ?_))
  refine o_step (s_makeBytes (n := 3001) Tryz.underlying38 ti5 rfl rfl (by decide) (by decide) (dd rfl) fun v4 => ?_)
  refine oC cl20 (c4 v4) fun g4 _ => ?_
  refine oV vM ?_
  refine oV vE ?_
  refine oV vE ?_
  refine o_step (s_alloc ti32 (dd rfl) (fun b6 => ?_))
  refine o_step (s_store_all ti32 rfl rfl (by first | exact CellsV.lit rfl | exact CellsV.one (by first | exact OneC.lit rfl | exact OneC.sl (hX (by repeat constructor)) )) (by repeat (first | exact OneAll.nil | (refine OneAll.cons ?_ ?_; · first | exact OneC.lit rfl | exact OneC.sl (hX (by repeat constructor)) ) | exact OneAll.rd (hX (by repeat constructor)))) rfl (pB (by repeat constructor)) rfl (?_))
  refine oV vA ?_
  refine o_nil (c_seq (c_region ?_))
  refine o_step (s_buildSlice Tryz.underlying22 ti3 rfl rfl rfl (by decide) (by decide) (beside_int .i64 [4]) rfl rfl (dd rfl) fun w1 => ?_)
  refine o_mk (own_sl (e := eInt .i64) (v := w1)) (pXs (by repeat constructor)) ?_
  refine o_step (s_buildSlice Tryz.underlying23 ti9 rfl rfl rfl (by decide) (by decide) (beside_str [⟨#[97]⟩]) rfl rfl (dd rfl) fun w2 => ?_)
  refine oV (v_buildS (places := [(0, 1), (1, 1), (2, 1)]) (cells := [_, _, .bool false]) Tryz.underlying72 ti72 (by kernel_rfl) rfl (by repeat (first | exact PartsC.nil | (apply PartsC.one (by first | exact OneC.lit rfl | exact OneC.sl (hX (by repeat constructor)) )) | (apply PartsC.lit rfl))) rfl) ?_
  refine o_mk (own_sl (e := eStr) (v := w2)) (pXs (by repeat constructor)) ?_
  refine o_step (s_buildSlice Tryz.underlying53 ti72 rfl rfl rfl (by decide) (by decide) (beside_agg1 (beside_of (Lp := [Sl eStr w2 [⟨#[97]⟩]]) (pXs (by repeat constructor)) fun w O => nt_rd w O)) rfl rfl (dd rfl) fun w3 => ?_)
  refine oV (v_buildS (places := [(0, 1), (1, 1), (2, 1), (3, 1), (4, 1), (5, 1)]) (cells := [_, _, .slice none 0 0, _, .slice none 0 0, _]) Tryz.underlying55 ti55 (by kernel_rfl) rfl (by repeat (first | exact PartsC.nil | (apply PartsC.one (by first | exact OneC.lit rfl | exact OneC.sl (hX (by repeat constructor)) )) | (apply PartsC.lit rfl))) rfl) ?_
  refine o_step (s_alloc ti55 (dd rfl) (fun b8 => ?_))
  refine o_step (s_store_all ti55 rfl rfl (by first | exact CellsV.lit rfl | exact CellsV.one (by first | exact OneC.lit rfl | exact OneC.sl (hX (by repeat constructor)) )) (by repeat (first | exact OneAll.nil | (refine OneAll.cons ?_ ?_; · first | exact OneC.lit rfl | exact OneC.sl (hX (by repeat constructor)) ) | exact OneAll.rd (hX (by repeat constructor)))) rfl (pB (by repeat constructor)) rfl (?_))
  refine o_nil (c_seq (c_region ?_))
  refine oV (vW Tryz.underlying55 ti55) ?_
  refine o_mk (own_sl (e := eNt) (v := w3)) (pXs (by repeat constructor)) ?_
  refine oC cl26 (c5 w1 w3) fun u1 _ => ?_
  refine oC cl30 (c6 u1) fun g6 _ => ?_
  refine oV vM ?_
  refine oV vE ?_
  refine oV vE ?_
  refine o_step (s_alloc ti55 (dd rfl) (fun b9 => ?_))
  refine o_step (s_store_all ti55 rfl rfl (by first | exact CellsV.lit rfl | exact CellsV.one (by first | exact OneC.lit rfl | exact OneC.sl (hX (by repeat constructor)) )) (by repeat (first | exact OneAll.nil | (refine OneAll.cons ?_ ?_; · first | exact OneC.lit rfl | exact OneC.sl (hX (by repeat constructor)) ) | exact OneAll.rd (hX (by repeat constructor)))) rfl (pB (by repeat constructor)) rfl (?_))
  refine oV vA ?_
  refine o_nil (c_seq (c_region ?_))
  refine oV vM ?_
  refine oV (v_conv_bytes Tryz.underlying38 Tryz.underlying5 Tryz.underlying9 rfl (hX (by repeat constructor))) ?_
  refine oV (v_seq rfl rfl) ?_
  refine oV vM ?_
  refine o_guard rfl rfl (fun _ => ?_) (fun h_ => absurd ((show _ = true from decide_eq_true hb).symm.trans h_) (by decide))
  refine oV vM ?_
  refine oN ?_
  refine oV (v_eq rfl rfl) ?_
  refine oV vT ?_
  refine oV vM ?_
  refine o_guard rfl rfl (fun _ => ?_) (fun h_ => absurd ((show _ = true from rfl).symm.trans h_) (by decide))
  refine oV (vF 0 Tryz.underlying32 ti3) ?_
  refine oN ?_
  refine oV (vL lone3) ?_
  refine oN ?_
  refine oV (v_eq rfl rfl) ?_
  refine oV vT ?_
  refine oV vM ?_
  refine o_guard rfl rfl (fun _ => ?_) (fun h_ => absurd ((show _ = true from rfl).symm.trans h_) (by decide))
  refine oV vM ?_
  refine oN ?_
  refine oV (v_eq rfl rfl) ?_
  refine oV vT ?_
  refine oV vM ?_
  refine o_guard rfl rfl (fun _ => ?_) (fun h_ => absurd ((show _ = true from rfl).symm.trans h_) (by decide))
  refine oV vM ?_
  refine oN ?_
  refine oV (v_eq rfl rfl) ?_
  refine oV vT ?_
  refine oV vM ?_
  refine o_guard rfl rfl (fun _ => ?_) (fun h_ => absurd ((show _ = true from rfl).symm.trans h_) (by decide))
  refine oV vM ?_
  refine oN ?_
  refine oV (v_eq rfl rfl) ?_
  refine oV vT ?_
  refine oV vM ?_
  refine o_guard rfl rfl (fun _ => ?_) (fun h_ => absurd ((show _ = true from rfl).symm.trans h_) (by decide))
  refine oV (vW Tryz.underlying55 ti55) ?_
  refine oN ?_
  refine oV (vW Tryz.underlying55 ti55) ?_
  refine oN ?_
  refine oC cl34 (c7 g6.1 g6.2.1 g6.2.2.1 g6.2.2.2 w1 w3) fun _ _ => ?_
  refine oV vT ?_
  refine oV vM ?_
  refine o_guard rfl rfl (fun _ => ?_) (fun h_ => absurd ((show _ = true from decide_eq_true rfl).symm.trans h_) (by decide))
  refine oV (v_buildS (places := [(0, 1), (1, 1), (2, 1), (3, 1), (4, 1), (5, 1)]) (cells := [_, _, .string ⟨#[]⟩, .int .i64 0, .slice none 0 0, .slice none 0 0]) Tryz.underlying74 ti74 (by kernel_rfl) rfl (by repeat (first | exact PartsC.nil | (apply PartsC.one (by first | exact OneC.lit rfl | exact OneC.sl (hX (by repeat constructor)) )) | (apply PartsC.lit rfl))) rfl) ?_
  refine oN ?_
  refine o_step (s_buildSlice Tryz.underlying30 ti74 rfl rfl rfl (by decide) (by decide) (beside_agg1 (beside_of (Lp := [Sl eStr (.slice none 0 0) [], Sl eStr (.slice none 0 0) []]) (pXs (by repeat constructor)) fun w O => pr_close (z := (1, ⟨#[97]⟩, ⟨#[]⟩, 0, [], [])) w O)) rfl rfl (dd rfl) fun w4 => ?_)
  refine oN ?_
  refine oV (v_buildS (places := [(0, 1), (1, 1), (2, 1), (3, 1), (4, 1), (5, 1), (6, 1), (7, 1)]) (cells := [_, .int .i64 0, .int .i64 0, .string ⟨#[]⟩, .string ⟨#[]⟩, .slice none 0 0, .slice none 0 0, _]) Tryz.underlying32 ti32 (by kernel_rfl) rfl (by repeat (first | exact PartsC.nil | (apply PartsC.one (by first | exact OneC.lit rfl | exact OneC.sl (hX (by repeat constructor)) )) | (apply PartsC.lit rfl))) rfl) ?_
  refine oN ?_
  refine oC cl12 (c8 w4) fun _ _ => ?_
  refine oV vT ?_
  refine oV vM ?_
  refine o_guard rfl rfl (fun _ => ?_) (fun h_ => absurd ((show _ = true from rfl).symm.trans h_) (by decide))
  refine oV (v_buildS (places := [(0, 1), (1, 1), (2, 1), (3, 1), (4, 1), (5, 1), (6, 1), (7, 1)]) (cells := [_, .int .i64 0, .int .i64 0, .string ⟨#[]⟩, .string ⟨#[]⟩, .slice none 0 0, .slice none 0 0, .slice none 0 0]) Tryz.underlying32 ti32 (by kernel_rfl) rfl (by repeat (first | exact PartsC.nil | (apply PartsC.one (by first | exact OneC.lit rfl | exact OneC.sl (hX (by repeat constructor)) )) | (apply PartsC.lit rfl))) rfl) ?_
  refine oN ?_
  refine oC cl12 (c9) fun _ _ => ?_
  refine oN ?_
  refine oV (v_not rfl) ?_
  refine oV vT ?_
  refine oV vM ?_
  refine o_guard rfl rfl (fun _ => ?_) (fun h_ => absurd ((show _ = true from rfl).symm.trans h_) (by decide))
  refine o_step (s_callf_keep cl17 (writes6_con 6) rfl (dd rfl) (rX (by repeat constructor)) (fun _ => sX) (fun _ _ => ?_))
  refine oV vT ?_
  refine oV vM ?_
  refine o_guard rfl rfl (fun _ => ?_) (fun h_ => absurd ((show _ = true from decide_eq_true (by decide)).symm.trans h_) (by decide))
  refine o_step (s_callf_keep cl17 (writes6_con 7) rfl (dd rfl) (rX (by repeat constructor)) (fun _ => sX) (fun _ _ => ?_))
  refine oN ?_
  refine oV (v_not rfl) ?_
  refine oV vT ?_
  refine oV vM ?_
  refine o_guard rfl rfl (fun _ => ?_) (fun h_ => absurd ((show _ = true from (by rw [decide_eq_false (by decide)]; rfl)).symm.trans h_) (by decide))
  refine oV (vW Tryz.underlying32 ti32) ?_
  refine oN ?_
  refine oV (v_buildS (places := [(0, 1), (1, 1), (2, 1), (3, 1), (4, 1), (5, 1), (6, 1), (7, 1)]) (cells := [_, .int .i64 0, .int .i64 0, .string ⟨#[]⟩, .string ⟨#[]⟩, .slice none 0 0, .slice none 0 0, .slice none 0 0]) Tryz.underlying32 ti32 (by kernel_rfl) rfl (by repeat (first | exact PartsC.nil | (apply PartsC.one (by first | exact OneC.lit rfl | exact OneC.sl (hX (by repeat constructor)) )) | (apply PartsC.lit rfl))) rfl) ?_
  refine oN ?_
  refine oC cl15 (cA g2.1 g2.2.1 g2.2.2) fun _ _ => ?_
  refine oV vT ?_
  refine oV vA ?_
  refine o_nil ?_
  refine c_ret1 Tryz.func11 rfl rfl fun w O hS => ?_
  exact ⟨(), congrArg Value.bool (decide_eq_true rfl), trivial, trivial⟩
end Go.Proofs.YtlfehnnmpkohkaaGreatDoor
/- Chapter 16: ReqUnpacks. -/
namespace Go.Proofs.YtlfehnnmpkohkaaGreatDoor
open Go Go.SL Go.Lib
theorem zero_l : (reqB (zeroQ 0)).length = 18 := by decide +kernel
theorem parseQ_size {l : List UInt8} (hl : l.length ≤ big9) : SizeQ (parseQ l) ∧ FineQ (parseQ l) ∧ CountQ (parseQ l) ∧ (reqB (parseQ l)).length ≤ 100000000 := by
  obtain ⟨h1, h2, h3⟩ := rq_raw (s := (l, false)) hl
  unfold parseQ parseP
  split
  · exact ⟨h1.size, h1, h2, h3⟩
  · exact ⟨zeroQ_size 0, fine0 0, cntQ 0 i64_0, by show (reqB (zeroQ 0)).length ≤ _; rw [zero_l]; decide⟩
theorem unpackQ_size {l : List UInt8} (hl : l.length ≤ big9) : SizeQ (unpackQ l) ∧ FineQ (unpackQ l) ∧ CountQ (unpackQ l) ∧ (reqB (unpackQ l)).length ≤ 100000000 := by
  unfold unpackQ unpackP
  split
  · exact ⟨zeroQ_size 0, fine0 0, cntQ 0 i64_0, by show (reqB (zeroQ 0)).length ≤ _; rw [zero_l]; decide⟩
  · exact parseQ_size hl
theorem sameRef_q {l : List UInt8} (hl : l.length ≤ big9) : parseQR l = parseQ l ∧ (parseR l).isSome = (parseP l).isSome ∧ unpackQR l = unpackQ l ∧ unpackER l = unpackE l := by
  have h := parse_same hl
  refine ⟨by unfold parseQR parseQ; rw [h], by rw [h], by unfold unpackQR unpackRR unpackQ unpackP; rw [h], by unfold unpackER unpackE; rw [h]⟩
/-- What Unpack tells, where there is no error. -/
theorem unpack_ok {l : List UInt8} {e : Int} (h : unpackE l = .int .i64 e) (he : e = 0) : RightQ (unpackQ l) ∧ reqB (unpackQ l) = l := by
  subst he
  unfold unpackE at h
  unfold unpackQ unpackP
  split at h
  · cases h
  · rename_i h3
    rw [if_neg h3]
    split at h
    · rename_i h4
      obtain ⟨q, hq⟩ := Option.isSome_iff_exists.1 h4
      rw [hq]
      exact parseP_some hq
    · cases h
attribute [local irreducible] Cfg Kont StepK Val Con Qops Any Sl Own Blk BlkR Rd Pu ExA AllA Has Pick Ent Elem Beside Callable TI Lone OwnO AndA
set_option maxHeartbeats 2000000 in
set_option maxRecDepth 100000 in
theorem unpacks_con (v : Value) (l : List UInt8) (te : TypeId) (pe : Value) (hl : l.length ≤ 140737488355328) : Con Tryz.prog 5 [v] [Sl eByte v l, G1 te pe, G3] (γ := Unit) (fun _ => .bool true) (fun _ => True) (fun _ => []) := by
  have hal := alive_con te pe
  refine con_of Tryz.func5 rfl (dd rfl) fun w0 O0 => ?_
  refine c_seq (c_region ?_)
  refine oV vA ?_
  refine o_nil (c_seq (c_seq (c_region ?_)))
  refine oV vM ?_
  refine oV ((by first | exact v_len_form Tryz.underlying38 rfl | exact v_len_sl Tryz.underlying38 rfl (hX (by repeat constructor)))) ?_
  refine oV (v_gt rfl rfl) ?_
  refine o_nil ?_
  refine c_cond_p rfl (fun h => ?_) (fun h => ?_)
  · refine c_seq (c_region ?_)
    refine oC cl11 (hal) fun _ _ => ?_
    refine oV vA ?_
    refine o_nil ?_
    refine c_ret1 Tryz.func5 rfl rfl fun w O hS => ?_
    exact ⟨(), rfl, trivial, trivial⟩
  · have hl9 : l.length ≤ big9 := by unfold big9; omega
    obtain ⟨r1, r2, r3, r4⟩ := sameRef_q hl9
    obtain ⟨zq, -, -, -⟩ := parseQ_size hl9
    obtain ⟨zu, fu, cu, lu⟩ := unpackQ_size hl9
    obtain ⟨e, he⟩ : ∃ e, unpackE l = .int .i64 e := ⟨_, rfl⟩
    have hok := unpack_ok he
    have k1 := unpack_con v l hl9 te pe
    have k2 := unpackRef_con (sB l) l rfl hl9
    have k3 := parse_con v l hl9 te pe
    have k4 := parseRef_con (sB l) l rfl hl9
    rw [r3, r4, he] at k2
    rw [he] at k1
    rw [r1, r2] at k4
    generalize unpackQ l = u at k1 k2 zu fu cu lu hok
    generalize parseQ l = q at k3 k4 zq
    unfold errV at k3 k4
    have o1 := fun d f l => oldQ_con q d f l zq.2.2.1
    have o2 := fun d f l => oldQ_con u d f l zu.2.2.1
    have s1 := fun d f l d' f' l' => sameReqR_con q q d f l d' f' l' zq zq
    have s2 := fun d f l d' f' l' => sameReqR_con u u d f l d' f' l' zu zu
    have p1 := fun d f l => pack_con u d f l cu (Nat.le_trans lu (by decide))
    have p2 := fun d f l => reqRight_con u d f l fu
    dsimp only [rqC] at k1 k2 k3 k4 o1 o2 p1
    refine c_skip (c_seq (c_region ?_))
    refine oV vM ?_
    refine oC cl20 (k1) fun g1 _ => ?_
    refine oV vM ?_
    refine oV vE ?_
    refine oV vE ?_
    refine o_step (s_alloc ti32 (dd rfl) (fun b3 => ?_))
    refine o_step (s_store_all ti32 rfl rfl (by first | exact CellsV.lit rfl | exact CellsV.one (by first | exact OneC.lit rfl | exact OneC.sl (hX (by repeat constructor)) )) (by repeat (first | exact OneAll.nil | (refine OneAll.cons ?_ ?_; · first | exact OneC.lit rfl | exact OneC.sl (hX (by repeat constructor)) ) | exact OneAll.rd (hX (by repeat constructor)))) rfl (pB (by repeat constructor)) rfl (?_))
    refine oV vA ?_
    refine o_nil (c_seq (c_region ?_))
    refine oV vM ?_
    refine oV (v_conv_bytes Tryz.underlying38 Tryz.underlying5 Tryz.underlying9 rfl (hX (by repeat constructor))) ?_
    refine oC cl22 (k2) fun g2 _ => ?_
    refine oV vM ?_
    refine oV vE ?_
    refine oV vE ?_
    refine o_step (s_alloc ti26 (dd rfl) (fun b5 => ?_))
    refine o_step (s_store_all ti26 rfl rfl (by first | exact CellsV.lit rfl | exact CellsV.one (by first | exact OneC.lit rfl | exact OneC.sl (hX (by repeat constructor)) )) (by repeat (first | exact OneAll.nil | (refine OneAll.cons ?_ ?_; · first | exact OneC.lit rfl | exact OneC.sl (hX (by repeat constructor)) ) | exact OneAll.rd (hX (by repeat constructor)))) rfl (pB (by repeat constructor)) rfl (?_))
    refine oV vA ?_
    refine o_nil (c_seq (c_region ?_))
    refine oV vM ?_
    refine oC cl23 (k3) fun g3 _ => ?_
    refine oV vM ?_
    refine oV vE ?_
    refine oV vE ?_
    refine o_step (s_alloc ti32 (dd rfl) (fun b7 => ?_))
    refine o_step (s_store_all ti32 rfl rfl (by first | exact CellsV.lit rfl | exact CellsV.one (by first | exact OneC.lit rfl | exact OneC.sl (hX (by repeat constructor)) )) (by repeat (first | exact OneAll.nil | (refine OneAll.cons ?_ ?_; · first | exact OneC.lit rfl | exact OneC.sl (hX (by repeat constructor)) ) | exact OneAll.rd (hX (by repeat constructor)))) rfl (pB (by repeat constructor)) rfl (?_))
    refine oV vA ?_
    refine o_nil (c_seq (c_region ?_))
    refine oV vM ?_
    refine oV (v_conv_bytes Tryz.underlying38 Tryz.underlying5 Tryz.underlying9 rfl (hX (by repeat constructor))) ?_
    refine oC cl24 (k4) fun g4 _ => ?_
    refine oV vM ?_
    refine oV vE ?_
    refine oV vE ?_
    refine o_step (s_alloc ti26 (dd rfl) (fun b9 => ?_))
    refine o_step (s_store_all ti26 rfl rfl (by first | exact CellsV.lit rfl | exact CellsV.one (by first | exact OneC.lit rfl | exact OneC.sl (hX (by repeat constructor)) )) (by repeat (first | exact OneAll.nil | (refine OneAll.cons ?_ ?_; · first | exact OneC.lit rfl | exact OneC.sl (hX (by repeat constructor)) ) | exact OneAll.rd (hX (by repeat constructor)))) rfl (pB (by repeat constructor)) rfl (?_))
    refine oV vA ?_
    refine o_nil (c_seq (c_seq ?_))
    refine c_held [BlkR b7 32 [.int .i64 q.1, .int .i64 q.2.1, .int .i64 q.2.2.1, .string q.2.2.2.1, .string q.2.2.2.2.1, g3.1, g3.2.1, g3.2.2], BlkR b9 26 [.int .i64 q.1, .int .i64 q.2.1, .int .i64 q.2.2.1, .string q.2.2.2.1, .string q.2.2.2.2.1, g4.1, g4.2.1, g4.2.2]] rfl ?_
    refine aT 0 rfl vM ?_
    refine aT 1 rfl vM ?_
    refine aT 2 rfl (v_ne rfl rfl) ?_
    refine aT 3 rfl vM ?_
    refine a_know (s := 40) rfl (show _ = Value.bool false from (congrArg Value.bool (decide_eq_false (fun h => h rfl)))) ?_
    refine aN 4 rfl (vW Tryz.underlying32 ti32) ?_
    refine aN 6 rfl (vW Tryz.underlying26 ti26) ?_
    refine aP 5 rfl (s_callf cl21 (o1 g3.1 g3.2.1 g3.2.2) rfl (dd rfl) (pXs (by repeat constructor)) (fun r5 _ => aK ?_))
    refine aP 7 rfl (s_callf cl16 (s1 g3.1 g3.2.1 r5 g4.1 g4.2.1 g4.2.2) rfl (dd rfl) (pXs (by repeat constructor)) (fun _ _ => aK ?_))
    refine aN 8 rfl (v_not rfl) ?_
    refine aT 9 rfl vQ ?_
    refine a_done (by kernel_rfl) ?_ _
    refine c_cond rfl (fun hz => ?_) (fun hz => ?_)
    · skip
      exact absurd hz (by simp)
    · refine c_skip (c_seq ?_)
      by_cases he0 : e = 0
      · obtain ⟨hu1, hu2⟩ := hok he0
        rw [decide_eq_true hu1] at p2
        rw [hu2] at p1
        refine c_held [Sl eByte v l, BlkR b3 32 [.int .i64 u.1, .int .i64 u.2.1, .int .i64 u.2.2.1, .string u.2.2.2.1, .string u.2.2.2.2.1, g1.1, g1.2.1, g1.2.2], BlkR b5 26 [.int .i64 u.1, .int .i64 u.2.1, .int .i64 u.2.2.1, .string u.2.2.2.1, .string u.2.2.2.2.1, g2.1, g2.2.1, g2.2.2]] rfl ?_
        refine aO 0 rfl (s_callf_keep cl11 (hal) rfl (dd rfl) (rX (by repeat constructor)) (fun _ => sX) (fun _ _ => aK ?_))
        refine aT 1 rfl vM ?_
        refine a_know (s := 48) rfl (show _ = Value.bool true from rfl) ?_
        refine aN 2 rfl vM ?_
        refine aN 3 rfl vM ?_
        refine aN 4 rfl (v_eq rfl rfl) ?_
        refine aT 5 rfl vT ?_
        refine aT 6 rfl vM ?_
        refine a_know (s := 53) rfl (show _ = Value.bool true from (congrArg Value.bool (decide_eq_true rfl))) ?_
        refine aN 7 rfl (vW Tryz.underlying32 ti32) ?_
        refine aN 9 rfl (vW Tryz.underlying26 ti26) ?_
        refine aP 8 rfl (s_callf cl21 (o2 g1.1 g1.2.1 g1.2.2) rfl (dd rfl) (pXs (by repeat constructor)) (fun r8 _ => aK ?_))
        refine aP 10 rfl (s_callf cl16 (s2 g1.1 g1.2.1 r8 g2.1 g2.2.1 g2.2.2) rfl (dd rfl) (pXs (by repeat constructor)) (fun _ _ => aK ?_))
        refine aT 11 rfl vT ?_
        refine aT 12 rfl vM ?_
        refine a_know (s := 59) rfl (show _ = Value.bool true from (congrArg Value.bool (decide_eq_true rfl))) ?_
        refine aN 13 rfl vM ?_
        refine aN 14 rfl (v_ne rfl rfl) ?_
        refine aN 15 rfl vM ?_
        refine a_know (s := 62) rfl (show _ = Value.bool false from (congrArg Value.bool (decide_eq_false (fun h => h he0)))) ?_
        refine aN 16 rfl (vW Tryz.underlying32 ti32) ?_
        refine aN 19 rfl vM ?_
        refine aN 20 rfl (v_conv_bytes Tryz.underlying38 Tryz.underlying5 Tryz.underlying9 rfl (hX (by repeat constructor))) ?_
        refine aP 17 rfl (s_callf cl18 (p1 g1.1 g1.2.1 g1.2.2) rfl (dd rfl) (pXs (by repeat constructor)) (fun r17 _ => aK ?_))
        refine aP 18 rfl (s_val (v_conv_bytes Tryz.underlying38 Tryz.underlying5 Tryz.underlying9 rfl (hX (by repeat constructor))) (dd rfl) (aK ?_))
        refine aN 21 rfl (v_seq rfl rfl) ?_
        refine aN 22 rfl vM ?_
        refine a_know (s := 69) rfl (show _ = Value.bool true from (congrArg Value.bool (decide_eq_true rfl))) ?_
        refine aN 23 rfl (vW Tryz.underlying32 ti32) ?_
        refine aP 24 rfl (s_callf cl12 (p2 g1.1 g1.2.1 g1.2.2) rfl (dd rfl) (pXs (by repeat constructor)) (fun _ _ => aK ?_))
        refine aN 25 rfl vT ?_
        refine aN 26 rfl vQ ?_
        refine aT 27 rfl vT ?_
        refine aT 28 rfl vA ?_
        refine a_done (by kernel_rfl) ?_ _
        refine c_ret1 Tryz.func5 rfl rfl fun w O hS => ?_
        exact ⟨(), rfl, trivial, trivial⟩
      · skip
        refine c_held [BlkR b3 32 [.int .i64 u.1, .int .i64 u.2.1, .int .i64 u.2.2.1, .string u.2.2.2.1, .string u.2.2.2.2.1, g1.1, g1.2.1, g1.2.2], BlkR b5 26 [.int .i64 u.1, .int .i64 u.2.1, .int .i64 u.2.2.1, .string u.2.2.2.1, .string u.2.2.2.2.1, g2.1, g2.2.1, g2.2.2]] rfl ?_
        refine aO 0 rfl (s_callf_keep cl11 (hal) rfl (dd rfl) (rX (by repeat constructor)) (fun _ => sX) (fun _ _ => aK ?_))
        refine aT 1 rfl vM ?_
        refine a_know (s := 48) rfl (show _ = Value.bool true from rfl) ?_
        refine aN 2 rfl vM ?_
        refine aN 3 rfl vM ?_
        refine aN 4 rfl (v_eq rfl rfl) ?_
        refine aT 5 rfl vT ?_
        refine aT 6 rfl vM ?_
        refine a_know (s := 53) rfl (show _ = Value.bool true from (congrArg Value.bool (decide_eq_true rfl))) ?_
        refine aN 7 rfl (vW Tryz.underlying32 ti32) ?_
        refine aN 9 rfl (vW Tryz.underlying26 ti26) ?_
        refine aP 8 rfl (s_callf cl21 (o2 g1.1 g1.2.1 g1.2.2) rfl (dd rfl) (pXs (by repeat constructor)) (fun r8 _ => aK ?_))
        refine aP 10 rfl (s_callf cl16 (s2 g1.1 g1.2.1 r8 g2.1 g2.2.1 g2.2.2) rfl (dd rfl) (pXs (by repeat constructor)) (fun _ _ => aK ?_))
        refine aT 11 rfl vT ?_
        refine aT 12 rfl vM ?_
        refine a_know (s := 59) rfl (show _ = Value.bool true from (congrArg Value.bool (decide_eq_true rfl))) ?_
        refine aN 13 rfl vM ?_
        refine aN 14 rfl (v_ne rfl rfl) ?_
        refine aN 15 rfl vM ?_
        refine a_know (s := 62) rfl (show _ = Value.bool true from (congrArg Value.bool (decide_eq_true he0))) ?_
        refine aX 16 rfl ?_
        refine aX 17 rfl ?_
        refine aX 18 rfl ?_
        refine aX 19 rfl ?_
        refine aX 20 rfl ?_
        refine aX 21 rfl ?_
        refine aX 22 rfl ?_
        refine a_take_offu 23 rfl rfl rfl (by kernel_rfl) (by kernel_rfl) (by kernel_rfl) (eX (by repeat constructor)) (dd rfl) ?_
        refine a_take_offu 24 rfl rfl rfl (by kernel_rfl) (by kernel_rfl) (by kernel_rfl) (eX (by repeat constructor)) (dd rfl) ?_
        refine aX 25 rfl ?_
        refine aN 26 rfl vT ?_
        refine aT 27 rfl vT ?_
        refine aT 28 rfl vA ?_
        refine a_done (by kernel_rfl) ?_ _
        refine c_ret1 Tryz.func5 rfl rfl fun w O hS => ?_
        exact ⟨(), rfl, trivial, trivial⟩
end Go.Proofs.YtlfehnnmpkohkaaGreatDoor
/- Chapter 16: ReqLimits, ReqParses. -/
namespace Go.Proofs.YtlfehnnmpkohkaaGreatDoor
open Go Go.SL Go.Lib
theorem cntS : CountS zeroS := ⟨i64_0, i64_0, ⟨Nat.zero_le _, fun _ h => by cases h⟩, ⟨Nat.zero_le _, fun _ h => by cases h⟩, Nat.zero_le _, Nat.zero_le _, fun _ h => by cases h⟩
theorem sizeS0 : SizeS zeroS := ⟨⟨Nat.zero_le _, fun _ h => by cases h⟩, Nat.zero_le _, Nat.zero_le _, Nat.zero_le _, fun _ h => by cases h⟩
theorem zeroS_l : (resB zeroS).length = 12 := by decide +kernel
theorem resQ_size {l : List UInt8} (hl : l.length ≤ big9) : SizeS (resQ l) ∧ CountS (resQ l) ∧ (resB (resQ l)).length ≤ 10000000000 := by
  obtain ⟨h1, h2, h3⟩ := rs_raw (s := (l, false)) hl
  unfold resQ resP
  split
  · exact ⟨h1, h2, h3⟩
  · exact ⟨sizeS0, cntS, by show (resB zeroS).length ≤ _; rw [zeroS_l]; decide⟩
theorem sameRef_s {l : List UInt8} (hl : l.length ≤ big9) : resQR l = resQ l ∧ (resR l).isSome = (resP l).isSome := by
  have h := res_same hl
  exact ⟨by unfold resQR resQ; rw [h], by rw [h]⟩
theorem res_ok {l : List UInt8} (h : (if (resP l).isSome then (0 : Int) else 160) = 0) : resB (resQ l) = l := by
  split at h
  · rename_i h4
    obtain ⟨q, hq⟩ := Option.isSome_iff_exists.1 h4
    unfold resQ
    rw [hq]
    exact resP_some hq
  · cases h
attribute [local irreducible] Cfg Kont StepK Val Con Qops Any Sl Own Blk BlkR Rd Pu ExA AllA Has Pick Ent Elem Beside Callable TI Lone OwnO AndA
set_option maxHeartbeats 2000000 in
set_option maxRecDepth 100000 in
theorem parses_con (v : Value) (l : List UInt8) (te : TypeId) (pe : Value) (hl : l.length ≤ 140737488355328) : Con Tryz.prog 7 [v] [Sl eByte v l, G1 te pe, G3] (γ := Unit) (fun _ => .bool true) (fun _ => True) (fun _ => []) := by
  have hal := alive_con te pe
  refine con_of Tryz.func7 rfl (dd rfl) fun w0 O0 => ?_
  refine c_seq (c_region ?_)
  refine oV vA ?_
  refine o_nil (c_seq (c_seq (c_region ?_)))
  refine oV vM ?_
  refine oV ((by first | exact v_len_form Tryz.underlying38 rfl | exact v_len_sl Tryz.underlying38 rfl (hX (by repeat constructor)))) ?_
  refine oV (v_gt rfl rfl) ?_
  refine o_nil ?_
  refine c_cond_p rfl (fun h => ?_) (fun h => ?_)
  · refine c_seq (c_region ?_)
    refine oC cl11 (hal) fun _ _ => ?_
    refine oV vA ?_
    refine o_nil ?_
    refine c_ret1 Tryz.func7 rfl rfl fun w O hS => ?_
    exact ⟨(), rfl, trivial, trivial⟩
  · have hl9 : l.length ≤ big9 := by unfold big9; omega
    obtain ⟨r1, r2⟩ := sameRef_s hl9
    obtain ⟨zu, cu, lu⟩ := resQ_size hl9
    have k1 := unpackRes_con v l hl9 te pe
    have k2 := unpackResRef_con (sB l) l rfl hl9
    rw [r1, r2] at k2
    have hok := res_ok (l := l)
    unfold errV at k1 k2
    obtain ⟨e, he⟩ : ∃ e : Int, e = if (resP l).isSome then 0 else 160 := ⟨_, rfl⟩
    rw [← he] at k1 k2 hok
    generalize resQ l = u at k1 k2 zu cu lu hok
    have o1 := fun l i t n => oldS_con u l i t n zu.1.1 zu.2.2.2.1
    have s1 := fun l i t n l' i' t' n' => sameResR_con u u l i t n l' i' t' n' zu zu
    have p1 := fun l i t n => packRes_con u l i t n cu (Nat.le_trans lu (by decide))
    dsimp only [rsC] at k1 k2 o1 p1
    refine c_skip (c_seq (c_region ?_))
    refine oV vM ?_
    refine oC cl30 (k1) fun g1 _ => ?_
    refine oV vM ?_
    refine oV vE ?_
    refine oV vE ?_
    refine o_step (s_alloc ti55 (dd rfl) (fun b3 => ?_))
    refine o_step (s_store_all ti55 rfl rfl (by first | exact CellsV.lit rfl | exact CellsV.one (by first | exact OneC.lit rfl | exact OneC.sl (hX (by repeat constructor)) )) (by repeat (first | exact OneAll.nil | (refine OneAll.cons ?_ ?_; · first | exact OneC.lit rfl | exact OneC.sl (hX (by repeat constructor)) ) | exact OneAll.rd (hX (by repeat constructor)))) rfl (pB (by repeat constructor)) rfl (?_))
    refine oV vA ?_
    refine o_nil (c_seq (c_region ?_))
    refine oV vM ?_
    refine oV (v_conv_bytes Tryz.underlying38 Tryz.underlying5 Tryz.underlying9 rfl (hX (by repeat constructor))) ?_
    refine oC cl29 (k2) fun g2 _ => ?_
    refine oV vM ?_
    refine oV vE ?_
    refine oV vE ?_
    refine o_step (s_alloc ti50 (dd rfl) (fun b5 => ?_))
    refine o_step (s_store_all ti50 rfl rfl (by first | exact CellsV.lit rfl | exact CellsV.one (by first | exact OneC.lit rfl | exact OneC.sl (hX (by repeat constructor)) )) (by repeat (first | exact OneAll.nil | (refine OneAll.cons ?_ ?_; · first | exact OneC.lit rfl | exact OneC.sl (hX (by repeat constructor)) ) | exact OneAll.rd (hX (by repeat constructor)))) rfl (pB (by repeat constructor)) rfl (?_))
    refine oV vA ?_
    refine o_nil (c_seq ?_)
    by_cases he0 : e = 0
    · rw [hok he0] at p1
      refine c_held [Sl eByte v l, BlkR b3 55 [.int .i64 u.1, .int .i64 u.2.1, g1.1, g1.2.1, g1.2.2.1, g1.2.2.2], BlkR b5 50 [.int .i64 u.1, .int .i64 u.2.1, g2.1, g2.2.1, g2.2.2.1, g2.2.2.2]] rfl ?_
      refine aO 0 rfl (s_callf_keep cl11 (hal) rfl (dd rfl) (rX (by repeat constructor)) (fun _ => sX) (fun _ _ => aK ?_))
      refine aT 1 rfl vM ?_
      refine a_know (s := 23) rfl (show _ = Value.bool true from rfl) ?_
      refine aN 2 rfl vM ?_
      refine aN 3 rfl vM ?_
      refine aN 4 rfl (v_eq rfl rfl) ?_
      refine aT 5 rfl vT ?_
      refine aT 6 rfl vM ?_
      refine a_know (s := 28) rfl (show _ = Value.bool true from (congrArg Value.bool (decide_eq_true rfl))) ?_
      refine aN 7 rfl (vW Tryz.underlying55 ti55) ?_
      refine aN 9 rfl (vW Tryz.underlying50 ti50) ?_
      refine aP 8 rfl (s_callf cl32 (o1 g1.1 g1.2.1 g1.2.2.1 g1.2.2.2) rfl (dd rfl) (pXs (by repeat constructor)) (fun r8 _ => aK ?_))
      refine aP 10 rfl (s_callf cl31 (s1 r8.1 g1.2.1 g1.2.2.1 r8.2 g2.1 g2.2.1 g2.2.2.1 g2.2.2.2) rfl (dd rfl) (pXs (by repeat constructor)) (fun _ _ => aK ?_))
      refine aT 11 rfl vT ?_
      refine aT 12 rfl vM ?_
      refine a_know (s := 34) rfl (show _ = Value.bool true from (congrArg Value.bool (decide_eq_true rfl))) ?_
      refine aN 13 rfl vM ?_
      refine aN 14 rfl (v_ne rfl rfl) ?_
      refine aN 15 rfl vM ?_
      refine a_know (s := 37) rfl (show _ = Value.bool false from (congrArg Value.bool (decide_eq_false (fun h => h he0)))) ?_
      refine aN 16 rfl (vW Tryz.underlying55 ti55) ?_
      refine aN 19 rfl vM ?_
      refine aN 20 rfl (v_conv_bytes Tryz.underlying38 Tryz.underlying5 Tryz.underlying9 rfl (hX (by repeat constructor))) ?_
      refine aP 17 rfl (s_callf cl26 (p1 g1.1 g1.2.1 g1.2.2.1 g1.2.2.2) rfl (dd rfl) (pXs (by repeat constructor)) (fun r17 _ => aK ?_))
      refine aP 18 rfl (s_val (v_conv_bytes Tryz.underlying38 Tryz.underlying5 Tryz.underlying9 rfl (hX (by repeat constructor))) (dd rfl) (aK ?_))
      refine aN 21 rfl (v_seq rfl rfl) ?_
      refine aN 22 rfl vQ ?_
      refine aT 23 rfl vT ?_
      refine aT 24 rfl vA ?_
      refine a_done (by kernel_rfl) ?_ _
      refine c_ret1 Tryz.func7 rfl rfl fun w O hS => ?_
      exact ⟨(), congrArg Value.bool (decide_eq_true rfl), trivial, trivial⟩
    · skip
      refine c_held [BlkR b3 55 [.int .i64 u.1, .int .i64 u.2.1, g1.1, g1.2.1, g1.2.2.1, g1.2.2.2], BlkR b5 50 [.int .i64 u.1, .int .i64 u.2.1, g2.1, g2.2.1, g2.2.2.1, g2.2.2.2]] rfl ?_
      refine aO 0 rfl (s_callf_keep cl11 (hal) rfl (dd rfl) (rX (by repeat constructor)) (fun _ => sX) (fun _ _ => aK ?_))
      refine aT 1 rfl vM ?_
      refine a_know (s := 23) rfl (show _ = Value.bool true from rfl) ?_
      refine aN 2 rfl vM ?_
      refine aN 3 rfl vM ?_
      refine aN 4 rfl (v_eq rfl rfl) ?_
      refine aT 5 rfl vT ?_
      refine aT 6 rfl vM ?_
      refine a_know (s := 28) rfl (show _ = Value.bool true from (congrArg Value.bool (decide_eq_true rfl))) ?_
      refine aN 7 rfl (vW Tryz.underlying55 ti55) ?_
      refine aN 9 rfl (vW Tryz.underlying50 ti50) ?_
      refine aP 8 rfl (s_callf cl32 (o1 g1.1 g1.2.1 g1.2.2.1 g1.2.2.2) rfl (dd rfl) (pXs (by repeat constructor)) (fun r8 _ => aK ?_))
      refine aP 10 rfl (s_callf cl31 (s1 r8.1 g1.2.1 g1.2.2.1 r8.2 g2.1 g2.2.1 g2.2.2.1 g2.2.2.2) rfl (dd rfl) (pXs (by repeat constructor)) (fun _ _ => aK ?_))
      refine aT 11 rfl vT ?_
      refine aT 12 rfl vM ?_
      refine a_know (s := 34) rfl (show _ = Value.bool true from (congrArg Value.bool (decide_eq_true rfl))) ?_
      refine aN 13 rfl vM ?_
      refine aN 14 rfl (v_ne rfl rfl) ?_
      refine aN 15 rfl vM ?_
      refine a_know (s := 37) rfl (show _ = Value.bool true from (congrArg Value.bool (decide_eq_true he0))) ?_
      refine aX 16 rfl ?_
      refine aX 17 rfl ?_
      refine aX 18 rfl ?_
      refine aX 19 rfl ?_
      refine aX 20 rfl ?_
      refine aX 21 rfl ?_
      refine aN 22 rfl vT ?_
      refine aT 23 rfl vT ?_
      refine aT 24 rfl vA ?_
      refine a_done (by kernel_rfl) ?_ _
      refine c_ret1 Tryz.func7 rfl rfl fun w O hS => ?_
      exact ⟨(), rfl, trivial, trivial⟩
end Go.Proofs.YtlfehnnmpkohkaaGreatDoor
/- What the rows of chapter 16 want: the start, the openers of the arguments' types. -/
namespace Go.Proofs.YtlfehnnmpkohkaaGreatDoor
open Go Go.SL Go.RowKit Go.ChangeShapes Go.WideShapes Go.ChangeAt Go.Lib

abbrev laidL : List (String × DataW Unit) := [("math/bits.deBruijn32tab", Rows.laid_math_bits_deBruijn32tab), ("math/bits.deBruijn64tab", Rows.laid_math_bits_deBruijn64tab), ("internal/strconv.uint64pow10", Rows.laid_internal_strconv_uint64pow10), ("unicode/utf8.acceptRanges", Rows.laid_unicode_utf8_acceptRanges), ("strconv.ErrRange", Rows.laid_strconv_ErrRange), ("strconv.ErrSyntax", Rows.laid_strconv_ErrSyntax), ("unicode/utf8.first", Rows.laid_unicode_utf8_first)]
theorem own : ownKnob Tryz.prog.godebug = none := by kernel_rfl
theorem laidOut : laidOutB Tryz.prog = true := by kernel_rfl
theorem start_met (os : Os) (args : Array Value) : laidMetH Tryz.prog laidL ((World.laidAll Tryz.prog os laidL).forCall (fun _ _ => 0) ⟨#[], args, []⟩).memory := by
  rw [MakeChecks.laidMetH_plain _ _ _ (by kernel_rfl)]; exact laidMet_laidAll _ (by kernel_rfl) (by kernel_rfl)
theorem start_shaped (os : Os) (args : Array Value) : ((World.laidAll Tryz.prog os laidL).forCall (fun _ _ => 0) ⟨#[], args, []⟩).Shaped Tryz.checked.prog := World.shaped_of_RefB (by kernel_rfl) (by kernel_rfl)
theorem reach : reachBytes = 140737488351232 := by decide
theorem star : "*" ++ "errors.errorString" = "*errors.errorString" := by decide
theorem errRow (u : TypeId) (h : Tryz.prog.typeName? 3 u = some "*errors.errorString") : u = 227 :=
  typeName_ptr_named (nm := "errors.errorString") (by rw [star]; kernel_rfl) (by kernel_rfl) (by decide) u (by rw [star]; exact h)
theorem glob_at {W : World} (h : W.ShapedOpen Tryz.prog) {g : Nat} {t : TypeId} {cs : Array Value} {name : String} (hg : g < Tryz.prog.globals.size) (h0 : (((begin Tryz.prog (fun _ _ => 0) default).world.heap[g]?).bind Obj.row?).map (·.2) = some t) (hn : Tryz.prog.globalNamed name = some g) (hv : W.var? Tryz.prog name = some cs) : (BlkR g t cs.toList).h W (readAll W) := by
  obtain ⟨⟨zero, t'⟩, h0', e0⟩ := Option.map_eq_some_iff.1 h0
  obtain rfl : t' = t := e0
  obtain ⟨ds, hh, _, _⟩ := h.1 g zero t' hg h0'
  have h1 : g < W.heap.size := by
    rcases Nat.lt_or_ge g W.heap.size with h | h
    · exact h
    · rw [Array.getElem?_eq_none h] at hh; cases hh
  unfold World.var? at hv
  rw [hn, Option.bind_some, hh] at hv
  have e : ds = cs := by simpa using hv
  subst e
  exact ⟨readAll_lt h1, (0, 0), by rw [hh]⟩
theorem g13 {W : World} (hs : W.ShapedOpen Tryz.prog) (hl : laidMetH Tryz.prog laidL W) : ∃ te pe, (G1 te pe).h W (readAll W) ∧ G3.h W (readAll W) := by
  rw [MakeChecks.laidMetH_plain _ _ _ (by kernel_rfl)] at hl
  have h3 : laidMet Tryz.prog (("internal/strconv.uint64pow10", tabData .u64 pow10Tab) :: _) W := hl.tail.tail
  have h1 : TabIs Tryz.prog W "internal/strconv.uint64pow10" .u64 pow10Tab := tabIs_of_head (g := 1) (t := 208) (e := 184) (n := 20) (by kernel_rfl) (by kernel_rfl) Tryz.underlying208 Tryz.underlying184 (by kernel_rfl) (by kernel_rfl) h3
  obtain ⟨a0, s0, hv0, -, -, -⟩ := laid_sentinel hl.tail.tail.tail.tail.tail (g := 2) (ti := 165) (tp := 227) (te := 229) (ts := 9) (by kernel_rfl) (by kernel_rfl) Tryz.underlying165 errRow Tryz.underlying227 Tryz.underlying229 rfl rfl Tryz.underlying9 (by kernel_rfl) (by kernel_rfl)
  exact ⟨_, _, glob_at (cs := #[.iface 227 (.pointer (some a0))]) hs (of_decide_eq_true (by kernel_rfl)) (by kernel_rfl) (by kernel_rfl) hv0, glob_at (cs := (pow10Tab.map fun z => Value.int .u64 z).toArray) hs (of_decide_eq_true (by kernel_rfl)) (by kernel_rfl) (by kernel_rfl) h1⟩
theorem opens_byte {P : Program} {t : TypeId} (ht : P.underlying t = some (.int .u8)) : Opens P t eByte (fun _ => True) := by
  intro H enc W fuel cs x h hw
  obtain ⟨n, rfl, rfl, hn⟩ := DataW.trod_int ht h
  have h1 : 0 ≤ n ∧ n < 256 := by
    have := hn
    simp [Lit.wf, IntKind.has, IntKind.min, IntKind.max, IntKind.signed, IntKind.bits] at this
    omega
  refine ⟨UInt8.ofNat n.toNat, ?_, trivial⟩
  show [Value.int .u8 n] = [Value.int .u8 ((UInt8.ofNat n.toNat).toNat : Int)]
  have : ((UInt8.ofNat n.toNat).toNat : Int) = n := by
    rw [UInt8.toNat_ofNat']; omega
  rw [this]
theorem opB : Opens Tryz.prog 38 (eSl eByte) (fun xs => xs.length ≤ 140737488351232) := opens_good (opens_slice Tryz.underlying38 (by kernel_rfl) (by decide) (opens_byte Tryz.underlying5)) fun xs h => by
  have h1 : Tryz.prog.bytesOf 5 = 1 := by kernel_rfl
  have h2 := h.1
  rw [h1, reach] at h2
  omega
end Go.Proofs.YtlfehnnmpkohkaaGreatDoor

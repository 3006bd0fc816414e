/- LockStuck: for every input it returns true, and its arguments read behind the call as before. -/
import Derived.Test.YtnamhhmfnokfiaaZZ7
import Derived.Test.YtnamhhmfnokfiaaRows
/- LockFits: who is in the way of one who waits. -/
namespace Go.Proofs.Ytnamhhmfnokfiaa
open Go Go.SL
theorem tabR_rows {N t : Nat} {L W : List Hs} {w : World} {O : Perm} (h : (TabR N t L W).h w O) : Inv0 L W ∧ HeadP L W := by
  obtain ⟨σ, O1, O2, s, a1, O3, O4, s2, a2, a3⟩ := h
  exact a2.2
theorem bar_of {L : List Hs} {w : Hs} (h : mayR L w = false) : ∃ x ∈ L, x.2.1 = w.2.1 ∧ x.1 ≠ w.1 ∧ fitsL x.2.2 w.2.2 = false := by
  unfold mayR at h
  obtain ⟨x, hx, hb⟩ := List.all_eq_false.1 h
  have hb' : barR w x = true := by simpa using hb
  unfold barR at hb'
  rw [Bool.and_eq_true] at hb'
  exact ⟨x, hx, (of_decide_eq_true hb'.1).1, (of_decide_eq_true hb'.1).2, by simpa using hb'.2⟩
attribute [local irreducible] Cfg Kont StepK Val Con Qops Any Sl Own Blk BlkR Rd Pu ExA AllA Has Pick Ent Elem Beside Callable TI Lone OwnO AndA
set_option maxRecDepth 100000 in
theorem inTheWay_con (N t : Nat) (L W : List Hs) (z : Hs) (hN : N ≤ 1000) (hz : waitR W z.1 = some z) (hq : (queueR W z.2.1)[0]? = some z) :
    Con Try.prog 42 [.pointer (some ⟨t, 0, none⟩), .int .i64 z.1] [TabR N t L W] (γ := Unit) (fun _ => .bool true) (fun _ => True) (fun _ => [TabR N t L W]) := by
  refine con_of Try.func42 rfl (dd rfl) fun w0 O0 => ?_
  refine c_seq ?_
  refine c_region ?_
  refine o_val (v_assign rfl) (dd rfl) ?_
  refine o_nil ?_
  refine c_seq ?_
  refine c_fact (a := TabR N t L W) (p := Inv0 L W ∧ HeadP L W) Has.here (fun _ _ k => tabR_rows k) fun ⟨hi, hh⟩ => ?_
  obtain ⟨x, hx, hx1, hx2, hx3⟩ := bar_of (hh _ _ hq)
  have hg : getR L x.1 z.2.1 = some x.2.2 := hx1 ▸ mem_getR hi.ln hx
  refine c_region ?_
  refine o_val (v_move rfl) (dd rfl) ?_
  refine o_val (v_move rfl) (dd rfl) ?_
  refine o_step (s_callf cl47 (waitsR_con N t L W z.1 hN) rfl (dd rfl) (pXs (by repeat constructor)) fun _ _ => ?_)
  refine o_val (v_move rfl) (dd rfl) ?_
  refine o_val (v_extract rfl rfl) (dd rfl) ?_
  refine o_val (v_extract rfl rfl) (dd rfl) ?_
  refine o_val (v_extract rfl rfl) (dd rfl) ?_
  refine o_val (v_assign rfl) (dd rfl) ?_
  refine o_val (v_assign rfl) (dd rfl) ?_
  refine o_val (v_assign rfl) (dd rfl) ?_
  refine o_nil ?_
  refine c_seq ?_
  refine c_seq ?_
  refine c_region ?_
  refine o_val (v_move rfl) (dd rfl) ?_
  refine o_val (v_not rfl) (dd rfl) ?_
  refine o_nil ?_
  rw [hz]
  refine c_cond_f rfl ?_
  refine c_skip ?_
  refine c_seq ?_
  refine c_seq ?_
  refine c_region ?_
  refine o_val (v_move rfl) (dd rfl) ?_
  refine o_val (v_move rfl) (dd rfl) ?_
  refine o_step (s_callf cl39 (holdersR_con N t L W z.2.1 hN) rfl (dd rfl) (pXs (by repeat constructor)) fun r hr => ?_)
  refine o_val ((by first | exact v_len_form Try.underlying35 rfl | exact v_len_sl Try.underlying35 rfl (hX (by repeat constructor)))) (dd rfl) ?_
  refine o_val (v_move rfl) (dd rfl) ?_
  refine o_nil ?_
  refine c_block ?_
  obtain ⟨rv, l⟩ := r
  obtain ⟨hk, hl⟩ := hr
  dsimp only at hk hl ⊢
  obtain ⟨j, hj, hjx⟩ := List.mem_iff_getElem.1 ((hk.2 x.1).2 (by show (getR L x.1 z.2.1).isSome = true; rw [hg]; rfl))
  refine c_loopR (γ := Nat) [(0, _), (1, _), (4, _), (5, _), (6, _), (23, _), (24, _)] (fun i => l.length - i) (fun i => i ≤ j) (fun i => [(25, .int .i64 i)]) (fun _ => [Own (eInt .i64) 3 rv l, TabR N t L W]) (0) (Nat.zero_le _) (by repeat (first | exact trivial | refine ⟨rfl, ?_⟩)) (eX (by repeat constructor)) ?_
  rintro i hij IH
  try dsimp only [List.cons_append, List.nil_append]
  refine c_seq ?_
  refine c_region ?_
  refine o_val (v_lt rfl rfl) (dd rfl) ?_
  refine o_nil ?_
  refine c_seq ?_
  refine c_cond_p rfl (fun hlt => ?_) (fun hlt => ?_)
  · have hi' : i < l.length := by omega
    refine c_skip ?_
    refine c_seq ?_
    refine c_block ?_
    refine c_seq ?_
    refine c_region ?_
    refine o_val ((by first | exact v_indexAddrN Try.underlying35 ti3 rfl rfl (hX (by repeat constructor)) (by omega) | exact v_indexAddr Try.underlying35 ti3 rfl rfl (hX (by repeat constructor)) (by omega))) (dd rfl) ?_
    refine o_val (v_load_int lone3 rfl (by repeat (first | exact Elem.sl (List.getElem?_eq_getElem (by omega)) | exact Elem.own (List.getElem?_eq_getElem (by omega)) | exact Elem.ownO (List.getElem?_eq_getElem (by omega)) | apply Elem.there))) (dd rfl) ?_
    refine o_val (v_assign rfl) (dd rfl) ?_
    refine o_nil ?_
    refine c_seq ?_
    refine c_region ?_
    refine o_val (v_move rfl) (dd rfl) ?_
    refine o_val (v_move rfl) (dd rfl) ?_
    refine o_val (v_move rfl) (dd rfl) ?_
    refine o_step (s_callf cl40 (hasR_con N t L W (l[i]'hi') z.2.1) rfl (dd rfl) (pXs (by repeat constructor)) fun _ _ => ?_)
    refine o_val (v_move rfl) (dd rfl) ?_
    refine o_val (v_extract rfl rfl) (dd rfl) ?_
    refine o_val (v_extract rfl rfl) (dd rfl) ?_
    refine o_val (v_assign rfl) (dd rfl) ?_
    refine o_val (v_assign rfl) (dd rfl) ?_
    refine o_nil ?_
    refine c_seq ?_
    refine c_env (env' := [(0, _), (1, _), (4, _), (5, _), (6, _), (9, _), (10, _), (23, _), (24, _), (25, _), (26, _), (27, _), (28, _), (29, _), (30, _), (31, _), (32, _), (33, _), (34, _), (35, _)]) (by repeat (first | exact trivial | refine ⟨rfl, ?_⟩)) ?_
    refine c_joinb (d := 44) (decide ((l[i]'hi') ≠ z.1 ∧ fitsL ((getR L (l[i]'hi') z.2.1).getD 0) z.2.2 = false)) ?_ ?_
    rotate_left
    · intro J
      refine c_region ?_
      refine o_val (v_move rfl) (dd rfl) ?_
      refine o_val (v_move rfl) (dd rfl) ?_
      refine o_val (v_ne rfl rfl) (dd rfl) ?_
      refine o_val (v_move rfl) (dd rfl) ?_
      first | refine o_guard_t rfl rfl (fun g39 => ?_) (fun g39 => ?_) | refine o_guard rfl rfl (fun g39 => ?_) (fun g39 => ?_)
      · refine o_val (v_move rfl) (dd rfl) ?_
        refine o_on rfl rfl ?_
        refine o_val (v_move rfl) (dd rfl) ?_
        refine o_on rfl rfl ?_
        refine o_step (s_callf_keep cl32 (Fits_con _ _) rfl (dd rfl) (rX (by repeat constructor)) (fun _ => sX) (fun _ _ => ?_))
        refine o_on rfl rfl ?_
        refine o_val (v_not rfl) (dd rfl) ?_
        refine o_val (v_pick_t rfl rfl) (dd rfl) ?_
        refine o_nil ?_
        exact c_use J ⟨Env.as rfl (congrArg Value.bool (by first | rfl | (simp_all; done) | (simp_all; omega) | (simp; omega))), (by repeat (first | exact trivial | refine ⟨rfl, ?_⟩))⟩ (by first | exact Ent.refl _ | exact eX (by repeat constructor))
      · refine o_off rfl rfl rfl (dd rfl) ?_
        refine o_off rfl rfl rfl (dd rfl) ?_
        refine o_off rfl rfl rfl (dd rfl) ?_
        refine o_off rfl rfl rfl (dd rfl) ?_
        refine o_val (v_pick_f rfl rfl) (dd rfl) ?_
        refine o_nil ?_
        exact c_use J ⟨Env.as rfl (congrArg Value.bool (by first | rfl | (simp_all; done) | (simp_all; omega) | (simp; omega))), (by repeat (first | exact trivial | refine ⟨rfl, ?_⟩))⟩ (by first | exact Ent.refl _ | exact eX (by repeat constructor))
    refine c_cond_p rfl (fun hb => ?_) (fun hb => ?_)
    · refine c_seq ?_
      refine c_region ?_
      refine o_val (v_assign rfl) (dd rfl) ?_
      refine o_nil ?_
      refine c_ret1 Try.func42 rfl rfl fun w O hS => ?_
      exact ⟨(), rfl, trivial, Ent.get hS (eX (by repeat constructor))⟩
    · refine c_skip ?_
      refine c_inBlock ?_
      refine c_region ?_
      refine o_val ((by first | exact v_add64 rfl rfl (by omega) | exact v_add rfl rfl)) (dd rfl) ?_
      refine o_val (v_move rfl) (dd rfl) ?_
      refine o_nil ?_
      have hne : i ≠ j := fun e => by
        subst e
        rw [hjx, hg] at hb
        exact hb ⟨hx2, hx3⟩
      refine c_use (IH (i + 1) (by first | omega | (dsimp only; omega)) (by omega)) (by repeat (first | exact trivial | refine ⟨rfl, ?_⟩)) (eX (by repeat constructor))
  · exact absurd (show (i : Int) < (l.length : Int) by omega) hlt
theorem fit_of {L W : List Hs} (hi : Inv0 L W) {a b : Int} {n : ByteArray} (ha : (getR L a n).isSome = true) (hb : (getR L b n).isSome = true) (hab : a ≠ b) : fitsL ((getR L a n).getD 0) ((getR L b n).getD 0) = true := by
  obtain ⟨x, hx⟩ := Option.isSome_iff_exists.1 ha
  obtain ⟨y, hy⟩ := Option.isSome_iff_exists.1 hb
  rw [hx, hy]
  exact hi.fit _ (getR_mem hx) _ (getR_mem hy) rfl hab
set_option maxRecDepth 100000 in
theorem lockFits_con (v : Value) (ss : List Op12) (hss : ss.length ≤ 8796093022207) :
    Con Try.prog 10 [v] [Sl eOp12 v ss] (γ := Unit) (fun _ => .bool true) (fun _ => True) (fun _ => []) := by
  refine con_of Try.func10 rfl (dd rfl) fun w0 O0 => ?_
  refine c_seq ?_
  refine c_region ?_
  refine o_val (v_assign rfl) (dd rfl) ?_
  refine o_nil ?_
  refine c_seq ?_
  refine c_seq ?_
  refine c_region ?_
  refine o_val (v_move rfl) (dd rfl) ?_
  refine o_step (s_callf_keep cl36 (few12_con v ss hss) rfl (dd rfl) (rX (by repeat constructor)) (fun _ => sX) (fun fw hfw => ?_))
  refine o_val (v_not rfl) (dd rfl) ?_
  refine o_nil ?_
  refine c_cond rfl (fun hf => ?_) (fun hf => ?_)
  · refine c_seq ?_
    refine c_region ?_
    refine o_step (s_callf_keep cl35 (alive12_con) rfl (dd rfl) (rX (by repeat constructor)) (fun _ => sX) (fun _ _ => ?_))
    refine o_val (v_assign rfl) (dd rfl) ?_
    refine o_nil ?_
    refine c_ret1 Try.func10 rfl rfl fun w O hS => ?_
    exact ⟨(), rfl, trivial, trivial⟩
  · have hs : ss.length ≤ 40 := hfw (by simpa using hf)
    refine c_skip ?_
    refine c_seq ?_
    refine c_region ?_
    refine o_val (v_buildS (places := [(0, 1), (1, 1)]) (cells := [.map none, .map none]) Try.underlying75 ti75 (by kernel_rfl) rfl (by repeat (first | exact PartsC.nil | (apply PartsC.one (by first | exact OneC.lit rfl | exact OneC.sl (hX (by repeat constructor)) )) | (apply PartsC.lit rfl))) rfl) (dd rfl) ?_
    refine o_step (s_box rfl (dd rfl) (fun b23 => ?_))
    refine o_val (v_assign rfl) (dd rfl) ?_
    refine o_nil ?_
    refine c_seq ?_
    refine c_seq ?_
    refine c_region ?_
    refine o_val (v_move rfl) (dd rfl) ?_
    refine o_val ((by first | exact v_len_form Try.underlying69 rfl | exact v_len_sl Try.underlying69 rfl (hX (by repeat constructor)))) (dd rfl) ?_
    refine o_val (v_move rfl) (dd rfl) ?_
    refine o_nil ?_
    refine c_block ?_
    refine c_ent (L' := [Blk b23 75 [.map none, .map none], Sl eOp12 v ss]) (eX (by repeat constructor)) ?_
    refine c_ent tabR_new ?_
    refine c_loopR (γ := Nat × Nat × List Hs × List Hs) [(0, _), (2, _), (24, _), (25, _)] (fun g => ss.length - g.1) (fun g => g.1 ≤ ss.length ∧ g.2.2.1.length + g.2.2.2.length ≤ g.1) (fun g => [(26, .int .i64 g.1), (3, .pointer (some ⟨g.2.1, 0, none⟩))]) (fun g => [TabR (2 * g.1) g.2.1 g.2.2.1 g.2.2.2, Sl eOp12 v ss]) ((0, b23, [], [])) (⟨Nat.zero_le _, Nat.le_refl _⟩) (by repeat (first | exact trivial | refine ⟨rfl, ?_⟩)) (eX (by repeat constructor)) ?_
    rintro ⟨i, t0, L0, W0⟩ ⟨hi, hLW⟩ IH
    dsimp only at hi hLW ⊢
    try dsimp only [List.cons_append, List.nil_append]
    refine c_seq ?_
    refine c_region ?_
    refine o_val (v_lt rfl rfl) (dd rfl) ?_
    refine o_nil ?_
    refine c_seq ?_
    refine c_cond_p rfl (fun hlt => ?_) (fun hlt => ?_)
    · have hi' : i < ss.length := by omega
      refine c_skip ?_
      refine c_seq ?_
      refine c_block ?_
      refine c_seq ?_
      refine c_region ?_
      refine o_val ((by first | exact v_indexAddrN Try.underlying69 ti80 rfl rfl (hX (by repeat constructor)) (by omega) | exact v_indexAddr Try.underlying69 ti80 rfl rfl (hX (by repeat constructor)) (by omega))) (dd rfl) ?_
      refine o_val (v_load_p (by repeat (first | exact PEnc.int _ | exact PEnc.str | exact PEnc.bool | exact PEnc.byte | exact PEnc.raw | apply PEnc.pair | apply PEnc.map)) ⟨_, Try.underlying80⟩ ti80 rfl (by repeat (first|exact el1 (by omega)|exact el2 (by omega)|exact el3 (by omega)|apply Elem.there))) (dd rfl) ?_
      refine o_step (s_alloc ti80 (dd rfl) (fun b5 => ?_))
      refine o_step (s_store_all ti80 rfl rfl (by first | exact CellsV.lit rfl | exact CellsV.one (by first | exact OneC.lit rfl | exact OneC.sl (hX (by repeat constructor)) )) (by repeat (first | exact OneAll.nil | (refine OneAll.cons ?_ ?_; · first | exact OneC.lit rfl | exact OneC.sl (hX (by repeat constructor)) ) | exact OneAll.rd (hX (by repeat constructor)))) rfl (pB (by repeat constructor)) rfl (?_))
      refine o_nil ?_
      refine c_seq ?_
      refine c_ent (Ent.beside (b := Sl eHs (.slice none 0 0) ([] : List Hs)) (fun w O _ => Sl.nil eHs w _)) ?_
      refine c_ent (Ent.beside (b := Sl eHs (.slice none 0 0) ([] : List Hs)) (fun w O _ => Sl.nil eHs w _)) ?_
      refine c_region ?_
      refine o_val (v_move rfl) (dd rfl) ?_
      refine o_val (v_buildS (places := [(0, 1), (1, 1)]) (cells := [.slice none 0 0, .slice none 0 0]) Try.underlying78 ti78 (by kernel_rfl) rfl (by repeat (first | exact PartsC.nil | (apply PartsC.one (by first | exact OneC.lit rfl | exact OneC.sl (hX (by repeat constructor)) )) | (apply PartsC.lit rfl))) rfl) (dd rfl) ?_
      refine o_val (v_load_all ⟨_, Try.underlying80⟩ ti80 rfl (hX (by repeat constructor)) rfl) (dd rfl) ?_
      refine o_step (s_callf cl37 (does12_con (2 * i) t0 L0 W0 [] [] (.slice none 0 0) (.slice none 0 0) (ss[i]'hi') (by omega) (by decide) (by omega)) rfl (dd rfl) (pXs (by repeat constructor)) fun rd _ => ?_)
      refine o_val (v_move rfl) (dd rfl) ?_
      refine o_val (v_extract rfl rfl) (dd rfl) ?_
      refine o_val (v_extract rfl rfl) (dd rfl) ?_
      refine o_val (v_extract rfl rfl) (dd rfl) ?_
      refine o_val (v_assign rfl) (dd rfl) ?_
      refine o_nil ?_
      refine c_seq ?_
      refine c_region ?_
      refine o_val (v_move rfl) (dd rfl) ?_
      refine o_val ((by first | exact v_len_form Try.underlying69 rfl | exact v_len_sl Try.underlying69 rfl (hX (by repeat constructor)))) (dd rfl) ?_
      refine o_val (v_move rfl) (dd rfl) ?_
      refine o_nil ?_
      refine c_block ?_
      have hnl := next_len L0 W0 (ss[i]'hi')
      obtain ⟨t, lv1, wv1, b1⟩ := rd
      generalize nextR L0 W0 (ss[i]'hi') = LW at hnl ⊢
      obtain ⟨L, W⟩ := LW
      dsimp only at hnl ⊢
      refine c_fact (a := TabR (2 * i + 2) t L W) (p := Inv0 L W ∧ HeadP L W) (hX (by repeat constructor)) (fun _ _ k => tabR_rows k) fun ⟨hi0, hh⟩ => ?_
      refine c_loopR (γ := Nat) [(0, _), (2, _), (3, _), (5, _), (24, _), (25, _), (26, _), (27, _), (28, _), (29, _), (30, _), (31, _), (32, _), (33, _), (34, _), (35, _), (38, _), (39, _)] (fun j => ss.length - j) (fun j => j ≤ ss.length) (fun j => [(40, .int .i64 j)]) (fun _ => [TabR (2 * i + 2) t L W, Sl eOp12 v ss]) (0) (Nat.zero_le _) (by repeat (first | exact trivial | refine ⟨rfl, ?_⟩)) (eX (by repeat constructor)) ?_
      rintro j hj IH2
      try dsimp only [List.cons_append, List.nil_append]
      refine c_seq ?_
      refine c_region ?_
      refine o_val (v_lt rfl rfl) (dd rfl) ?_
      refine o_nil ?_
      refine c_seq ?_
      refine c_cond_p rfl (fun hlj => ?_) (fun hlj => ?_)
      · have hj' : j < ss.length := by omega
        refine c_skip ?_
        refine c_seq ?_
        refine c_block ?_
        refine c_seq ?_
        refine c_region ?_
        refine o_val ((by first | exact v_indexAddrN Try.underlying69 ti80 rfl rfl (hX (by repeat constructor)) (by omega) | exact v_indexAddr Try.underlying69 ti80 rfl rfl (hX (by repeat constructor)) (by omega))) (dd rfl) ?_
        refine o_val (v_load_p (by repeat (first | exact PEnc.int _ | exact PEnc.str | exact PEnc.bool | exact PEnc.byte | exact PEnc.raw | apply PEnc.pair | apply PEnc.map)) ⟨_, Try.underlying80⟩ ti80 rfl (by repeat (first|exact el1 (by omega)|exact el2 (by omega)|exact el3 (by omega)|apply Elem.there))) (dd rfl) ?_
        refine o_step (s_alloc ti80 (dd rfl) (fun b7 => ?_))
        refine o_step (s_store_all ti80 rfl rfl (by first | exact CellsV.lit rfl | exact CellsV.one (by first | exact OneC.lit rfl | exact OneC.sl (hX (by repeat constructor)) )) (by repeat (first | exact OneAll.nil | (refine OneAll.cons ?_ ?_; · first | exact OneC.lit rfl | exact OneC.sl (hX (by repeat constructor)) ) | exact OneAll.rd (hX (by repeat constructor)))) rfl (pB (by repeat constructor)) rfl (?_))
        refine o_nil ?_
        refine c_seq ?_
        refine c_region ?_
        refine o_val (v_move rfl) (dd rfl) ?_
        refine o_val (v_fieldAddrC 2 Try.underlying80 rfl ti9 (by decide) rfl) (dd rfl) ?_
        refine o_val (v_load lone9 rfl (hX (by repeat constructor)) rfl) (dd rfl) ?_
        refine o_step (s_callf cl39 (holdersR_con (2 * i + 2) t L W (ss[j]'hj').2.2.1 (by omega)) rfl (dd rfl) (pXs (by repeat constructor)) fun r hr => ?_)
        refine o_val (v_assign rfl) (dd rfl) ?_
        refine o_nil ?_
        refine c_seq ?_
        refine c_seq ?_
        refine c_region ?_
        refine o_val (v_move rfl) (dd rfl) ?_
        refine o_val ((by first | exact v_len_form Try.underlying35 rfl | exact v_len_sl Try.underlying35 rfl (hX (by repeat constructor)))) (dd rfl) ?_
        refine o_val (v_move rfl) (dd rfl) ?_
        refine o_nil ?_
        refine c_block ?_
        obtain ⟨rv, l⟩ := r
        obtain ⟨hk, hl⟩ := hr
        dsimp only at hk hl ⊢
        refine c_loopR (γ := Nat) [(0, _), (2, _), (3, _), (5, _), (7, _), (8, _), (24, _), (25, _), (26, _), (27, _), (28, _), (29, _), (30, _), (31, _), (32, _), (33, _), (34, _), (35, _), (38, _), (39, _), (40, _), (41, _), (42, _), (43, _), (44, _), (45, _), (46, _), (47, _), (48, _), (49, _)] (fun k => l.length - k) (fun k => k ≤ l.length) (fun k => [(50, .int .i64 k)]) (fun _ => [Sl (eInt .i64) rv l, Blk b7 80 [.int .i64 (ss[j]'hj').1, .int .i64 (ss[j]'hj').2.1, .string (ss[j]'hj').2.2.1, .int .i64 (ss[j]'hj').2.2.2], TabR (2 * i + 2) t L W, Sl eOp12 v ss]) (0) (Nat.zero_le _) (by repeat (first | exact trivial | refine ⟨rfl, ?_⟩)) (eX (by repeat constructor)) ?_
        rintro k hk' IH3
        try dsimp only [List.cons_append, List.nil_append]
        refine c_seq ?_
        refine c_region ?_
        refine o_val (v_lt rfl rfl) (dd rfl) ?_
        refine o_nil ?_
        refine c_seq ?_
        refine c_cond_p rfl (fun hlk => ?_) (fun hlk => ?_)
        · have hkl : k < l.length := by omega
          have hks : (getR L (l[k]'hkl) (ss[j]'hj').2.2.1).isSome = true := (hk.2 _).1 (List.getElem_mem hkl)
          have hkr : k = 0 ∨ l[k - 1]'(by omega) < l[k]'hkl := (Nat.eq_zero_or_pos k).imp id fun h => List.pairwise_iff_getElem.1 hk.1 (k - 1) k (by omega) hkl (by omega)
          refine c_skip ?_
          refine c_seq ?_
          refine c_block ?_
          refine c_seq ?_
          refine c_region ?_
          refine o_val (v_move rfl) (dd rfl) ?_
          refine o_val ((by first | exact v_indexAddrN Try.underlying35 ti3 rfl rfl (hX (by repeat constructor)) (by omega) | exact v_indexAddr Try.underlying35 ti3 rfl rfl (hX (by repeat constructor)) (by omega))) (dd rfl) ?_
          refine o_val (v_load_int lone3 rfl (by repeat (first | exact Elem.sl (List.getElem?_eq_getElem (by omega)) | exact Elem.own (List.getElem?_eq_getElem (by omega)) | exact Elem.ownO (List.getElem?_eq_getElem (by omega)) | apply Elem.there))) (dd rfl) ?_
          refine o_val (v_assign rfl) (dd rfl) ?_
          refine o_val (v_assign rfl) (dd rfl) ?_
          refine o_nil ?_
          refine c_seq ?_
          refine c_region ?_
          refine o_val (v_move rfl) (dd rfl) ?_
          refine o_val (v_move rfl) (dd rfl) ?_
          refine o_val (v_fieldAddrC 2 Try.underlying80 rfl ti9 (by decide) rfl) (dd rfl) ?_
          refine o_val (v_load lone9 rfl (hX (by repeat constructor)) rfl) (dd rfl) ?_
          refine o_step (s_callf cl40 (hasR_con (2 * i + 2) t L W (l[k]'hkl) (ss[j]'hj').2.2.1) rfl (dd rfl) (pXs (by repeat constructor)) fun _ _ => ?_)
          refine o_val (v_move rfl) (dd rfl) ?_
          refine o_val (v_extract rfl rfl) (dd rfl) ?_
          refine o_val (v_extract rfl rfl) (dd rfl) ?_
          refine o_val (v_assign rfl) (dd rfl) ?_
          refine o_val (v_assign rfl) (dd rfl) ?_
          refine o_nil ?_
          refine c_seq ?_
          refine c_seq ?_
          refine c_env (env' := [(0, _), (2, _), (3, _), (5, _), (7, _), (8, _), (9, _), (10, _), (11, _), (12, _), (24, _), (25, _), (26, _), (27, _), (28, _), (29, _), (30, _), (31, _), (32, _), (33, _), (34, _), (35, _), (38, _), (39, _), (40, _), (41, _), (42, _), (43, _), (44, _), (45, _), (46, _), (47, _), (48, _), (49, _), (50, _), (51, _), (52, _), (53, _), (54, _), (55, _), (56, _), (57, _), (58, _), (59, _), (60, _), (61, _), (62, _)]) (by repeat (first | exact trivial | refine ⟨rfl, ?_⟩)) ?_
          refine c_joinb (d := 77) (decide (False)) ?_ ?_
          rotate_left
          · intro J
            refine c_region ?_
            refine o_val (v_move rfl) (dd rfl) ?_
            refine o_val (v_not rfl) (dd rfl) ?_
            refine o_val (v_move rfl) (dd rfl) ?_
            first | refine o_guard_f rfl rfl (fun g65 => ?_) (fun g65 => ?_) | refine o_guard rfl rfl (fun g65 => ?_) (fun g65 => ?_)
            · refine o_val (v_move rfl) (dd rfl) ?_
              refine o_on rfl rfl ?_
              refine o_val (v_gt rfl rfl) (dd rfl) ?_
              refine o_on rfl rfl ?_
              refine o_val (v_move rfl) (dd rfl) ?_
              first | refine o_guard_t rfl rfl (fun g68 => ?_) (fun g68 => ?_) | refine o_guard rfl rfl (fun g68 => ?_) (fun g68 => ?_)
              · refine o_val (v_move rfl) (dd rfl) ?_
                refine o_on rfl rfl ?_
                refine o_val (v_move rfl) (dd rfl) ?_
                refine o_on rfl rfl ?_
                refine o_val ((by first | exact v_sub64 rfl rfl (by omega) | exact v_sub rfl rfl)) (dd rfl) ?_
                refine o_on rfl rfl ?_
                refine o_val ((by first | exact v_indexAddrN Try.underlying35 ti3 rfl rfl (hX (by repeat constructor)) (by omega) | exact v_indexAddr Try.underlying35 ti3 rfl rfl (hX (by repeat constructor)) (by omega))) (dd rfl) ?_
                refine o_on rfl rfl ?_
                refine o_val (v_load_int lone3 rfl (by repeat (first | exact Elem.sl (List.getElem?_eq_getElem (by omega)) | exact Elem.own (List.getElem?_eq_getElem (by omega)) | exact Elem.ownO (List.getElem?_eq_getElem (by omega)) | apply Elem.there))) (dd rfl) ?_
                refine o_on rfl rfl ?_
                refine o_val (v_move rfl) (dd rfl) ?_
                refine o_on rfl rfl ?_
                refine o_val (v_ge rfl rfl) (dd rfl) ?_
                refine o_on rfl rfl ?_
                refine o_val (v_pick_t rfl rfl) (dd rfl) ?_
                refine o_val (v_pick_f rfl rfl) (dd rfl) ?_
                refine o_nil ?_
                exact c_use J ⟨Env.as rfl (congrArg Value.bool (by first | rfl | (simp_all; done) | (simp_all; omega) | (simp; omega))), (by repeat (first | exact trivial | refine ⟨rfl, ?_⟩))⟩ (by first | exact Ent.refl _ | exact eX (by repeat constructor))
              · refine o_off rfl rfl rfl (dd rfl) ?_
                refine o_off rfl rfl rfl (dd rfl) ?_
                refine o_off rfl rfl rfl (dd rfl) ?_
                refine o_off rfl rfl rfl (dd rfl) ?_
                refine o_off rfl rfl rfl (dd rfl) ?_
                refine o_off rfl rfl rfl (dd rfl) ?_
                refine o_off rfl rfl rfl (dd rfl) ?_
                refine o_on rfl rfl ?_
                refine o_val (v_pick_f rfl rfl) (dd rfl) ?_
                refine o_val (v_pick_f rfl rfl) (dd rfl) ?_
                refine o_nil ?_
                exact c_use J ⟨Env.as rfl (congrArg Value.bool (by first | rfl | (simp_all; done) | (simp_all; omega) | (simp; omega))), (by repeat (first | exact trivial | refine ⟨rfl, ?_⟩))⟩ (by first | exact Ent.refl _ | exact eX (by repeat constructor))
            · refine o_off rfl rfl rfl (dd rfl) ?_
              refine o_off rfl rfl rfl (dd rfl) ?_
              refine o_off rfl rfl rfl (dd rfl) ?_
              refine o_offu rfl rfl (dd rfl) ?_
              refine o_offu rfl rfl (dd rfl) ?_
              refine o_offu rfl rfl (dd rfl) ?_
              refine o_offu rfl rfl (dd rfl) ?_
              refine o_offu rfl rfl (dd rfl) ?_
              refine o_offu rfl rfl (dd rfl) ?_
              refine o_offu rfl rfl (dd rfl) ?_
              refine o_off rfl rfl rfl (dd rfl) ?_
              refine o_val (v_pick_t rfl rfl) (dd rfl) ?_
              refine o_nil ?_
              exact c_use J ⟨Env.as rfl (congrArg Value.bool (by first | rfl | (simp_all; done) | (simp_all; omega) | (simp; omega))), (by repeat (first | exact trivial | refine ⟨rfl, ?_⟩))⟩ (by first | exact Ent.refl _ | exact eX (by repeat constructor))
          refine c_cond_p rfl (fun hno => ?_) (fun hno => ?_)
          · exact hno.elim
          · skip
            refine c_skip ?_
            refine c_seq ?_
            refine c_region ?_
            refine o_val (v_move rfl) (dd rfl) ?_
            refine o_val (v_move rfl) (dd rfl) ?_
            refine o_step (s_slice Try.underlying35 ti3 rfl (pX (by repeat constructor)) rfl (.inl ⟨rfl, rfl⟩) (.inr ⟨_, _, _, rfl, rfl, by omega, rfl⟩) (by omega) (by omega) (dd rfl) fun z => ?_)
            refine o_val ((by first | exact v_len_form Try.underlying35 rfl | exact v_len_sl Try.underlying35 rfl (hX (by repeat constructor)))) (dd rfl) ?_
            refine o_val (v_move rfl) (dd rfl) ?_
            refine o_nil ?_
            refine c_block ?_
            have hzl : ((l.take k).drop 0).length = k := by simp; omega
            have hzk : (List.drop 0 (List.take ((k : Int).toNat) l)).length = k := hzl
            refine c_loopR (γ := Nat) [(0, _), (2, _), (3, _), (5, _), (7, _), (8, _), (9, _), (10, _), (11, _), (12, _), (24, _), (25, _), (26, _), (27, _), (28, _), (29, _), (30, _), (31, _), (32, _), (33, _), (34, _), (35, _), (38, _), (39, _), (40, _), (41, _), (42, _), (43, _), (44, _), (45, _), (46, _), (47, _), (48, _), (49, _), (50, _), (51, _), (52, _), (53, _), (54, _), (55, _), (56, _), (57, _), (58, _), (59, _), (60, _), (61, _), (62, _), (77, _), (78, _), (79, _), (80, _), (81, _)] (fun m => k - m) (fun m => m ≤ k) (fun m => [(82, .int .i64 m)]) (fun _ => [Sl (eInt .i64) z ((l.take k).drop 0), Sl (eInt .i64) rv l, Blk b7 80 [.int .i64 (ss[j]'hj').1, .int .i64 (ss[j]'hj').2.1, .string (ss[j]'hj').2.2.1, .int .i64 (ss[j]'hj').2.2.2], TabR (2 * i + 2) t L W, Sl eOp12 v ss]) (0) (Nat.zero_le _) (by repeat (first | exact trivial | refine ⟨rfl, ?_⟩)) (eX (by repeat constructor)) ?_
            rintro m hm IH4
            try dsimp only [List.cons_append, List.nil_append]
            refine c_seq ?_
            refine c_region ?_
            refine o_val (v_lt rfl rfl) (dd rfl) ?_
            refine o_nil ?_
            refine c_seq ?_
            refine c_cond_p rfl (fun hlm => ?_) (fun hlm => ?_)
            · have hm' : m < ((l.take k).drop 0).length := by omega
              have hmk : m < k := by omega
              have he : ((l.take k).drop 0)[m]'hm' = l[m]'(by omega) := by simp
              have hfit := fit_of hi0 hks ((hk.2 (l[m]'(by omega))).1 (List.getElem_mem (by omega))) (Int.ne_of_gt (List.pairwise_iff_getElem.1 hk.1 m k (by omega) hkl hmk))
              refine c_skip ?_
              refine c_seq ?_
              refine c_block ?_
              refine c_seq ?_
              refine c_region ?_
              refine o_val ((by first | exact v_indexAddrN Try.underlying35 ti3 rfl rfl (hX (by repeat constructor)) (by omega) | exact v_indexAddr Try.underlying35 ti3 rfl rfl (hX (by repeat constructor)) (by omega))) (dd rfl) ?_
              refine o_val (v_load_int lone3 rfl (by repeat (first | exact Elem.sl (List.getElem?_eq_getElem (by omega)) | exact Elem.own (List.getElem?_eq_getElem (by omega)) | exact Elem.ownO (List.getElem?_eq_getElem (by omega)) | apply Elem.there))) (dd rfl) ?_
              refine o_val (v_assign rfl) (dd rfl) ?_
              refine o_nil ?_
              refine c_seq ?_
              refine c_region ?_
              refine o_val (v_move rfl) (dd rfl) ?_
              refine o_val (v_move rfl) (dd rfl) ?_
              refine o_val (v_fieldAddrC 2 Try.underlying80 rfl ti9 (by decide) rfl) (dd rfl) ?_
              refine o_val (v_load lone9 rfl (hX (by repeat constructor)) rfl) (dd rfl) ?_
              refine o_step (s_callf cl40 (hasR_con (2 * i + 2) t L W (((l.take k).drop 0)[m]'hm') (ss[j]'hj').2.2.1) rfl (dd rfl) (pXs (by repeat constructor)) fun _ _ => ?_)
              refine o_val (v_move rfl) (dd rfl) ?_
              refine o_val (v_extract rfl rfl) (dd rfl) ?_
              refine o_val (v_extract rfl rfl) (dd rfl) ?_
              refine o_val (v_assign rfl) (dd rfl) ?_
              refine o_val (v_assign rfl) (dd rfl) ?_
              refine o_nil ?_
              refine c_seq ?_
              refine c_region ?_
              refine o_val (v_move rfl) (dd rfl) ?_
              refine o_val (v_move rfl) (dd rfl) ?_
              refine o_step (s_callf_keep cl32 (Fits_con _ _) rfl (dd rfl) (rX (by repeat constructor)) (fun _ => sX) (fun _ _ => ?_))
              refine o_val (v_not rfl) (dd rfl) ?_
              refine o_nil ?_
              rw [he, hfit]
              refine c_cond_f rfl ?_
              refine c_skip ?_
              refine c_inBlock ?_
              refine c_region ?_
              refine o_val ((by first | exact v_add64 rfl rfl (by omega) | exact v_add rfl rfl)) (dd rfl) ?_
              refine o_val (v_move rfl) (dd rfl) ?_
              refine o_nil ?_
              refine c_use (IH4 (m + 1) (by first | omega | (dsimp only; omega)) (by omega)) (by repeat (first | exact trivial | refine ⟨rfl, ?_⟩)) (eX (by repeat constructor))
            · refine c_exit rfl ?_
              refine c_inBlock ?_
              refine c_region ?_
              refine o_val ((by first | exact v_add64 rfl rfl (by omega) | exact v_add rfl rfl)) (dd rfl) ?_
              refine o_val (v_move rfl) (dd rfl) ?_
              refine o_nil ?_
              refine c_use (IH3 (k + 1) (by first | omega | (dsimp only; omega)) (by omega)) (by repeat (first | exact trivial | refine ⟨rfl, ?_⟩)) (eX (by repeat constructor))
        · rcases hq : queueR W (ss[j]'hj').2.2.1 with _ | ⟨z, Q⟩
          · skip
            refine c_exit rfl ?_
            refine c_seq ?_
            refine c_region ?_
            refine o_val (v_move rfl) (dd rfl) ?_
            refine o_val (v_fieldAddrC 2 Try.underlying80 rfl ti9 (by decide) rfl) (dd rfl) ?_
            refine o_val (v_load lone9 rfl (hX (by repeat constructor)) rfl) (dd rfl) ?_
            refine o_step (s_callf cl41 (queueRt_con (2 * i + 2) t L W (ss[j]'hj').2.2.1 (by omega)) rfl (dd rfl) (pXs (by repeat constructor)) fun q _ => ?_)
            refine o_val (v_assign rfl) (dd rfl) ?_
            refine o_nil ?_
            refine c_seq ?_
            refine c_region ?_
            refine o_val (v_move rfl) (dd rfl) ?_
            refine o_val ((by first | exact v_len_form Try.underlying35 rfl | exact v_len_sl Try.underlying35 rfl (hX (by repeat constructor)))) (dd rfl) ?_
            refine o_val (v_gt rfl rfl) (dd rfl) ?_
            refine o_val (v_move rfl) (dd rfl) ?_
            rw [hq]
            refine o_guard rfl rfl (fun g => ?_) (fun g => ?_)
            · exact absurd g (by decide)
            · skip
              refine o_off rfl rfl rfl (dd rfl) ?_
              refine o_off rfl rfl rfl (dd rfl) ?_
              refine o_off rfl rfl rfl (dd rfl) ?_
              refine o_off rfl rfl rfl (dd rfl) ?_
              refine o_off rfl rfl rfl (dd rfl) ?_
              refine o_off rfl rfl rfl (dd rfl) ?_
              refine o_val (v_pick_f rfl rfl) (dd rfl) ?_
              refine o_nil ?_
              refine c_cond_f rfl ?_
              refine c_skip ?_
              refine c_inBlock ?_
              refine c_region ?_
              refine o_val ((by first | exact v_add64 rfl rfl (by omega) | exact v_add rfl rfl)) (dd rfl) ?_
              refine o_val (v_move rfl) (dd rfl) ?_
              refine o_nil ?_
              refine c_use (IH2 (j + 1) (by first | omega | (dsimp only; omega)) (by omega)) (by repeat (first | exact trivial | refine ⟨rfl, ?_⟩)) (eX (by repeat constructor))
          · have hzq : z ∈ queueR W (ss[j]'hj').2.2.1 := by rw [hq]; simp
            have hz1 : z.2.1 = (ss[j]'hj').2.2.1 := of_decide_eq_true (List.mem_filter.1 hzq).2
            have hzw : waitR W z.1 = some z := mem_waitR hi0.wn (List.mem_filter.1 hzq).1
            have hq0 : (queueR W z.2.1)[0]? = some z := by rw [hz1, hq]; rfl
            refine c_exit rfl ?_
            refine c_seq ?_
            refine c_region ?_
            refine o_val (v_move rfl) (dd rfl) ?_
            refine o_val (v_fieldAddrC 2 Try.underlying80 rfl ti9 (by decide) rfl) (dd rfl) ?_
            refine o_val (v_load lone9 rfl (hX (by repeat constructor)) rfl) (dd rfl) ?_
            refine o_step (s_callf cl41 (queueRt_con (2 * i + 2) t L W (ss[j]'hj').2.2.1 (by omega)) rfl (dd rfl) (pXs (by repeat constructor)) fun q _ => ?_)
            refine o_val (v_assign rfl) (dd rfl) ?_
            refine o_nil ?_
            refine c_seq ?_
            refine c_region ?_
            refine o_val (v_move rfl) (dd rfl) ?_
            refine o_val ((by first | exact v_len_form Try.underlying35 rfl | exact v_len_sl Try.underlying35 rfl (hX (by repeat constructor)))) (dd rfl) ?_
            refine o_val (v_gt rfl rfl) (dd rfl) ?_
            refine o_val (v_move rfl) (dd rfl) ?_
            rw [hq]
            have hZ0 : Int.toNat 0 = 0 := rfl
            have hzL : ((z :: Q).map (·.1)).length = Q.length + 1 := by simp
            refine o_guard rfl rfl (fun g => ?_) (fun g => ?_)
            · refine o_val (v_move rfl) (dd rfl) ?_
              refine o_on rfl rfl ?_
              refine o_val (v_move rfl) (dd rfl) ?_
              refine o_on rfl rfl ?_
              refine o_val ((by first | exact v_indexAddrN Try.underlying35 ti3 rfl rfl (hX (by repeat constructor)) (by omega) | exact v_indexAddr Try.underlying35 ti3 rfl rfl (hX (by repeat constructor)) (by omega))) (dd rfl) ?_
              refine o_on rfl rfl ?_
              refine o_val (v_load_int lone3 rfl (by repeat (first | exact Elem.sl (List.getElem?_eq_getElem (by omega)) | exact Elem.own (List.getElem?_eq_getElem (by omega)) | exact Elem.ownO (List.getElem?_eq_getElem (by omega)) | apply Elem.there))) (dd rfl) ?_
              refine o_on rfl rfl ?_
              refine o_step (s_callf cl42 (inTheWay_con (2 * i + 2) t L W z (by omega) hzw hq0) rfl (dd rfl) (pXs (by repeat constructor)) fun _ _ => ?_)
              refine o_on rfl rfl ?_
              refine o_val (v_not rfl) (dd rfl) ?_
              refine o_val (v_pick_t rfl rfl) (dd rfl) ?_
              refine o_nil ?_
              refine c_cond_f rfl ?_
              refine c_skip ?_
              refine c_inBlock ?_
              refine c_region ?_
              refine o_val ((by first | exact v_add64 rfl rfl (by omega) | exact v_add rfl rfl)) (dd rfl) ?_
              refine o_val (v_move rfl) (dd rfl) ?_
              refine o_nil ?_
              refine c_use (IH2 (j + 1) (by first | omega | (dsimp only; omega)) (by omega)) (by repeat (first | exact trivial | refine ⟨rfl, ?_⟩)) (eX (by repeat constructor))
            · skip
              exact absurd g (by simp)
      · refine c_exit rfl ?_
        refine c_inBlock ?_
        refine c_region ?_
        refine o_val ((by first | exact v_add64 rfl rfl (by omega) | exact v_add rfl rfl)) (dd rfl) ?_
        refine o_val (v_move rfl) (dd rfl) ?_
        refine o_nil ?_
        refine c_use (IH ((i + 1, t, L, W)) (by first | omega | (dsimp only; omega)) (⟨by dsimp only; omega, by dsimp only; omega⟩)) (by repeat (first | exact trivial | refine ⟨rfl, ?_⟩)) (eX (by repeat constructor))
    · refine c_exit rfl ?_
      refine c_seq ?_
      refine c_region ?_
      refine o_step (s_callf_keep cl35 (alive12_con) rfl (dd rfl) (rX (by repeat constructor)) (fun _ => sX) (fun _ _ => ?_))
      refine o_val (v_assign rfl) (dd rfl) ?_
      refine o_nil ?_
      refine c_ret1 Try.func10 rfl rfl fun w O hS => ?_
      exact ⟨(), rfl, trivial, trivial⟩
end Go.Proofs.Ytnamhhmfnokfiaa
/- LockStuck: who is stuck. -/
namespace Go.Proofs.Ytnamhhmfnokfiaa
open Go Go.SL
attribute [local irreducible] Cfg Kont StepK Val Con Qops Any Sl Own Blk BlkR Rd Pu ExA AllA Has Pick Ent Elem Beside Callable TI Lone OwnO AndA
set_option maxRecDepth 100000 in
theorem lockStuck_con (v : Value) (ss : List Op12) (hss : ss.length ≤ 8796093022207) :
    Con Try.prog 11 [v] [Sl eOp12 v ss] (γ := Unit) (fun _ => .bool true) (fun _ => True) (fun _ => []) := by
  refine con_of Try.func11 rfl (dd rfl) fun w0 O0 => ?_
  refine c_seq ?_
  refine c_region ?_
  refine o_val (v_assign rfl) (dd rfl) ?_
  refine o_nil ?_
  refine c_seq ?_
  refine c_seq ?_
  refine c_region ?_
  refine o_val (v_move rfl) (dd rfl) ?_
  refine o_step (s_callf_keep cl36 (few12_con v ss hss) rfl (dd rfl) (rX (by repeat constructor)) (fun _ => sX) (fun fw hfw => ?_))
  refine o_val (v_not rfl) (dd rfl) ?_
  refine o_nil ?_
  refine c_cond rfl (fun hf => ?_) (fun hf => ?_)
  · refine c_seq ?_
    refine c_region ?_
    refine o_step (s_callf_keep cl35 (alive12_con) rfl (dd rfl) (rX (by repeat constructor)) (fun _ => sX) (fun _ _ => ?_))
    refine o_val (v_assign rfl) (dd rfl) ?_
    refine o_nil ?_
    refine c_ret1 Try.func11 rfl rfl fun w O hS => ?_
    exact ⟨(), rfl, trivial, trivial⟩
  · have hs : ss.length ≤ 40 := hfw (by simpa using hf)
    refine c_skip ?_
    refine c_seq ?_
    refine c_region ?_
    refine o_val (v_buildS (places := [(0, 1), (1, 1)]) (cells := [.map none, .map none]) Try.underlying75 ti75 (by kernel_rfl) rfl (by repeat (first | exact PartsC.nil | (apply PartsC.one (by first | exact OneC.lit rfl | exact OneC.sl (hX (by repeat constructor)) )) | (apply PartsC.lit rfl))) rfl) (dd rfl) ?_
    refine o_step (s_box rfl (dd rfl) (fun b19 => ?_))
    refine o_val (v_assign rfl) (dd rfl) ?_
    refine o_nil ?_
    refine c_seq ?_
    refine c_region ?_
    refine o_step (s_alloc ti78 (dd rfl) (fun b4 => ?_))
    refine o_nil ?_
    refine c_seq ?_
    refine c_seq ?_
    refine c_region ?_
    refine o_val (v_move rfl) (dd rfl) ?_
    refine o_val ((by first | exact v_len_form Try.underlying69 rfl | exact v_len_sl Try.underlying69 rfl (hX (by repeat constructor)))) (dd rfl) ?_
    refine o_val (v_move rfl) (dd rfl) ?_
    refine o_nil ?_
    refine c_block ?_
    refine c_ent (L' := [Blk b19 75 [.map none, .map none], Blk b4 78 [.slice none 0 0, .slice none 0 0], Sl eOp12 v ss]) (eX (by repeat constructor)) ?_
    refine c_ent tabR_new ?_
    refine c_ent (Ent.beside (b := Sl eHs (.slice none 0 0) ([] : List Hs)) (fun w O _ => Sl.nil eHs w _)) ?_
    refine c_ent (Ent.beside (b := Sl eHs (.slice none 0 0) ([] : List Hs)) (fun w O _ => Sl.nil eHs w _)) ?_
    refine c_loopR (γ := Nat × Nat × Value × Value × List Hs × List Hs) [(2, _), (4, _), (20, _), (21, _)] (fun g => ss.length - g.1) (fun g => g.1 ≤ ss.length ∧ g.2.2.2.2.1.length + g.2.2.2.2.2.length ≤ g.1) (fun g => [(22, .int .i64 g.1), (3, .pointer (some ⟨g.2.1, 0, none⟩))]) (fun g => [TabR (2 * g.1) g.2.1 g.2.2.2.2.1 g.2.2.2.2.2, Blk b4 78 [g.2.2.1, g.2.2.2.1], Sl eHs g.2.2.1 g.2.2.2.2.1, Sl eHs g.2.2.2.1 g.2.2.2.2.2, Sl eOp12 v ss]) ((0, b19, .slice none 0 0, .slice none 0 0, [], [])) (⟨Nat.zero_le _, Nat.le_refl _⟩) (by repeat (first | exact trivial | refine ⟨rfl, ?_⟩)) (eX (by repeat constructor)) ?_
    rintro ⟨i, t0, lv0, wv0, L0, W0⟩ ⟨hi, hLW⟩ IH
    dsimp only at hi hLW ⊢
    try dsimp only [List.cons_append, List.nil_append]
    refine c_seq ?_
    refine c_region ?_
    refine o_val (v_lt rfl rfl) (dd rfl) ?_
    refine o_nil ?_
    refine c_seq ?_
    refine c_cond_p rfl (fun hlt => ?_) (fun hlt => ?_)
    · have hi' : i < ss.length := by omega
      refine c_skip ?_
      refine c_seq ?_
      refine c_block ?_
      refine c_seq ?_
      refine c_region ?_
      refine o_val ((by first | exact v_indexAddrN Try.underlying69 ti80 rfl rfl (hX (by repeat constructor)) (by omega) | exact v_indexAddr Try.underlying69 ti80 rfl rfl (hX (by repeat constructor)) (by omega))) (dd rfl) ?_
      refine o_val (v_load_p (by repeat (first | exact PEnc.int _ | exact PEnc.str | exact PEnc.bool | exact PEnc.byte | exact PEnc.raw | apply PEnc.pair | apply PEnc.map)) ⟨_, Try.underlying80⟩ ti80 rfl (by repeat (first|exact el1 (by omega)|exact el2 (by omega)|exact el3 (by omega)|apply Elem.there))) (dd rfl) ?_
      refine o_step (s_alloc ti80 (dd rfl) (fun b6 => ?_))
      refine o_step (s_store_all ti80 rfl rfl (by first | exact CellsV.lit rfl | exact CellsV.one (by first | exact OneC.lit rfl | exact OneC.sl (hX (by repeat constructor)) )) (by repeat (first | exact OneAll.nil | (refine OneAll.cons ?_ ?_; · first | exact OneC.lit rfl | exact OneC.sl (hX (by repeat constructor)) ) | exact OneAll.rd (hX (by repeat constructor)))) rfl (pB (by repeat constructor)) rfl (?_))
      refine o_nil ?_
      refine c_seq ?_
      refine c_region ?_
      refine o_val (v_move rfl) (dd rfl) ?_
      refine o_val (v_load_all ⟨_, Try.underlying78⟩ ti78 rfl (hX (by repeat constructor)) rfl) (dd rfl) ?_
      refine o_val (v_load_all ⟨_, Try.underlying80⟩ ti80 rfl (hX (by repeat constructor)) rfl) (dd rfl) ?_
      refine o_step (s_callf cl37 (does12_con (2 * i) t0 L0 W0 L0 W0 lv0 wv0 (ss[i]'hi') (by omega) (by omega) (by omega)) rfl (dd rfl) (pXs (by repeat constructor)) fun rd _ => ?_)
      refine o_val (v_move rfl) (dd rfl) ?_
      refine o_val (v_extract rfl rfl) (dd rfl) ?_
      refine o_val (v_extract rfl rfl) (dd rfl) ?_
      refine o_val (v_extract rfl rfl) (dd rfl) ?_
      refine o_val (v_assign rfl) (dd rfl) ?_
      refine o_step (s_store_all ti78 rfl rfl (by first | exact CellsV.lit rfl | exact CellsV.one (by first | exact OneC.lit rfl | exact OneC.sl (hX (by repeat constructor)) )) (by repeat (first | exact OneAll.nil | (refine OneAll.cons ?_ ?_; · first | exact OneC.lit rfl | exact OneC.sl (hX (by repeat constructor)) ) | exact OneAll.rd (hX (by repeat constructor)))) rfl (pB (by repeat constructor)) rfl (?_))
      refine o_nil ?_
      refine c_seq ?_
      have hnl := next_len L0 W0 (ss[i]'hi')
      obtain ⟨t, lv, wv, b1⟩ := rd
      generalize nextR L0 W0 (ss[i]'hi') = LW at hnl ⊢
      obtain ⟨L, W⟩ := LW
      dsimp only at hnl ⊢
      refine c_held [BlkR b4 78 [lv, wv]] rfl ?_
      refine a_take 0 rfl (by kernel_rfl) (by kernel_rfl) (by kernel_rfl) (v_move rfl) (eX (by repeat constructor)) (dd rfl) ?_
      refine a_take 2 rfl (by kernel_rfl) (by kernel_rfl) (by kernel_rfl) (v_load_all ⟨_, Try.underlying78⟩ ti78 rfl (hX (by repeat constructor)) rfl) (eX (by repeat constructor)) (dd rfl) ?_
      refine a_one 1 rfl (by kernel_rfl) (s_callf cl43 (stuckRt_con (2 * i + 2) t L W (by omega)) rfl (dd rfl) (pXs (by repeat constructor)) (fun r hr => a_on (eX (by repeat constructor)) ?_))
      obtain ⟨gv, l⟩ := r
      obtain ⟨hst, hl⟩ := hr
      dsimp only at hst hl ⊢
      refine a_one 3 rfl (by kernel_rfl) (s_callf cl44 (stuckR_con lv wv L W (by omega) (by omega)) rfl (dd rfl) (pXs (by repeat constructor)) (fun r2 hr2 => a_on (eX (by repeat constructor)) ?_))
      refine a_take 4 rfl (by kernel_rfl) (by kernel_rfl) (by kernel_rfl) (v_assign rfl) (eX (by repeat constructor)) (dd rfl) ?_
      refine a_take 5 rfl (by kernel_rfl) (by kernel_rfl) (by kernel_rfl) (v_assign rfl) (eX (by repeat constructor)) (dd rfl) ?_
      refine a_done (by kernel_rfl) ?_ _
      refine c_seq ?_
      refine c_seq ?_
      refine c_region ?_
      refine o_val (v_move rfl) (dd rfl) ?_
      refine o_val ((by first | exact v_len_form Try.underlying35 rfl | exact v_len_sl Try.underlying35 rfl (hX (by repeat constructor)))) (dd rfl) ?_
      refine o_val (v_move rfl) (dd rfl) ?_
      refine o_val ((by first | exact v_len_form Try.underlying76 rfl | exact v_len_sl Try.underlying76 rfl (hX (by repeat constructor)))) (dd rfl) ?_
      refine o_val (v_ne rfl rfl) (dd rfl) ?_
      refine o_nil ?_
      obtain ⟨rv, r⟩ := r2
      obtain ⟨kk, hkk, hfix⟩ := hr2
      dsimp only at hkk hfix ⊢
      obtain ⟨hmem, hlen⟩ := hst.rows kk r hkk hfix
      refine c_cond_p rfl (fun hne => ?_) (fun hne => ?_)
      · exact absurd (congrArg Int.ofNat hlen) hne
      · skip
        refine c_skip ?_
        refine c_seq ?_
        refine c_region ?_
        refine o_val (v_move rfl) (dd rfl) ?_
        refine o_val ((by first | exact v_len_form Try.underlying35 rfl | exact v_len_sl Try.underlying35 rfl (hX (by repeat constructor)))) (dd rfl) ?_
        refine o_val (v_move rfl) (dd rfl) ?_
        refine o_nil ?_
        refine c_block ?_
        refine c_loopR (γ := Nat) [(2, _), (3, _), (4, _), (6, _), (7, _), (8, _), (20, _), (21, _), (22, _), (23, _), (24, _), (25, _), (26, _), (27, _), (28, _), (29, _), (30, _), (31, _), (32, _), (34, _), (35, _), (36, _), (37, _), (38, _), (39, _), (40, _), (41, _), (42, _), (43, _), (44, _)] (fun k => l.length - k) (fun k => k ≤ l.length) (fun k => [(45, .int .i64 k)]) (fun _ => [Sl (eInt .i64) gv l, Sl eHs rv r, TabR (2 * i + 2) t L W, Blk b4 78 [lv, wv], Sl eHs lv L, Sl eHs wv W, Sl eOp12 v ss]) (0) (Nat.zero_le _) (by repeat (first | exact trivial | refine ⟨rfl, ?_⟩)) (eX (by repeat constructor)) ?_
        rintro k hk' IH3
        try dsimp only [List.cons_append, List.nil_append]
        refine c_seq ?_
        refine c_region ?_
        refine o_val (v_lt rfl rfl) (dd rfl) ?_
        refine o_nil ?_
        refine c_seq ?_
        refine c_cond_p rfl (fun hlk => ?_) (fun hlk => ?_)
        · have hkl : k < l.length := by omega
          have hkr : k = 0 ∨ l[k - 1]'(by omega) < l[k]'hkl := (Nat.eq_zero_or_pos k).imp id fun h => List.pairwise_iff_getElem.1 hst.rising (k - 1) k (by omega) hkl (by omega)
          refine c_skip ?_
          refine c_seq ?_
          refine c_block ?_
          refine c_seq ?_
          refine c_region ?_
          refine o_val (v_move rfl) (dd rfl) ?_
          refine o_val ((by first | exact v_indexAddrN Try.underlying35 ti3 rfl rfl (hX (by repeat constructor)) (by omega) | exact v_indexAddr Try.underlying35 ti3 rfl rfl (hX (by repeat constructor)) (by omega))) (dd rfl) ?_
          refine o_val (v_load_int lone3 rfl (by repeat (first | exact Elem.sl (List.getElem?_eq_getElem (by omega)) | exact Elem.own (List.getElem?_eq_getElem (by omega)) | exact Elem.ownO (List.getElem?_eq_getElem (by omega)) | apply Elem.there))) (dd rfl) ?_
          refine o_val (v_assign rfl) (dd rfl) ?_
          refine o_val (v_assign rfl) (dd rfl) ?_
          refine o_nil ?_
          refine c_seq ?_
          refine c_region ?_
          refine o_val (v_assign rfl) (dd rfl) ?_
          refine o_nil ?_
          refine c_seq ?_
          refine c_seq ?_
          refine c_region ?_
          refine o_val (v_move rfl) (dd rfl) ?_
          refine o_val ((by first | exact v_len_form Try.underlying76 rfl | exact v_len_sl Try.underlying76 rfl (hX (by repeat constructor)))) (dd rfl) ?_
          refine o_val (v_move rfl) (dd rfl) ?_
          refine o_nil ?_
          refine c_block ?_
          refine c_loopR (γ := Nat × Bool) [(2, _), (3, _), (4, _), (6, _), (7, _), (8, _), (9, _), (10, _), (20, _), (21, _), (22, _), (23, _), (24, _), (25, _), (26, _), (27, _), (28, _), (29, _), (30, _), (31, _), (32, _), (34, _), (35, _), (36, _), (37, _), (38, _), (39, _), (40, _), (41, _), (42, _), (43, _), (44, _), (45, _), (46, _), (47, _), (48, _), (49, _), (50, _), (51, _)] (fun g => r.length - g.1) (fun g => g.1 ≤ r.length ∧ g.2 = (r.take g.1).any (fun w => decide (w.1 = l[k]'hkl))) (fun g => [(52, .int .i64 g.1), (11, .bool g.2)]) (fun _ => [Sl (eInt .i64) gv l, Sl eHs rv r, TabR (2 * i + 2) t L W, Blk b4 78 [lv, wv], Sl eHs lv L, Sl eHs wv W, Sl eOp12 v ss]) ((0, false)) (⟨Nat.zero_le _, rfl⟩) (by repeat (first | exact trivial | refine ⟨rfl, ?_⟩)) (eX (by repeat constructor)) ?_
          rintro ⟨m, b⟩ ⟨hm, hb⟩ IH4
          dsimp only at hm hb ⊢
          try dsimp only [List.cons_append, List.nil_append]
          refine c_seq ?_
          refine c_region ?_
          refine o_val (v_lt rfl rfl) (dd rfl) ?_
          refine o_nil ?_
          refine c_seq ?_
          refine c_cond_p rfl (fun hlm => ?_) (fun hlm => ?_)
          · have hm' : m < r.length := by omega
            have hnx : (r.take (m + 1)).any (fun w => decide (w.1 = l[k]'hkl)) = (b || decide ((r[m]'hm').1 = l[k]'hkl)) := by rw [List.take_succ_eq_append_getElem hm', List.any_append, ← hb]; simp
            refine c_skip ?_
            refine c_seq ?_
            refine c_block ?_
            refine c_seq ?_
            refine c_region ?_
            refine o_val ((by first | exact v_indexAddrN Try.underlying76 ti90 rfl rfl (hX (by repeat constructor)) (by omega) | exact v_indexAddr Try.underlying76 ti90 rfl rfl (hX (by repeat constructor)) (by omega))) (dd rfl) ?_
            refine o_val (v_load_p (by repeat (first | exact PEnc.int _ | exact PEnc.str | exact PEnc.bool | exact PEnc.byte | exact PEnc.raw | apply PEnc.pair | apply PEnc.map)) ⟨_, Try.underlying90⟩ ti90 rfl (by repeat (first|exact el1 (by omega)|exact el2 (by omega)|exact el3 (by omega)|apply Elem.there))) (dd rfl) ?_
            refine o_step (s_alloc ti90 (dd rfl) (fun b13 => ?_))
            refine o_step (s_store_all ti90 rfl rfl (by first | exact CellsV.lit rfl | exact CellsV.one (by first | exact OneC.lit rfl | exact OneC.sl (hX (by repeat constructor)) )) (by repeat (first | exact OneAll.nil | (refine OneAll.cons ?_ ?_; · first | exact OneC.lit rfl | exact OneC.sl (hX (by repeat constructor)) ) | exact OneAll.rd (hX (by repeat constructor)))) rfl (pB (by repeat constructor)) rfl (?_))
            refine o_nil ?_
            refine c_region ?_
            refine o_val (v_move rfl) (dd rfl) ?_
            refine o_val (v_move rfl) (dd rfl) ?_
            refine o_guard rfl rfl (fun g => ?_) (fun g => ?_)
            · refine o_val (v_fieldAddrC 0 Try.underlying90 rfl ti3 (by decide) rfl) (dd rfl) ?_
              refine o_on rfl rfl ?_
              refine o_val (v_load lone3 rfl (hX (by repeat constructor)) rfl) (dd rfl) ?_
              refine o_on rfl rfl ?_
              refine o_val (v_move rfl) (dd rfl) ?_
              refine o_on rfl rfl ?_
              refine o_val (v_eq rfl rfl) (dd rfl) ?_
              refine o_val (v_pick_f rfl rfl) (dd rfl) ?_
              refine o_val (v_assign rfl) (dd rfl) ?_
              refine o_nil ?_
              refine c_inBlock ?_
              refine c_region ?_
              refine o_val ((by first | exact v_add64 rfl rfl (by omega) | exact v_add rfl rfl)) (dd rfl) ?_
              refine o_val (v_move rfl) (dd rfl) ?_
              refine o_nil ?_
              refine c_use (IH4 ((m + 1, decide ((r[m]'hm').1 = l[k]'hkl))) (by first | omega | (dsimp only; omega)) (⟨by dsimp only; omega, by dsimp only; rw [hnx, g]; rfl⟩)) (by repeat (first | exact trivial | refine ⟨rfl, ?_⟩)) (eX (by repeat constructor))
            · refine o_off rfl rfl rfl (dd rfl) ?_
              refine o_off rfl rfl rfl (dd rfl) ?_
              refine o_off rfl rfl rfl (dd rfl) ?_
              refine o_off rfl rfl rfl (dd rfl) ?_
              refine o_val (v_pick_t rfl rfl) (dd rfl) ?_
              refine o_val (v_assign rfl) (dd rfl) ?_
              refine o_nil ?_
              refine c_inBlock ?_
              refine c_region ?_
              refine o_val ((by first | exact v_add64 rfl rfl (by omega) | exact v_add rfl rfl)) (dd rfl) ?_
              refine o_val (v_move rfl) (dd rfl) ?_
              refine o_nil ?_
              refine c_use (IH4 ((m + 1, true)) (by first | omega | (dsimp only; omega)) (⟨by dsimp only; omega, by dsimp only; rw [hnx, g]; rfl⟩)) (by repeat (first | exact trivial | refine ⟨rfl, ?_⟩)) (eX (by repeat constructor))
          · have hbt : b = true := by
              have hmr : m = r.length := by omega
              rw [hb, hmr, List.take_length, List.any_eq_true]
              obtain ⟨w, hw, he⟩ := (hmem _).1 (List.getElem_mem hkl)
              exact ⟨w, hw, decide_eq_true he⟩
            refine c_exit rfl ?_
            refine c_seq ?_
            refine c_env (env' := [(2, _), (3, _), (4, _), (6, _), (7, _), (8, _), (9, _), (10, _), (11, _), (20, _), (21, _), (22, _), (23, _), (24, _), (25, _), (26, _), (27, _), (28, _), (29, _), (30, _), (31, _), (32, _), (34, _), (35, _), (36, _), (37, _), (38, _), (39, _), (40, _), (41, _), (42, _), (43, _), (44, _), (45, _), (46, _), (47, _), (48, _), (49, _), (50, _), (51, _), (52, _), (53, _)]) (by repeat (first | exact trivial | refine ⟨rfl, ?_⟩)) ?_
            refine c_joinb (d := 78) (decide (False)) ?_ ?_
            rotate_left
            · intro J
              refine c_region ?_
              refine o_val (v_move rfl) (dd rfl) ?_
              refine o_val (v_not rfl) (dd rfl) ?_
              refine o_val (v_move rfl) (dd rfl) ?_
              first | refine o_guard_f rfl rfl (fun g66 => ?_) (fun g66 => ?_) | refine o_guard rfl rfl (fun g66 => ?_) (fun g66 => ?_)
              · refine o_val (v_move rfl) (dd rfl) ?_
                refine o_on rfl rfl ?_
                refine o_val (v_gt rfl rfl) (dd rfl) ?_
                refine o_on rfl rfl ?_
                refine o_val (v_move rfl) (dd rfl) ?_
                first | refine o_guard_t rfl rfl (fun g69 => ?_) (fun g69 => ?_) | refine o_guard rfl rfl (fun g69 => ?_) (fun g69 => ?_)
                · refine o_val (v_move rfl) (dd rfl) ?_
                  refine o_on rfl rfl ?_
                  refine o_val (v_move rfl) (dd rfl) ?_
                  refine o_on rfl rfl ?_
                  refine o_val ((by first | exact v_sub64 rfl rfl (by omega) | exact v_sub rfl rfl)) (dd rfl) ?_
                  refine o_on rfl rfl ?_
                  refine o_val ((by first | exact v_indexAddrN Try.underlying35 ti3 rfl rfl (hX (by repeat constructor)) (by omega) | exact v_indexAddr Try.underlying35 ti3 rfl rfl (hX (by repeat constructor)) (by omega))) (dd rfl) ?_
                  refine o_on rfl rfl ?_
                  refine o_val (v_load_int lone3 rfl (by repeat (first | exact Elem.sl (List.getElem?_eq_getElem (by omega)) | exact Elem.own (List.getElem?_eq_getElem (by omega)) | exact Elem.ownO (List.getElem?_eq_getElem (by omega)) | apply Elem.there))) (dd rfl) ?_
                  refine o_on rfl rfl ?_
                  refine o_val (v_move rfl) (dd rfl) ?_
                  refine o_on rfl rfl ?_
                  refine o_val (v_ge rfl rfl) (dd rfl) ?_
                  refine o_on rfl rfl ?_
                  refine o_val (v_pick_t rfl rfl) (dd rfl) ?_
                  refine o_val (v_pick_f rfl rfl) (dd rfl) ?_
                  refine o_nil ?_
                  exact c_use J ⟨Env.as rfl (congrArg Value.bool (by first | rfl | (simp_all; done) | (simp_all; omega) | (simp; omega))), (by repeat (first | exact trivial | refine ⟨rfl, ?_⟩))⟩ (by first | exact Ent.refl _ | exact eX (by repeat constructor))
                · refine o_off rfl rfl rfl (dd rfl) ?_
                  refine o_off rfl rfl rfl (dd rfl) ?_
                  refine o_off rfl rfl rfl (dd rfl) ?_
                  refine o_off rfl rfl rfl (dd rfl) ?_
                  refine o_off rfl rfl rfl (dd rfl) ?_
                  refine o_off rfl rfl rfl (dd rfl) ?_
                  refine o_off rfl rfl rfl (dd rfl) ?_
                  refine o_on rfl rfl ?_
                  refine o_val (v_pick_f rfl rfl) (dd rfl) ?_
                  refine o_val (v_pick_f rfl rfl) (dd rfl) ?_
                  refine o_nil ?_
                  exact c_use J ⟨Env.as rfl (congrArg Value.bool (by first | rfl | (simp_all; done) | (simp_all; omega) | (simp; omega))), (by repeat (first | exact trivial | refine ⟨rfl, ?_⟩))⟩ (by first | exact Ent.refl _ | exact eX (by repeat constructor))
              · refine o_off rfl rfl rfl (dd rfl) ?_
                refine o_off rfl rfl rfl (dd rfl) ?_
                refine o_off rfl rfl rfl (dd rfl) ?_
                refine o_offu rfl rfl (dd rfl) ?_
                refine o_offu rfl rfl (dd rfl) ?_
                refine o_offu rfl rfl (dd rfl) ?_
                refine o_offu rfl rfl (dd rfl) ?_
                refine o_offu rfl rfl (dd rfl) ?_
                refine o_offu rfl rfl (dd rfl) ?_
                refine o_offu rfl rfl (dd rfl) ?_
                refine o_off rfl rfl rfl (dd rfl) ?_
                refine o_val (v_pick_t rfl rfl) (dd rfl) ?_
                refine o_nil ?_
                exact c_use J ⟨Env.as rfl (congrArg Value.bool (by first | rfl | (simp_all; done) | (simp_all; omega) | (simp; omega))), (by repeat (first | exact trivial | refine ⟨rfl, ?_⟩))⟩ (by first | exact Ent.refl _ | exact eX (by repeat constructor))
            refine c_cond_p rfl (fun hno => ?_) (fun hno => ?_)
            · exact hno.elim
            · skip
              refine c_skip ?_
              refine c_inBlock ?_
              refine c_region ?_
              refine o_val ((by first | exact v_add64 rfl rfl (by omega) | exact v_add rfl rfl)) (dd rfl) ?_
              refine o_val (v_move rfl) (dd rfl) ?_
              refine o_nil ?_
              refine c_use (IH3 (k + 1) (by first | omega | (dsimp only; omega)) (by omega)) (by repeat (first | exact trivial | refine ⟨rfl, ?_⟩)) (eX (by repeat constructor))
        · refine c_exit rfl ?_
          refine c_inBlock ?_
          refine c_region ?_
          refine o_val ((by first | exact v_add64 rfl rfl (by omega) | exact v_add rfl rfl)) (dd rfl) ?_
          refine o_val (v_move rfl) (dd rfl) ?_
          refine o_nil ?_
          refine c_use (IH ((i + 1, t, lv, wv, L, W)) (by first | omega | (dsimp only; omega)) (⟨by dsimp only; omega, by dsimp only; omega⟩)) (by repeat (first | exact trivial | refine ⟨rfl, ?_⟩)) (eX (by repeat constructor))
    · refine c_exit rfl ?_
      refine c_seq ?_
      refine c_region ?_
      refine o_step (s_callf_keep cl35 (alive12_con) rfl (dd rfl) (rX (by repeat constructor)) (fun _ => sX) (fun _ _ => ?_))
      refine o_val (v_assign rfl) (dd rfl) ?_
      refine o_nil ?_
      refine c_ret1 Try.func11 rfl rfl fun w O hS => ?_
      exact ⟨(), rfl, trivial, trivial⟩
end Go.Proofs.Ytnamhhmfnokfiaa
namespace Go.Proofs.Ytnamhhmfnokfiaa
open Go Go.SL Go.RowKit Go.ChangeShapes Go.WideShapes Go.ChangeAt 
set_option linter.unusedVariables false
set_option maxRecDepth 100000 in
theorem lockStuck_lifted (os : Os) (started : os.Started) (H : Type) (enc : TypeId × Value → H) :
    ReturnsInHanded {} Try.checked os 11 .any (fun w args => (Rows.lockStuckSpec.pre enc Try.prog Try.f11 [] false w args ∧ True) ∧ sizedMet enc Try.prog Try.f11 (OpenSpec.ofChange Rows.lockStuckSpec) false w args)
      (Rows.lockStuckSpec.post enc Try.prog Try.f11 false true false false) := by
  refine lift_true (C := Try.checked) (X := fun w _ => True) (t := 4) (fun _ _ _ _ h => h) own started (by kernel_rfl) Try.func11 rfl (fun ds h => ?_) rfl Try.underlying4 laidOut (by kernel_rfl)
    (ChangeSpec.witness_shaped (enc := enc) (C := Try.checked) (os := os) (X := fun w _ => True) false (World.laidAll Try.prog os laidL) #[.slice none 0 0] 8 (World.laidAll_os _ _ _) (start_shaped os _) (by kernel_rfl) (by kernel_rfl) (by kernel_rfl) (trivial)) ?_
  · match ds, h with
    | [d0], _ => rfl
  · intro W base args ds ps hsh _ hval0 hA0 hwt0
    have hval : ∀ (j : Nat) t v, Try.f11.params[j]? = some t → args[j]? = some v → Value.okWide Try.prog W .any base t v := hval0
    have hA : DataW.TrodAll enc Try.prog W 0 (fun _ => true) true Try.f11.params.toList args.toList ds ps := hA0
    have hwt : ∀ (j : Nat) t d, Try.f11.params.toList[j]? = some t → ds[j]? = some d → ∀ n ∈ d.weights Try.prog t, n ≤ reachBytes := hwt0
    clear hval0 hA0 hwt0
    rw [Try.params11] at hA hval hwt
    obtain ⟨v0, vs0, d0, ds0, p0, q0, hargs, rfl, rfl, h0, r0⟩ := trodAll_cons hA
    obtain ⟨rfl, rfl, rfl⟩ := trodAll_nil r0
    obtain rfl : args = #[v0] := by cases args; simp_all
    obtain ⟨x0, e0, g0⟩ := open_arg opOps12 h0 (hwt 0 69 d0 rfl rfl)
    have a0 := arg_slice Try.underlying69 (hval 0 69 v0 rfl rfl) e0
    exact calls_of_con (lockStuck_con v0 x0 g0.1) (List.forall_mem_cons.2 ⟨a0, fun _ h => by cases h⟩)
theorem lockStuck_row : Rows.LockStuckSaid :=
  OpenClaim.holds_of_wide 11 Try.f11 rfl rfl rfl rfl rfl rfl rfl ⟨rfl, rfl, rfl, rfl, rfl⟩ rfl rfl rfl rfl rfl (by kernel_rfl) Try.func11 (by kernel_rfl)
    (of_decide_eq_true (by kernel_rfl)) (by unfold Func.isWrapper; first | (rw [if_pos (by decide +kernel)]; kernel_rfl) | (rw [if_neg (by decide +kernel)]; exact ⟨rfl, rfl⟩))
    (fun os started H enc _ => by have h_ := lockStuck_lifted os started H enc; simp only [and_true] at h_; exact h_)
#print axioms lockStuck_row
end Go.Proofs.Ytnamhhmfnokfiaa

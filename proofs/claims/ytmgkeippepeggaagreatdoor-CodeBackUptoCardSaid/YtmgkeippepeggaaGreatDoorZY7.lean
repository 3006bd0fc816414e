/- The texts W7, W8, S1, A1, R3, U1, DC, F1, S2, S3, one behind the other. -/
import Derived.Test.YtmgkeippepeggaaGreatDoorZY6
import Derived.Test.YtmgkeippepeggaaGreatDoorRows
import Derived.Lay
import Derived.Stop.LaidErr
import Derived.Lib.LaidTab
set_option linter.unusedVariables false
set_option linter.unusedSimpArgs false
/- Chapter 09: the document's readers: changes. -/
namespace Go.Proofs.YtmgkeippepeggaaGreatDoor
open Go Go.SL Go.Lib
theorem texts_lim {s : St9} (h : s.1.length ≤ big9) : takeTexts 1000000 60 s = takeTexts s.1.length 60 s :=
  takeSome_most (fun _ _ _ e hb => takeText_less e hb) (by unfold big9 at h; omega) (Int.le_refl _)
attribute [local irreducible] Cfg Kont StepK Val Con Qops Any Sl Own Blk BlkR Rd Pu ExA AllA Has Pick Ent Elem Beside Callable TI Lone OwnO AndA
set_option maxRecDepth 100000 in
theorem takePrimRef_con (B : ByteArray) (s : St9) (hB : B.size ≤ big9) (h : EndsB B s) : Con Tryz.prog 63 [inS B s] [] (γ := Value × Value)
    (fun g => .tuple #[inS B (takePrim s).1, .agg #[.int .i64 (takePrim s).2.1, .string (takePrim s).2.2.1, .string (takePrim s).2.2.2.1, .int .i64 (takePrim s).2.2.2.2.1, g.1, g.2]]) (fun _ => True) (fun g => [Sl eStr g.1 (takePrim s).2.2.2.2.2.1, Sl eStr g.2 (takePrim s).2.2.2.2.2.2]) := by
  have hB' : B.size ≤ 4611686018427387904 := by unfold big9 at hB; omega
  have hlen : ∀ {s : St9}, EndsB B s → s.1.length ≤ big9 := fun h => by have := h.at.2.2; unfold big9 at *; omega
  have hok := raw_ok (hlen h)
  have hS := spoilRef_con B s
  have hR := fun ov wv => rightRef_con (rawPrim s).2 ov wv hok
  obtain ⟨s1, k, h1⟩ : ∃ s1 k, takeNum s = (s1, k) := ⟨_, _, rfl⟩
  have c1 := takeNumRef_con B s hB' h
  have e1 := h.goes goes_num
  rw [h1] at c1 e1
  obtain ⟨s2, n, h2⟩ : ∃ s2 n, takeText 24 s1 = (s2, n) := ⟨_, _, rfl⟩
  have c2 := takeTextRef_con B s1 24 hB' e1
  have e2 := e1.goes (goes_text 24)
  rw [h2] at c2 e2
  obtain ⟨s3, t, h3⟩ : ∃ s3 t, takeText 24 s2 = (s3, t) := ⟨_, _, rfl⟩
  have c3 := takeTextRef_con B s2 24 hB' e2
  have e3 := e2.goes (goes_text 24)
  rw [h3] at c3 e3
  obtain ⟨s4, a, h4⟩ : ∃ s4 a, takeNum s3 = (s4, a) := ⟨_, _, rfl⟩
  have c4 := takeNumRef_con B s3 hB' e3
  have e4 := e3.goes goes_num
  rw [h4] at c4 e4
  obtain ⟨s5, o, h5⟩ : ∃ s5 o, takeTexts s4.1.length 60 s4 = (s5, o) := ⟨_, _, rfl⟩
  have c5 := takeTextsRef_con B s4 1000000 60 hB' e4
  have e5 : EndsB B (takeTexts s4.1.length 60 s4).1 := e4.goes (goes_some (goes_text 60) _)
  rw [texts_lim (hlen e4), h5] at c5
  rw [h5] at e5
  obtain ⟨s6, w, h6⟩ : ∃ s6 w, takeTexts s5.1.length 60 s5 = (s6, w) := ⟨_, _, rfl⟩
  have c6 := takeTextsRef_con B s5 1000000 60 hB' e5
  rw [texts_lim (hlen e5), h6] at c6
  have hraw : rawPrim s = (s6, (k, n, t, a, o, w)) := by unfold rawPrim; simp only [h1, h2, h3, h4, h5, h6]
  rw [hraw] at hR
  unfold takePrim
  rw [hraw]
  dsimp only at c1 c2 c3 c4 c5 c6 hR ⊢
  unfold inS inV at *
  refine con_of Tryz.func63 rfl (dd rfl) fun w0 O0 => ?_
  refine c_seq ?_
  refine c_region ?_
  refine o_step (s_box rfl (dd rfl) (fun b1 => ?_))
  refine o_step (s_alloc ti48 (dd rfl) (fun b2 => ?_))
  refine o_step (s_alloc ti30 (dd rfl) (fun b3 => ?_))
  refine o_nil ?_
  refine c_seq ?_
  refine c_region ?_
  refine o_step (s_alloc ti30 (dd rfl) (fun b4 => ?_))
  refine o_nil ?_
  refine c_seq ?_
  refine c_region ?_
  refine o_val (v_load_all ⟨_, Tryz.underlying48⟩ ti48 rfl (hX (by repeat constructor)) rfl) (dd rfl) ?_
  refine o_step (s_callf cl59 (c1) rfl (dd rfl) (pXs (by repeat constructor)) fun _ _ => ?_)
  refine o_val (v_move rfl) (dd rfl) ?_
  refine o_val (v_extract rfl rfl) (dd rfl) ?_
  refine o_val (v_extract rfl rfl) (dd rfl) ?_
  refine o_step (s_alloc ti48 (dd rfl) (fun b5 => ?_))
  refine o_step (s_store_all ti48 rfl rfl (by first | exact CellsV.lit rfl | exact CellsV.one (by first | exact OneC.lit rfl | exact OneC.sl (hX (by repeat constructor)) )) (by repeat (first | exact OneAll.nil | (refine OneAll.cons ?_ ?_; · first | exact OneC.lit rfl | exact OneC.sl (hX (by repeat constructor)) ) | exact OneAll.rd (hX (by repeat constructor)))) rfl (pB (by repeat constructor)) rfl (?_))
  refine o_val (v_assign rfl) (dd rfl) ?_
  refine o_nil ?_
  refine c_seq ?_
  refine c_region ?_
  refine o_val (v_load_all ⟨_, Tryz.underlying48⟩ ti48 rfl (hX (by repeat constructor)) rfl) (dd rfl) ?_
  refine o_step (s_callf cl61 (c2) rfl (dd rfl) (pXs (by repeat constructor)) fun _ _ => ?_)
  refine o_val (v_move rfl) (dd rfl) ?_
  refine o_val (v_extract rfl rfl) (dd rfl) ?_
  refine o_val (v_extract rfl rfl) (dd rfl) ?_
  refine o_step (s_store_all ti48 rfl rfl (by first | exact CellsV.lit rfl | exact CellsV.one (by first | exact OneC.lit rfl | exact OneC.sl (hX (by repeat constructor)) )) (by repeat (first | exact OneAll.nil | (refine OneAll.cons ?_ ?_; · first | exact OneC.lit rfl | exact OneC.sl (hX (by repeat constructor)) ) | exact OneAll.rd (hX (by repeat constructor)))) rfl (pB (by repeat constructor)) rfl (?_))
  refine o_val (v_assign rfl) (dd rfl) ?_
  refine o_nil ?_
  refine c_seq ?_
  refine c_region ?_
  refine o_val (v_load_all ⟨_, Tryz.underlying48⟩ ti48 rfl (hX (by repeat constructor)) rfl) (dd rfl) ?_
  refine o_step (s_callf cl61 (c3) rfl (dd rfl) (pXs (by repeat constructor)) fun _ _ => ?_)
  refine o_val (v_move rfl) (dd rfl) ?_
  refine o_val (v_extract rfl rfl) (dd rfl) ?_
  refine o_val (v_extract rfl rfl) (dd rfl) ?_
  refine o_step (s_store_all ti48 rfl rfl (by first | exact CellsV.lit rfl | exact CellsV.one (by first | exact OneC.lit rfl | exact OneC.sl (hX (by repeat constructor)) )) (by repeat (first | exact OneAll.nil | (refine OneAll.cons ?_ ?_; · first | exact OneC.lit rfl | exact OneC.sl (hX (by repeat constructor)) ) | exact OneAll.rd (hX (by repeat constructor)))) rfl (pB (by repeat constructor)) rfl (?_))
  refine o_val (v_assign rfl) (dd rfl) ?_
  refine o_nil ?_
  refine c_seq ?_
  refine c_region ?_
  refine o_val (v_load_all ⟨_, Tryz.underlying48⟩ ti48 rfl (hX (by repeat constructor)) rfl) (dd rfl) ?_
  refine o_step (s_callf cl59 (c4) rfl (dd rfl) (pXs (by repeat constructor)) fun _ _ => ?_)
  refine o_val (v_move rfl) (dd rfl) ?_
  refine o_val (v_extract rfl rfl) (dd rfl) ?_
  refine o_val (v_extract rfl rfl) (dd rfl) ?_
  refine o_step (s_store_all ti48 rfl rfl (by first | exact CellsV.lit rfl | exact CellsV.one (by first | exact OneC.lit rfl | exact OneC.sl (hX (by repeat constructor)) )) (by repeat (first | exact OneAll.nil | (refine OneAll.cons ?_ ?_; · first | exact OneC.lit rfl | exact OneC.sl (hX (by repeat constructor)) ) | exact OneAll.rd (hX (by repeat constructor)))) rfl (pB (by repeat constructor)) rfl (?_))
  refine o_val (v_assign rfl) (dd rfl) ?_
  refine o_nil ?_
  refine c_seq ?_
  refine c_region ?_
  refine o_val (v_load_all ⟨_, Tryz.underlying48⟩ ti48 rfl (hX (by repeat constructor)) rfl) (dd rfl) ?_
  refine o_step (s_callf cl62 (c5) rfl (dd rfl) (pXs (by repeat constructor)) fun g5 _ => ?_)
  refine o_val (v_move rfl) (dd rfl) ?_
  refine o_val (v_extract rfl rfl) (dd rfl) ?_
  refine o_val (v_extract rfl rfl) (dd rfl) ?_
  refine o_step (s_store_all ti48 rfl rfl (by first | exact CellsV.lit rfl | exact CellsV.one (by first | exact OneC.lit rfl | exact OneC.sl (hX (by repeat constructor)) )) (by repeat (first | exact OneAll.nil | (refine OneAll.cons ?_ ?_; · first | exact OneC.lit rfl | exact OneC.sl (hX (by repeat constructor)) ) | exact OneAll.rd (hX (by repeat constructor)))) rfl (pB (by repeat constructor)) rfl (?_))
  refine o_val (v_assign rfl) (dd rfl) ?_
  refine o_nil ?_
  refine c_seq ?_
  refine c_region ?_
  refine o_val (v_load_all ⟨_, Tryz.underlying48⟩ ti48 rfl (hX (by repeat constructor)) rfl) (dd rfl) ?_
  refine o_step (s_callf cl62 (c6) rfl (dd rfl) (pXs (by repeat constructor)) fun g6 _ => ?_)
  refine o_val (v_move rfl) (dd rfl) ?_
  refine o_val (v_extract rfl rfl) (dd rfl) ?_
  refine o_val (v_extract rfl rfl) (dd rfl) ?_
  refine o_step (s_store_all ti48 rfl rfl (by first | exact CellsV.lit rfl | exact CellsV.one (by first | exact OneC.lit rfl | exact OneC.sl (hX (by repeat constructor)) )) (by repeat (first | exact OneAll.nil | (refine OneAll.cons ?_ ?_; · first | exact OneC.lit rfl | exact OneC.sl (hX (by repeat constructor)) ) | exact OneAll.rd (hX (by repeat constructor)))) rfl (pB (by repeat constructor)) rfl (?_))
  refine o_val (v_assign rfl) (dd rfl) ?_
  refine o_nil ?_
  refine c_seq ?_
  refine c_region ?_
  refine o_val (v_move rfl) (dd rfl) ?_
  refine o_val (v_move rfl) (dd rfl) ?_
  refine o_val (v_move rfl) (dd rfl) ?_
  refine o_val (v_move rfl) (dd rfl) ?_
  refine o_val (v_move rfl) (dd rfl) ?_
  refine o_val (v_move rfl) (dd rfl) ?_
  refine o_val (v_buildS (places := [(0, 1), (1, 1), (2, 1), (3, 1), (4, 1), (5, 1)]) (cells := [_, _, _, _, _, _]) Tryz.underlying30 ti30 (by kernel_rfl) rfl (by repeat (first | exact PartsC.nil | (apply PartsC.one (by first | exact OneC.lit rfl | exact OneC.sl (hX (by repeat constructor)) )) | (apply PartsC.lit rfl))) rfl) (dd rfl) ?_
  refine o_step (s_store_all ti30 rfl rfl (by first | exact CellsV.lit rfl | exact CellsV.one (by first | exact OneC.lit rfl | exact OneC.sl (hX (by repeat constructor)) )) (by repeat (first | exact OneAll.nil | (refine OneAll.cons ?_ ?_; · first | exact OneC.lit rfl | exact OneC.sl (hX (by repeat constructor)) ) | exact OneAll.rd (hX (by repeat constructor)))) rfl (pB (by repeat constructor)) rfl (?_))
  refine o_nil ?_
  refine c_seq ?_
  refine c_seq ?_
  refine c_env (env' := [(1, _), (2, _), (3, _), (4, _), (5, _)]) (by repeat (first | exact trivial | refine ⟨rfl, ?_⟩)) ?_
  refine c_joinb (d := 55) (decide (s6.2 = true ∨ rightP (k, n, t, a, o, w) = false)) ?_ ?_
  rotate_left
  · intro J
    refine c_region ?_
    refine o_val (v_fieldAddrC 2 Tryz.underlying48 rfl ti4 (by decide) rfl) (dd rfl) ?_
    refine o_val (v_load lone4 rfl (hX (by repeat constructor)) rfl) (dd rfl) ?_
    refine o_val (v_move rfl) (dd rfl) ?_
    first | refine o_guard_f rfl rfl (fun g51 => ?_) (fun g51 => ?_) | refine o_guard rfl rfl (fun g51 => ?_) (fun g51 => ?_)
    · refine o_val (v_load_all ⟨_, Tryz.underlying30⟩ ti30 rfl (hX (by repeat constructor)) rfl) (dd rfl) ?_
      refine o_on rfl rfl ?_
      refine o_step (s_callf_keep cl21 (hR g5 g6) rfl (dd rfl) (rX (by repeat constructor)) (fun _ => sX) (fun _ _ => ?_))
      refine o_on rfl rfl ?_
      refine o_val (v_not rfl) (dd rfl) ?_
      refine o_val (v_pick_f rfl rfl) (dd rfl) ?_
      refine o_nil ?_
      exact c_use J ⟨Env.as rfl (congrArg Value.bool (by first | rfl | (simp_all; done) | (simp_all; omega) | (simp; omega))), (by repeat (first | exact trivial | refine ⟨rfl, ?_⟩))⟩ (by first | exact Ent.refl _ | exact eX (by repeat constructor))
    · refine o_off rfl rfl rfl (dd rfl) ?_
      refine o_off rfl rfl rfl (dd rfl) ?_
      refine o_off rfl rfl rfl (dd rfl) ?_
      refine o_val (v_pick_t rfl rfl) (dd rfl) ?_
      refine o_nil ?_
      exact c_use J ⟨Env.as rfl (congrArg Value.bool (by first | rfl | (simp_all; done) | (simp_all; omega) | (simp; omega))), (by repeat (first | exact trivial | refine ⟨rfl, ?_⟩))⟩ (by first | exact Ent.refl _ | exact eX (by repeat constructor))
  refine c_cond_p rfl (fun hq => ?_) (fun hq => ?_)
  · rw [if_pos hq]
    refine c_seq ?_
    refine c_region ?_
    refine o_val (v_load_all ⟨_, Tryz.underlying48⟩ ti48 rfl (hX (by repeat constructor)) rfl) (dd rfl) ?_
    refine o_step (s_callf cl92 (hS) rfl (dd rfl) (pXs (by repeat constructor)) fun _ _ => ?_)
    refine o_val (v_buildS (places := [(0, 1), (1, 1), (2, 1), (3, 1), (4, 1), (5, 1)]) (cells := [.int .i64 0, .string ⟨#[]⟩, .string ⟨#[]⟩, .int .i64 0, .slice none 0 0, .slice none 0 0]) Tryz.underlying30 ti30 (by kernel_rfl) rfl (by repeat (first | exact PartsC.nil | (apply PartsC.one (by first | exact OneC.lit rfl | exact OneC.sl (hX (by repeat constructor)) )) | (apply PartsC.lit rfl))) rfl) (dd rfl) ?_
    refine o_step (s_store_all ti48 rfl rfl (by first | exact CellsV.lit rfl | exact CellsV.one (by first | exact OneC.lit rfl | exact OneC.sl (hX (by repeat constructor)) )) (by repeat (first | exact OneAll.nil | (refine OneAll.cons ?_ ?_; · first | exact OneC.lit rfl | exact OneC.sl (hX (by repeat constructor)) ) | exact OneAll.rd (hX (by repeat constructor)))) rfl (pB (by repeat constructor)) rfl (?_))
    refine o_step (s_store_all ti30 rfl rfl (by first | exact CellsV.lit rfl | exact CellsV.one (by first | exact OneC.lit rfl | exact OneC.sl (hX (by repeat constructor)) )) (by repeat (first | exact OneAll.nil | (refine OneAll.cons ?_ ?_; · first | exact OneC.lit rfl | exact OneC.sl (hX (by repeat constructor)) ) | exact OneAll.rd (hX (by repeat constructor)))) rfl (pB (by repeat constructor)) rfl (?_))
    refine o_nil ?_
    refine c_ret_cc Tryz.func63 rfl ⟨_, Tryz.underlying48⟩ ti48 ⟨_, Tryz.underlying30⟩ ti30 rfl rfl (hX (by repeat constructor)) (hX (by repeat constructor)) fun w O hS => ?_
    exact ⟨(.slice none 0 0, .slice none 0 0), rfl, trivial, Ent.get hS (eX (by repeat constructor))⟩
  · rw [if_neg hq]
    refine c_skip ?_
    refine c_seq ?_
    refine c_held [BlkR b5 48 [.string B, .int .i64 (plc B s6), .bool s6.2], BlkR b4 30 [.int .i64 k, .string n, .string t, .int .i64 a, g5, g6]] rfl ?_
    refine a_take 0 rfl (by kernel_rfl) (by kernel_rfl) (by kernel_rfl) (v_load_all ⟨_, Tryz.underlying48⟩ ti48 rfl (hX (by repeat constructor)) rfl) (eX (by repeat constructor)) (dd rfl) ?_
    refine a_take 1 rfl (by kernel_rfl) (by kernel_rfl) (by kernel_rfl) (v_load_all ⟨_, Tryz.underlying30⟩ ti30 rfl (hX (by repeat constructor)) rfl) (eX (by repeat constructor)) (dd rfl) ?_
    refine a_one 2 rfl (by kernel_rfl) (s_store_all ti48 rfl rfl (by first | exact CellsV.lit rfl | exact CellsV.one (by first | exact OneC.lit rfl | exact OneC.sl (hX (by repeat constructor)) )) (by repeat (first | exact OneAll.nil | (refine OneAll.cons ?_ ?_; · first | exact OneC.lit rfl | exact OneC.sl (hX (by repeat constructor)) ) | exact OneAll.rd (hX (by repeat constructor)))) rfl (pB (by repeat constructor)) rfl (a_on (eX (by repeat constructor)) ?_))
    refine a_one 3 rfl (by kernel_rfl) (s_store_all ti30 rfl rfl (by first | exact CellsV.lit rfl | exact CellsV.one (by first | exact OneC.lit rfl | exact OneC.sl (hX (by repeat constructor)) )) (by repeat (first | exact OneAll.nil | (refine OneAll.cons ?_ ?_; · first | exact OneC.lit rfl | exact OneC.sl (hX (by repeat constructor)) ) | exact OneAll.rd (hX (by repeat constructor)))) rfl (pB (by repeat constructor)) rfl (a_on (eX (by repeat constructor)) ?_))
    refine a_done (by kernel_rfl) ?_ _
    refine c_ret_cc Tryz.func63 rfl ⟨_, Tryz.underlying48⟩ ti48 ⟨_, Tryz.underlying30⟩ ti30 rfl rfl (hX (by repeat constructor)) (hX (by repeat constructor)) fun w O hS => ?_
    exact ⟨(g5, g6), rfl, trivial, Ent.get hS (eX (by repeat constructor))⟩
end Go.Proofs.YtmgkeippepeggaaGreatDoor
/- Chapter 09: the document's readers: rows of changes, and patches. -/
namespace Go.Proofs.YtmgkeippepeggaaGreatDoor
open Go Go.SL Go.Lib
theorem pr_close {z : Pr9} {ov wv : Value} (w : World) (O : Perm) (h : Stars [Sl eStr ov z.2.2.2.2.1, Sl eStr wv z.2.2.2.2.2] w O) : ePr.rd w O [.int .i64 z.1, .string z.2.1, .string z.2.2.1, .int .i64 z.2.2.2.1, ov, wv] z := by
  obtain ⟨O1, O2, s1, h1, O3, O4, s2, h2, _⟩ := h
  refine ⟨[.int .i64 z.1], _, rfl, rfl, [.string z.2.1], _, rfl, rfl, [.string z.2.2.1], _, rfl, rfl, [.int .i64 z.2.2.2.1], _, rfl, rfl, [ov], [wv], rfl, ⟨ov, rfl, h1.mono fun b => s1.l b⟩, wv, rfl, h2.mono fun b => Nat.le_trans (s2.l b) (s1.r b)⟩
theorem less_prim : ∀ s s' x, takePrim s = (s', x) → s'.2 = false → s'.1.length < s.1.length := fun _ _ _ e hb => takePrim_less e hb
attribute [local irreducible] Cfg Kont StepK Val Con Qops Any Sl Own Blk BlkR Rd Pu ExA AllA Has Pick Ent Elem Beside Callable TI Lone OwnO AndA
set_option maxRecDepth 100000 in
theorem takePrimsRef_con (B : ByteArray) (s : St9) (most : Int) (hB : B.size ≤ big9) (h : EndsB B s) : Con Tryz.prog 64 [inS B s, .int .i64 most] [] (γ := Value)
    (fun g => .tuple #[inS B (takePrims most s).1, g]) (fun _ => True) (fun g => [Sl ePr g (takePrims most s).2]) := by
  have hB' : B.size ≤ 4611686018427387904 := by unfold big9 at hB; omega
  have hgn := h.goes goes_num
  have hfar := num_far (s := s)
  have hN := takeNumRef_con B s hB' h
  have hS := spoilRef_con B s
  obtain ⟨n, hn⟩ : ∃ n, n = (takeNum s).2 := ⟨_, rfl⟩
  obtain ⟨s1, hs1⟩ : ∃ s1, s1 = (takeNum s).1 := ⟨_, rfl⟩
  rw [← hn, ← hs1] at hN
  rw [← hn] at hfar
  rw [← hs1] at hgn
  unfold far9 at hfar
  unfold takePrims takeSome
  rw [← hn, ← hs1]
  unfold inS inV at *
  refine con_of Tryz.func64 rfl (dd rfl) fun w0 O0 => ?_
  refine c_seq ?_
  refine c_region ?_
  refine o_step (s_box rfl (dd rfl) (fun b2 => ?_))
  refine o_step (s_alloc ti48 (dd rfl) (fun b4 => ?_))
  refine o_val (v_assign rfl) (dd rfl) ?_
  refine o_nil ?_
  refine c_seq ?_
  refine c_region ?_
  refine o_val (v_load_all ⟨_, Tryz.underlying48⟩ ti48 rfl (hX (by repeat constructor)) rfl) (dd rfl) ?_
  refine o_step (s_callf cl59 (hN) rfl (dd rfl) (pXs (by repeat constructor)) fun _ _ => ?_)
  refine o_val (v_move rfl) (dd rfl) ?_
  refine o_val (v_extract rfl rfl) (dd rfl) ?_
  refine o_val (v_extract rfl rfl) (dd rfl) ?_
  refine o_step (s_alloc ti48 (dd rfl) (fun b6 => ?_))
  refine o_step (s_store_all ti48 rfl rfl (by first | exact CellsV.lit rfl | exact CellsV.one (by first | exact OneC.lit rfl | exact OneC.sl (hX (by repeat constructor)) )) (by repeat (first | exact OneAll.nil | (refine OneAll.cons ?_ ?_; · first | exact OneC.lit rfl | exact OneC.sl (hX (by repeat constructor)) ) | exact OneAll.rd (hX (by repeat constructor)))) rfl (pB (by repeat constructor)) rfl (?_))
  refine o_val (v_assign rfl) (dd rfl) ?_
  refine o_nil ?_
  refine c_seq ?_
  refine c_seq ?_
  refine c_env (env' := [(1, _), (2, _), (4, _), (5, _), (6, _), (7, _)]) (by repeat (first | exact trivial | refine ⟨rfl, ?_⟩)) ?_
  refine c_joinb (d := 27) (decide (s1.2 = true ∨ n < 0 ∨ most < n)) ?_ ?_
  rotate_left
  · intro J
    refine c_region ?_
    refine o_val (v_fieldAddrC 2 Tryz.underlying48 rfl ti4 (by decide) rfl) (dd rfl) ?_
    refine o_val (v_load lone4 rfl (hX (by repeat constructor)) rfl) (dd rfl) ?_
    refine o_val (v_move rfl) (dd rfl) ?_
    first | refine o_guard_f rfl rfl (fun g19 => ?_) (fun g19 => ?_) | refine o_guard rfl rfl (fun g19 => ?_) (fun g19 => ?_)
    · refine o_val (v_move rfl) (dd rfl) ?_
      refine o_on rfl rfl ?_
      refine o_val (v_lt rfl rfl) (dd rfl) ?_
      refine o_val (v_pick_f rfl rfl) (dd rfl) ?_
      refine o_val (v_move rfl) (dd rfl) ?_
      first | refine o_guard_f rfl rfl (fun g23 => ?_) (fun g23 => ?_) | refine o_guard rfl rfl (fun g23 => ?_) (fun g23 => ?_)
      · refine o_val (v_move rfl) (dd rfl) ?_
        refine o_on rfl rfl ?_
        refine o_val (v_move rfl) (dd rfl) ?_
        refine o_on rfl rfl ?_
        refine o_val (v_gt rfl rfl) (dd rfl) ?_
        refine o_val (v_pick_f rfl rfl) (dd rfl) ?_
        refine o_nil ?_
        exact c_use J ⟨Env.as rfl (congrArg Value.bool (by first | rfl | (simp_all; done) | (simp_all; omega) | (simp; omega))), (by repeat (first | exact trivial | refine ⟨rfl, ?_⟩))⟩ (by first | exact Ent.refl _ | exact eX (by repeat constructor))
      · refine o_off rfl rfl rfl (dd rfl) ?_
        refine o_off rfl rfl rfl (dd rfl) ?_
        refine o_off rfl rfl rfl (dd rfl) ?_
        refine o_val (v_pick_t rfl rfl) (dd rfl) ?_
        refine o_nil ?_
        exact c_use J ⟨Env.as rfl (congrArg Value.bool (by first | rfl | (simp_all; done) | (simp_all; omega) | (simp; omega))), (by repeat (first | exact trivial | refine ⟨rfl, ?_⟩))⟩ (by first | exact Ent.refl _ | exact eX (by repeat constructor))
    · refine o_off rfl rfl rfl (dd rfl) ?_
      refine o_off rfl rfl rfl (dd rfl) ?_
      refine o_val (v_pick_t rfl rfl) (dd rfl) ?_
      refine o_val (v_move rfl) (dd rfl) ?_
      refine o_off rfl rfl rfl (dd rfl) ?_
      refine o_off rfl rfl rfl (dd rfl) ?_
      refine o_off rfl rfl rfl (dd rfl) ?_
      refine o_val (v_pick_t rfl rfl) (dd rfl) ?_
      refine o_nil ?_
      exact c_use J ⟨Env.as rfl (congrArg Value.bool (by first | rfl | (simp_all; done) | (simp_all; omega) | (simp; omega))), (by repeat (first | exact trivial | refine ⟨rfl, ?_⟩))⟩ (by first | exact Ent.refl _ | exact eX (by repeat constructor))
  refine c_cond_p rfl (fun hq => ?_) (fun hq => ?_)
  · rw [if_pos hq]
    refine c_seq ?_
    refine c_region ?_
    refine o_val (v_load_all ⟨_, Tryz.underlying48⟩ ti48 rfl (hX (by repeat constructor)) rfl) (dd rfl) ?_
    refine o_step (s_callf cl92 (hS) rfl (dd rfl) (pXs (by repeat constructor)) fun _ _ => ?_)
    refine o_step (s_store_all ti48 rfl rfl (by first | exact CellsV.lit rfl | exact CellsV.one (by first | exact OneC.lit rfl | exact OneC.sl (hX (by repeat constructor)) )) (by repeat (first | exact OneAll.nil | (refine OneAll.cons ?_ ?_; · first | exact OneC.lit rfl | exact OneC.sl (hX (by repeat constructor)) ) | exact OneAll.rd (hX (by repeat constructor)))) rfl (pB (by repeat constructor)) rfl (?_))
    refine o_val (v_assign rfl) (dd rfl) ?_
    refine o_nil ?_
    refine c_ret_ct Tryz.func64 rfl ⟨_, Tryz.underlying48⟩ ti48 rfl rfl (hX (by repeat constructor)) fun w O hS => ?_
    exact ⟨.slice none 0 0, rfl, trivial, Ent.get hS (eX (by repeat constructor))⟩
  · rw [if_neg hq]
    have hb1 : s1.2 = false := by cases e : s1.2 with | false => rfl | true => exact absurd (.inl e) hq
    refine c_skip ?_
    refine c_seq ?_
    refine c_region ?_
    refine o_val (v_assign rfl) (dd rfl) ?_
    refine o_nil ?_
    refine c_seq ?_
    refine c_seq ?_
    refine c_region ?_
    refine o_val (v_assign rfl) (dd rfl) ?_
    refine o_nil ?_
    refine c_block ?_
    refine c_loopR (γ := Nat × St9 × List Pr9 × Value) [(2, _), (4, _), (5, _), (6, _), (7, _)] (fun g => n.toNat - g.1) (fun g => g.1 ≤ n.toNat ∧ g.2.1.2 = false ∧ EndsB B g.2.1 ∧ g.2.2.1.length = g.1 ∧ takeMany takePrim (n.toNat - g.1) g.2.1 g.2.2.1 = takeMany takePrim n.toNat s1 []) (fun g => [(9, .int .i64 g.1), (8, g.2.2.2)]) (fun g => [Blk b2 48 [.string B, .int .i64 (plc B s), .bool s.2], Blk b4 48 [.string ⟨#[]⟩, .int .i64 0, .bool false], Blk b6 48 [.string B, .int .i64 (plc B g.2.1), .bool g.2.1.2], Own ePr 30 g.2.2.2 g.2.2.1]) ((0, s1, [], .slice none 0 0)) (⟨Nat.zero_le _, hb1, hgn, rfl, rfl⟩) (by repeat (first | exact trivial | refine ⟨rfl, ?_⟩)) (eX (by repeat constructor)) ?_
    rintro ⟨k, sk, out, v⟩ ⟨hk, hbk, hEk, hlk, hTk⟩ IH
    dsimp only at hk hbk hEk hlk hTk ⊢
    have hTT := takePrimRef_con B sk hB hEk
    unfold inS inV at hTT
    try dsimp only [List.cons_append, List.nil_append]
    refine c_seq ?_
    refine c_seq ?_
    refine c_region ?_
    refine o_val (v_move rfl) (dd rfl) ?_
    refine o_val (v_move rfl) (dd rfl) ?_
    refine o_val (v_lt rfl rfl) (dd rfl) ?_
    refine o_nil ?_
    refine c_cond_p rfl (fun hlt => ?_) (fun hlt => ?_)
    · have hkn : k < n.toNat := by omega
      have hst := takeMany_step takePrim (out := out) hkn hbk
      refine c_skip ?_
      refine c_seq ?_
      refine c_block ?_
      refine c_seq ?_
      refine c_region ?_
      refine o_val (v_load_all ⟨_, Tryz.underlying48⟩ ti48 rfl (hX (by repeat constructor)) rfl) (dd rfl) ?_
      refine o_step (s_callf cl63 (hTT) rfl (dd rfl) (pXs (by repeat constructor)) fun g _ => ?_)
      refine o_val (v_move rfl) (dd rfl) ?_
      refine o_val (v_extract rfl rfl) (dd rfl) ?_
      refine o_val (v_extract rfl rfl) (dd rfl) ?_
      refine o_step (s_alloc ti48 (dd rfl) (fun b10 => ?_))
      refine o_step (s_alloc ti30 (dd rfl) (fun b11 => ?_))
      refine o_step (s_store_all ti48 rfl rfl (by first | exact CellsV.lit rfl | exact CellsV.one (by first | exact OneC.lit rfl | exact OneC.sl (hX (by repeat constructor)) )) (by repeat (first | exact OneAll.nil | (refine OneAll.cons ?_ ?_; · first | exact OneC.lit rfl | exact OneC.sl (hX (by repeat constructor)) ) | exact OneAll.rd (hX (by repeat constructor)))) rfl (pB (by repeat constructor)) rfl (?_))
      refine o_step (s_store_all ti30 rfl rfl (by first | exact CellsV.lit rfl | exact CellsV.one (by first | exact OneC.lit rfl | exact OneC.sl (hX (by repeat constructor)) )) (by repeat (first | exact OneAll.nil | (refine OneAll.cons ?_ ?_; · first | exact OneC.lit rfl | exact OneC.sl (hX (by repeat constructor)) ) | exact OneAll.rd (hX (by repeat constructor)))) rfl (pB (by repeat constructor)) rfl (?_))
      refine o_nil ?_
      refine c_seq ?_
      refine c_seq ?_
      refine c_region ?_
      refine o_val (v_fieldAddrC 2 Tryz.underlying48 rfl ti4 (by decide) rfl) (dd rfl) ?_
      refine o_val (v_load lone4 rfl (hX (by repeat constructor)) rfl) (dd rfl) ?_
      refine o_nil ?_
      refine c_cond rfl (fun hb => ?_) (fun hb => ?_)
      · have hbad := takeMany_bad takePrim (n.toNat - (k + 1)) (takePrim sk).1 (out ++ [(takePrim sk).2]) hb
        refine c_seq ?_
        refine c_region ?_
        refine o_val (v_load_all ⟨_, Tryz.underlying48⟩ ti48 rfl (hX (by repeat constructor)) rfl) (dd rfl) ?_
        refine o_step (s_callf cl92 (hS) rfl (dd rfl) (pXs (by repeat constructor)) fun _ _ => ?_)
        refine o_step (s_store_all ti48 rfl rfl (by first | exact CellsV.lit rfl | exact CellsV.one (by first | exact OneC.lit rfl | exact OneC.sl (hX (by repeat constructor)) )) (by repeat (first | exact OneAll.nil | (refine OneAll.cons ?_ ?_; · first | exact OneC.lit rfl | exact OneC.sl (hX (by repeat constructor)) ) | exact OneAll.rd (hX (by repeat constructor)))) rfl (pB (by repeat constructor)) rfl (?_))
        refine o_val (v_assign rfl) (dd rfl) ?_
        refine o_nil ?_
        refine c_ret_ct Tryz.func64 rfl ⟨_, Tryz.underlying48⟩ ti48 rfl rfl (hX (by repeat constructor)) fun w O hS => ?_
        exact ⟨.slice none 0 0, by rw [← hTk, hst, hbad, if_pos hb]; rfl, trivial, by rw [← hTk, hst, hbad, if_pos hb]; exact Ent.get hS (eX (by repeat constructor))⟩
      · refine c_skip ?_
        refine c_seq ?_
        refine c_region ?_
        refine o_val (v_load_all ⟨_, Tryz.underlying48⟩ ti48 rfl (hX (by repeat constructor)) rfl) (dd rfl) ?_
        refine o_step (s_store_all ti48 rfl rfl (by first | exact CellsV.lit rfl | exact CellsV.one (by first | exact OneC.lit rfl | exact OneC.sl (hX (by repeat constructor)) )) (by repeat (first | exact OneAll.nil | (refine OneAll.cons ?_ ?_; · first | exact OneC.lit rfl | exact OneC.sl (hX (by repeat constructor)) ) | exact OneAll.rd (hX (by repeat constructor)))) rfl (pB (by repeat constructor)) rfl (?_))
        refine o_nil ?_
        refine c_region ?_
        refine o_val (v_move rfl) (dd rfl) ?_
        refine o_val (v_load_all ⟨_, Tryz.underlying30⟩ ti30 rfl (hX (by repeat constructor)) rfl) (dd rfl) ?_
        refine o_step (s_buildSlice Tryz.underlying31 ti30 rfl rfl rfl (by decide) (by decide) (beside_agg1 (beside_of (Lp := [Sl eStr g.1 (takePrim sk).2.2.2.2.2.1, Sl eStr g.2 (takePrim sk).2.2.2.2.2.2]) (pXs (by repeat constructor)) fun w O => pr_close (z := (takePrim sk).2) w O)) rfl rfl (dd rfl) fun v1 => ?_)
        refine o_step (s_append Tryz.underlying31 ti30 rfl (by decide) rfl rfl (dd rfl) (pB (by repeat constructor)) (pX (by repeat constructor)) rfl (by (first | omega | (simp only [maxLen, List.length_append, List.length_drop, List.length_take, List.length_nil, List.length_cons]; omega))) (by (first | omega | (simp only [maxLen, List.length_append, List.length_drop, List.length_take, List.length_nil, List.length_cons]; omega))) fun v2 => ?_)
        refine o_val (v_assign rfl) (dd rfl) ?_
        refine o_nil ?_
        refine c_inBlock ?_
        refine c_region ?_
        refine o_val (v_move rfl) (dd rfl) ?_
        refine o_val ((by first | exact v_add64 rfl rfl (by omega) | exact v_add rfl rfl)) (dd rfl) ?_
        refine o_val (v_assign rfl) (dd rfl) ?_
        refine o_nil ?_
        refine c_use (IH ((k + 1, (takePrim sk).1, out ++ [(takePrim sk).2], v2)) (by first | omega | (dsimp only; omega)) (⟨by dsimp only; omega, hb, hEk.goes goes_prim, by simp [hlk], hst.symm.trans hTk⟩)) (by repeat (first | exact trivial | refine ⟨rfl, ?_⟩)) (eX (by repeat constructor))
    · have hend := takeMany_end takePrim (n := n.toNat) (k := k) (s := sk) (out := out) (by omega)
      refine c_exit rfl ?_
      refine c_seq ?_
      refine c_region ?_
      refine o_val (v_load_all ⟨_, Tryz.underlying48⟩ ti48 rfl (hX (by repeat constructor)) rfl) (dd rfl) ?_
      refine o_val (v_move rfl) (dd rfl) ?_
      refine o_step (s_store_all ti48 rfl rfl (by first | exact CellsV.lit rfl | exact CellsV.one (by first | exact OneC.lit rfl | exact OneC.sl (hX (by repeat constructor)) )) (by repeat (first | exact OneAll.nil | (refine OneAll.cons ?_ ?_; · first | exact OneC.lit rfl | exact OneC.sl (hX (by repeat constructor)) ) | exact OneAll.rd (hX (by repeat constructor)))) rfl (pB (by repeat constructor)) rfl (?_))
      refine o_val (v_assign rfl) (dd rfl) ?_
      refine o_nil ?_
      refine c_ret_ct Tryz.func64 rfl ⟨_, Tryz.underlying48⟩ ti48 rfl rfl (hX (by repeat constructor)) fun w O hS => ?_
      exact ⟨v, by rw [← hTk, hend, if_neg (by rw [hbk]; decide)]; rfl, trivial, by rw [← hTk, hend, if_neg (by rw [hbk]; decide)]; exact Ent.get hS (eX (by repeat constructor))⟩
end Go.Proofs.YtmgkeippepeggaaGreatDoor
/- Chapter 09: which changes and patches are the same. -/
namespace Go.Proofs.YtmgkeippepeggaaGreatDoor
open Go Go.SL Go.Lib
instance decPr9 : DecidableEq Pr9 := fun a b => inferInstanceAs (Decidable (a = b))
attribute [local irreducible] Cfg Kont StepK Val Con Qops Any Sl Own Blk BlkR Rd Pu ExA AllA Has Pick Ent Elem Beside Callable TI Lone OwnO AndA
set_option maxRecDepth 100000 in
theorem samePr_con (p q : Pr9) (ov wv ov' wv' : Value) (hp : p.2.2.2.2.1.length ≤ 1000000 ∧ p.2.2.2.2.2.length ≤ 1000000) (hq : q.2.2.2.2.1.length ≤ 1000000 ∧ q.2.2.2.2.2.length ≤ 1000000) : Con Tryz.prog 39 [.agg #[.int .i64 p.1, .string p.2.1, .string p.2.2.1, .int .i64 p.2.2.2.1, ov, wv], .agg #[.int .i64 q.1, .string q.2.1, .string q.2.2.1, .int .i64 q.2.2.2.1, ov', wv']] [Sl eStr ov p.2.2.2.2.1, Sl eStr wv p.2.2.2.2.2, Sl eStr ov' q.2.2.2.2.1, Sl eStr wv' q.2.2.2.2.2] (γ := Unit) (fun _ => .bool (decide (p = q))) (fun _ => True) (fun _ => []) := by
  obtain ⟨k, n, t, a, o, z⟩ := p
  obtain ⟨k', n', t', a', o', z'⟩ := q
  obtain ⟨hp1, hp2⟩ := hp
  obtain ⟨hq1, hq2⟩ := hq
  dsimp only at hp1 hp2 hq1 hq2 ⊢
  have h1 := same_con ov ov' o o' hp1 hq1
  have h2 := same_con wv wv' z z' hp2 hq2
  refine con_of Tryz.func39 rfl (dd rfl) fun w0 O0 => ?_
  refine c_seq ?_
  refine c_region ?_
  refine o_step (s_box rfl (dd rfl) (fun b2 => ?_))
  refine o_step (s_box rfl (dd rfl) (fun b3 => ?_))
  refine o_val (v_assign rfl) (dd rfl) ?_
  refine o_nil ?_
  refine c_seq ?_
  refine c_region ?_
  refine o_val (v_fieldAddrC 0 Tryz.underlying58 rfl ti3 (by decide) rfl) (dd rfl) ?_
  refine o_val (v_load lone3 rfl (hX (by repeat constructor)) rfl) (dd rfl) ?_
  refine o_val (v_fieldAddrC 0 Tryz.underlying58 rfl ti3 (by decide) rfl) (dd rfl) ?_
  refine o_val (v_load lone3 rfl (hX (by repeat constructor)) rfl) (dd rfl) ?_
  refine o_val (v_eq rfl rfl) (dd rfl) ?_
  refine o_val (v_move rfl) (dd rfl) ?_
  refine o_guard_t rfl rfl (fun g1 => ?_) (fun g1 => ?_)
  · refine o_val (v_fieldAddrC 1 Tryz.underlying58 rfl ti9 (by decide) rfl) (dd rfl) ?_
    refine o_on rfl rfl ?_
    refine o_val (v_load lone9 rfl (hX (by repeat constructor)) rfl) (dd rfl) ?_
    refine o_on rfl rfl ?_
    refine o_val (v_fieldAddrC 1 Tryz.underlying58 rfl ti9 (by decide) rfl) (dd rfl) ?_
    refine o_on rfl rfl ?_
    refine o_val (v_load lone9 rfl (hX (by repeat constructor)) rfl) (dd rfl) ?_
    refine o_on rfl rfl ?_
    refine o_val (v_seq rfl rfl) (dd rfl) ?_
    refine o_val (v_pick_t rfl rfl) (dd rfl) ?_
    refine o_val (v_move rfl) (dd rfl) ?_
    refine o_guard_t rfl rfl (fun g2 => ?_) (fun g2 => ?_)
    · refine o_val (v_fieldAddrC 2 Tryz.underlying58 rfl ti9 (by decide) rfl) (dd rfl) ?_
      refine o_on rfl rfl ?_
      refine o_val (v_load lone9 rfl (hX (by repeat constructor)) rfl) (dd rfl) ?_
      refine o_on rfl rfl ?_
      refine o_val (v_fieldAddrC 2 Tryz.underlying58 rfl ti9 (by decide) rfl) (dd rfl) ?_
      refine o_on rfl rfl ?_
      refine o_val (v_load lone9 rfl (hX (by repeat constructor)) rfl) (dd rfl) ?_
      refine o_on rfl rfl ?_
      refine o_val (v_seq rfl rfl) (dd rfl) ?_
      refine o_val (v_pick_t rfl rfl) (dd rfl) ?_
      refine o_val (v_move rfl) (dd rfl) ?_
      refine o_guard_t rfl rfl (fun g3 => ?_) (fun g3 => ?_)
      · refine o_val (v_fieldAddrC 3 Tryz.underlying58 rfl ti3 (by decide) rfl) (dd rfl) ?_
        refine o_on rfl rfl ?_
        refine o_val (v_load lone3 rfl (hX (by repeat constructor)) rfl) (dd rfl) ?_
        refine o_on rfl rfl ?_
        refine o_val (v_fieldAddrC 3 Tryz.underlying58 rfl ti3 (by decide) rfl) (dd rfl) ?_
        refine o_on rfl rfl ?_
        refine o_val (v_load lone3 rfl (hX (by repeat constructor)) rfl) (dd rfl) ?_
        refine o_on rfl rfl ?_
        refine o_val (v_eq rfl rfl) (dd rfl) ?_
        refine o_val (v_pick_t rfl rfl) (dd rfl) ?_
        refine o_val (v_move rfl) (dd rfl) ?_
        refine o_guard_t rfl rfl (fun g4 => ?_) (fun g4 => ?_)
        · refine o_val (v_fieldAddrC 4 Tryz.underlying58 rfl ti28 (by decide) rfl) (dd rfl) ?_
          refine o_on rfl rfl ?_
          refine o_val (v_load lone28 rfl (hX (by repeat constructor)) rfl) (dd rfl) ?_
          refine o_on rfl rfl ?_
          refine o_val (v_fieldAddrC 4 Tryz.underlying58 rfl ti28 (by decide) rfl) (dd rfl) ?_
          refine o_on rfl rfl ?_
          refine o_val (v_load lone28 rfl (hX (by repeat constructor)) rfl) (dd rfl) ?_
          refine o_on rfl rfl ?_
          refine o_step (s_callf_keep cl81 (h1) rfl (dd rfl) (rX (by repeat constructor)) (fun _ => sX) (fun _ _ => ?_))
          refine o_val (v_pick_t rfl rfl) (dd rfl) ?_
          refine o_val (v_move rfl) (dd rfl) ?_
          refine o_guard rfl rfl (fun g5 => ?_) (fun g5 => ?_)
          · have g5' : o = o' := of_decide_eq_true g5
            refine o_val (v_fieldAddrC 5 Tryz.underlying58 rfl ti28 (by decide) rfl) (dd rfl) ?_
            refine o_on rfl rfl ?_
            refine o_val (v_load lone28 rfl (hX (by repeat constructor)) rfl) (dd rfl) ?_
            refine o_on rfl rfl ?_
            refine o_val (v_fieldAddrC 5 Tryz.underlying58 rfl ti28 (by decide) rfl) (dd rfl) ?_
            refine o_on rfl rfl ?_
            refine o_val (v_load lone28 rfl (hX (by repeat constructor)) rfl) (dd rfl) ?_
            refine o_on rfl rfl ?_
            refine o_step (s_callf_keep cl81 (h2) rfl (dd rfl) (rX (by repeat constructor)) (fun _ => sX) (fun _ _ => ?_))
            refine o_val (v_pick_t rfl rfl) (dd rfl) ?_
            refine o_val (v_assign rfl) (dd rfl) ?_
            refine o_nil ?_
            refine c_ret1 Tryz.func39 rfl rfl fun w O hS => ?_
            subst g1; subst g2; subst g3; subst g4; subst g5'
            exact ⟨(), congrArg Value.bool (decide_eq_decide.2 ⟨fun h => by rw [h], fun h => by injection h with _ h; injection h with _ h; injection h with _ h; injection h with _ h; injection h with _ h⟩), trivial, trivial⟩
          · have g5' : ¬ o = o' := of_decide_eq_false g5
            refine o_off rfl rfl rfl (dd rfl) ?_
            refine o_off rfl rfl rfl (dd rfl) ?_
            refine o_off rfl rfl rfl (dd rfl) ?_
            refine o_off rfl rfl rfl (dd rfl) ?_
            refine o_off rfl rfl rfl (dd rfl) ?_
            refine o_val (v_pick_f rfl rfl) (dd rfl) ?_
            refine o_val (v_assign rfl) (dd rfl) ?_
            refine o_nil ?_
            refine c_ret1 Tryz.func39 rfl rfl fun w O hS => ?_
            refine ⟨(), ?_, trivial, trivial⟩
            rw [decide_eq_false]
            intro q
            injection q
            simp_all
        · skip
          refine o_off rfl rfl rfl (dd rfl) ?_
          refine o_off rfl rfl rfl (dd rfl) ?_
          refine o_off rfl rfl rfl (dd rfl) ?_
          refine o_off rfl rfl rfl (dd rfl) ?_
          refine o_off rfl rfl rfl (dd rfl) ?_
          refine o_val (v_pick_f rfl rfl) (dd rfl) ?_
          refine o_val (v_move rfl) (dd rfl) ?_
          refine o_off rfl rfl rfl (dd rfl) ?_
          refine o_off rfl rfl rfl (dd rfl) ?_
          refine o_off rfl rfl rfl (dd rfl) ?_
          refine o_off rfl rfl rfl (dd rfl) ?_
          refine o_off rfl rfl rfl (dd rfl) ?_
          refine o_val (v_pick_f rfl rfl) (dd rfl) ?_
          refine o_val (v_assign rfl) (dd rfl) ?_
          refine o_nil ?_
          refine c_ret1 Tryz.func39 rfl rfl fun w O hS => ?_
          refine ⟨(), ?_, trivial, trivial⟩
          rw [decide_eq_false]
          intro q
          injection q
          simp_all
      · skip
        refine o_off rfl rfl rfl (dd rfl) ?_
        refine o_off rfl rfl rfl (dd rfl) ?_
        refine o_off rfl rfl rfl (dd rfl) ?_
        refine o_off rfl rfl rfl (dd rfl) ?_
        refine o_off rfl rfl rfl (dd rfl) ?_
        refine o_val (v_pick_f rfl rfl) (dd rfl) ?_
        refine o_val (v_move rfl) (dd rfl) ?_
        refine o_off rfl rfl rfl (dd rfl) ?_
        refine o_off rfl rfl rfl (dd rfl) ?_
        refine o_off rfl rfl rfl (dd rfl) ?_
        refine o_off rfl rfl rfl (dd rfl) ?_
        refine o_off rfl rfl rfl (dd rfl) ?_
        refine o_val (v_pick_f rfl rfl) (dd rfl) ?_
        refine o_val (v_move rfl) (dd rfl) ?_
        refine o_off rfl rfl rfl (dd rfl) ?_
        refine o_off rfl rfl rfl (dd rfl) ?_
        refine o_off rfl rfl rfl (dd rfl) ?_
        refine o_off rfl rfl rfl (dd rfl) ?_
        refine o_off rfl rfl rfl (dd rfl) ?_
        refine o_val (v_pick_f rfl rfl) (dd rfl) ?_
        refine o_val (v_assign rfl) (dd rfl) ?_
        refine o_nil ?_
        refine c_ret1 Tryz.func39 rfl rfl fun w O hS => ?_
        refine ⟨(), ?_, trivial, trivial⟩
        rw [decide_eq_false]
        intro q
        injection q
        simp_all
    · skip
      refine o_off rfl rfl rfl (dd rfl) ?_
      refine o_off rfl rfl rfl (dd rfl) ?_
      refine o_off rfl rfl rfl (dd rfl) ?_
      refine o_off rfl rfl rfl (dd rfl) ?_
      refine o_off rfl rfl rfl (dd rfl) ?_
      refine o_val (v_pick_f rfl rfl) (dd rfl) ?_
      refine o_val (v_move rfl) (dd rfl) ?_
      refine o_off rfl rfl rfl (dd rfl) ?_
      refine o_off rfl rfl rfl (dd rfl) ?_
      refine o_off rfl rfl rfl (dd rfl) ?_
      refine o_off rfl rfl rfl (dd rfl) ?_
      refine o_off rfl rfl rfl (dd rfl) ?_
      refine o_val (v_pick_f rfl rfl) (dd rfl) ?_
      refine o_val (v_move rfl) (dd rfl) ?_
      refine o_off rfl rfl rfl (dd rfl) ?_
      refine o_off rfl rfl rfl (dd rfl) ?_
      refine o_off rfl rfl rfl (dd rfl) ?_
      refine o_off rfl rfl rfl (dd rfl) ?_
      refine o_off rfl rfl rfl (dd rfl) ?_
      refine o_val (v_pick_f rfl rfl) (dd rfl) ?_
      refine o_val (v_move rfl) (dd rfl) ?_
      refine o_off rfl rfl rfl (dd rfl) ?_
      refine o_off rfl rfl rfl (dd rfl) ?_
      refine o_off rfl rfl rfl (dd rfl) ?_
      refine o_off rfl rfl rfl (dd rfl) ?_
      refine o_off rfl rfl rfl (dd rfl) ?_
      refine o_val (v_pick_f rfl rfl) (dd rfl) ?_
      refine o_val (v_assign rfl) (dd rfl) ?_
      refine o_nil ?_
      refine c_ret1 Tryz.func39 rfl rfl fun w O hS => ?_
      refine ⟨(), ?_, trivial, trivial⟩
      rw [decide_eq_false]
      intro q
      injection q
      simp_all
  · skip
    refine o_off rfl rfl rfl (dd rfl) ?_
    refine o_off rfl rfl rfl (dd rfl) ?_
    refine o_off rfl rfl rfl (dd rfl) ?_
    refine o_off rfl rfl rfl (dd rfl) ?_
    refine o_off rfl rfl rfl (dd rfl) ?_
    refine o_val (v_pick_f rfl rfl) (dd rfl) ?_
    refine o_val (v_move rfl) (dd rfl) ?_
    refine o_off rfl rfl rfl (dd rfl) ?_
    refine o_off rfl rfl rfl (dd rfl) ?_
    refine o_off rfl rfl rfl (dd rfl) ?_
    refine o_off rfl rfl rfl (dd rfl) ?_
    refine o_off rfl rfl rfl (dd rfl) ?_
    refine o_val (v_pick_f rfl rfl) (dd rfl) ?_
    refine o_val (v_move rfl) (dd rfl) ?_
    refine o_off rfl rfl rfl (dd rfl) ?_
    refine o_off rfl rfl rfl (dd rfl) ?_
    refine o_off rfl rfl rfl (dd rfl) ?_
    refine o_off rfl rfl rfl (dd rfl) ?_
    refine o_off rfl rfl rfl (dd rfl) ?_
    refine o_val (v_pick_f rfl rfl) (dd rfl) ?_
    refine o_val (v_move rfl) (dd rfl) ?_
    refine o_off rfl rfl rfl (dd rfl) ?_
    refine o_off rfl rfl rfl (dd rfl) ?_
    refine o_off rfl rfl rfl (dd rfl) ?_
    refine o_off rfl rfl rfl (dd rfl) ?_
    refine o_off rfl rfl rfl (dd rfl) ?_
    refine o_val (v_pick_f rfl rfl) (dd rfl) ?_
    refine o_val (v_move rfl) (dd rfl) ?_
    refine o_off rfl rfl rfl (dd rfl) ?_
    refine o_off rfl rfl rfl (dd rfl) ?_
    refine o_off rfl rfl rfl (dd rfl) ?_
    refine o_off rfl rfl rfl (dd rfl) ?_
    refine o_off rfl rfl rfl (dd rfl) ?_
    refine o_val (v_pick_f rfl rfl) (dd rfl) ?_
    refine o_val (v_assign rfl) (dd rfl) ?_
    refine o_nil ?_
    refine c_ret1 Tryz.func39 rfl rfl fun w O hS => ?_
    refine ⟨(), ?_, trivial, trivial⟩
    rw [decide_eq_false]
    intro q
    injection q
    simp_all
set_option maxRecDepth 100000 in
theorem samePrR_con (p q : Pr9) (ov wv ov' wv' : Value) (hp : p.2.2.2.2.1.length ≤ 1000000 ∧ p.2.2.2.2.2.length ≤ 1000000) (hq : q.2.2.2.2.1.length ≤ 1000000 ∧ q.2.2.2.2.2.length ≤ 1000000) : Con Tryz.prog 24 [.agg #[.int .i64 p.1, .string p.2.1, .string p.2.2.1, .int .i64 p.2.2.2.1, ov, wv], .agg #[.int .i64 q.1, .string q.2.1, .string q.2.2.1, .int .i64 q.2.2.2.1, ov', wv']] [Sl eStr ov p.2.2.2.2.1, Sl eStr wv p.2.2.2.2.2, Sl eStr ov' q.2.2.2.2.1, Sl eStr wv' q.2.2.2.2.2] (γ := Unit) (fun _ => .bool (decide (p = q))) (fun _ => True) (fun _ => []) := by
  obtain ⟨k, n, t, a, o, z⟩ := p
  obtain ⟨k', n', t', a', o', z'⟩ := q
  obtain ⟨hp1, hp2⟩ := hp
  obtain ⟨hq1, hq2⟩ := hq
  dsimp only at hp1 hp2 hq1 hq2 ⊢
  have h1 := same_ref_con ov ov' o o' hp1 hq1
  have h2 := same_ref_con wv wv' z z' hp2 hq2
  refine con_of Tryz.func24 rfl (dd rfl) fun w0 O0 => ?_
  refine c_seq ?_
  refine c_region ?_
  refine o_step (s_box rfl (dd rfl) (fun b2 => ?_))
  refine o_step (s_box rfl (dd rfl) (fun b3 => ?_))
  refine o_val (v_assign rfl) (dd rfl) ?_
  refine o_nil ?_
  refine c_seq ?_
  refine c_region ?_
  refine o_val (v_fieldAddrC 0 Tryz.underlying30 rfl ti3 (by decide) rfl) (dd rfl) ?_
  refine o_val (v_load lone3 rfl (hX (by repeat constructor)) rfl) (dd rfl) ?_
  refine o_val (v_fieldAddrC 0 Tryz.underlying30 rfl ti3 (by decide) rfl) (dd rfl) ?_
  refine o_val (v_load lone3 rfl (hX (by repeat constructor)) rfl) (dd rfl) ?_
  refine o_val (v_eq rfl rfl) (dd rfl) ?_
  refine o_val (v_move rfl) (dd rfl) ?_
  refine o_guard_t rfl rfl (fun g1 => ?_) (fun g1 => ?_)
  · refine o_val (v_fieldAddrC 1 Tryz.underlying30 rfl ti9 (by decide) rfl) (dd rfl) ?_
    refine o_on rfl rfl ?_
    refine o_val (v_load lone9 rfl (hX (by repeat constructor)) rfl) (dd rfl) ?_
    refine o_on rfl rfl ?_
    refine o_val (v_fieldAddrC 1 Tryz.underlying30 rfl ti9 (by decide) rfl) (dd rfl) ?_
    refine o_on rfl rfl ?_
    refine o_val (v_load lone9 rfl (hX (by repeat constructor)) rfl) (dd rfl) ?_
    refine o_on rfl rfl ?_
    refine o_val (v_seq rfl rfl) (dd rfl) ?_
    refine o_val (v_pick_t rfl rfl) (dd rfl) ?_
    refine o_val (v_move rfl) (dd rfl) ?_
    refine o_guard_t rfl rfl (fun g2 => ?_) (fun g2 => ?_)
    · refine o_val (v_fieldAddrC 2 Tryz.underlying30 rfl ti9 (by decide) rfl) (dd rfl) ?_
      refine o_on rfl rfl ?_
      refine o_val (v_load lone9 rfl (hX (by repeat constructor)) rfl) (dd rfl) ?_
      refine o_on rfl rfl ?_
      refine o_val (v_fieldAddrC 2 Tryz.underlying30 rfl ti9 (by decide) rfl) (dd rfl) ?_
      refine o_on rfl rfl ?_
      refine o_val (v_load lone9 rfl (hX (by repeat constructor)) rfl) (dd rfl) ?_
      refine o_on rfl rfl ?_
      refine o_val (v_seq rfl rfl) (dd rfl) ?_
      refine o_val (v_pick_t rfl rfl) (dd rfl) ?_
      refine o_val (v_move rfl) (dd rfl) ?_
      refine o_guard_t rfl rfl (fun g3 => ?_) (fun g3 => ?_)
      · refine o_val (v_fieldAddrC 3 Tryz.underlying30 rfl ti3 (by decide) rfl) (dd rfl) ?_
        refine o_on rfl rfl ?_
        refine o_val (v_load lone3 rfl (hX (by repeat constructor)) rfl) (dd rfl) ?_
        refine o_on rfl rfl ?_
        refine o_val (v_fieldAddrC 3 Tryz.underlying30 rfl ti3 (by decide) rfl) (dd rfl) ?_
        refine o_on rfl rfl ?_
        refine o_val (v_load lone3 rfl (hX (by repeat constructor)) rfl) (dd rfl) ?_
        refine o_on rfl rfl ?_
        refine o_val (v_eq rfl rfl) (dd rfl) ?_
        refine o_val (v_pick_t rfl rfl) (dd rfl) ?_
        refine o_val (v_move rfl) (dd rfl) ?_
        refine o_guard_t rfl rfl (fun g4 => ?_) (fun g4 => ?_)
        · refine o_val (v_fieldAddrC 4 Tryz.underlying30 rfl ti28 (by decide) rfl) (dd rfl) ?_
          refine o_on rfl rfl ?_
          refine o_val (v_load lone28 rfl (hX (by repeat constructor)) rfl) (dd rfl) ?_
          refine o_on rfl rfl ?_
          refine o_val (v_fieldAddrC 4 Tryz.underlying30 rfl ti28 (by decide) rfl) (dd rfl) ?_
          refine o_on rfl rfl ?_
          refine o_val (v_load lone28 rfl (hX (by repeat constructor)) rfl) (dd rfl) ?_
          refine o_on rfl rfl ?_
          refine o_step (s_callf_keep cl23 (h1) rfl (dd rfl) (rX (by repeat constructor)) (fun _ => sX) (fun _ _ => ?_))
          refine o_val (v_pick_t rfl rfl) (dd rfl) ?_
          refine o_val (v_move rfl) (dd rfl) ?_
          refine o_guard rfl rfl (fun g5 => ?_) (fun g5 => ?_)
          · have g5' : o = o' := of_decide_eq_true g5
            refine o_val (v_fieldAddrC 5 Tryz.underlying30 rfl ti28 (by decide) rfl) (dd rfl) ?_
            refine o_on rfl rfl ?_
            refine o_val (v_load lone28 rfl (hX (by repeat constructor)) rfl) (dd rfl) ?_
            refine o_on rfl rfl ?_
            refine o_val (v_fieldAddrC 5 Tryz.underlying30 rfl ti28 (by decide) rfl) (dd rfl) ?_
            refine o_on rfl rfl ?_
            refine o_val (v_load lone28 rfl (hX (by repeat constructor)) rfl) (dd rfl) ?_
            refine o_on rfl rfl ?_
            refine o_step (s_callf_keep cl23 (h2) rfl (dd rfl) (rX (by repeat constructor)) (fun _ => sX) (fun _ _ => ?_))
            refine o_val (v_pick_t rfl rfl) (dd rfl) ?_
            refine o_val (v_assign rfl) (dd rfl) ?_
            refine o_nil ?_
            refine c_ret1 Tryz.func24 rfl rfl fun w O hS => ?_
            subst g1; subst g2; subst g3; subst g4; subst g5'
            exact ⟨(), congrArg Value.bool (decide_eq_decide.2 ⟨fun h => by rw [h], fun h => by injection h with _ h; injection h with _ h; injection h with _ h; injection h with _ h; injection h with _ h⟩), trivial, trivial⟩
          · have g5' : ¬ o = o' := of_decide_eq_false g5
            refine o_off rfl rfl rfl (dd rfl) ?_
            refine o_off rfl rfl rfl (dd rfl) ?_
            refine o_off rfl rfl rfl (dd rfl) ?_
            refine o_off rfl rfl rfl (dd rfl) ?_
            refine o_off rfl rfl rfl (dd rfl) ?_
            refine o_val (v_pick_f rfl rfl) (dd rfl) ?_
            refine o_val (v_assign rfl) (dd rfl) ?_
            refine o_nil ?_
            refine c_ret1 Tryz.func24 rfl rfl fun w O hS => ?_
            refine ⟨(), ?_, trivial, trivial⟩
            rw [decide_eq_false]
            intro q
            injection q
            simp_all
        · skip
          refine o_off rfl rfl rfl (dd rfl) ?_
          refine o_off rfl rfl rfl (dd rfl) ?_
          refine o_off rfl rfl rfl (dd rfl) ?_
          refine o_off rfl rfl rfl (dd rfl) ?_
          refine o_off rfl rfl rfl (dd rfl) ?_
          refine o_val (v_pick_f rfl rfl) (dd rfl) ?_
          refine o_val (v_move rfl) (dd rfl) ?_
          refine o_off rfl rfl rfl (dd rfl) ?_
          refine o_off rfl rfl rfl (dd rfl) ?_
          refine o_off rfl rfl rfl (dd rfl) ?_
          refine o_off rfl rfl rfl (dd rfl) ?_
          refine o_off rfl rfl rfl (dd rfl) ?_
          refine o_val (v_pick_f rfl rfl) (dd rfl) ?_
          refine o_val (v_assign rfl) (dd rfl) ?_
          refine o_nil ?_
          refine c_ret1 Tryz.func24 rfl rfl fun w O hS => ?_
          refine ⟨(), ?_, trivial, trivial⟩
          rw [decide_eq_false]
          intro q
          injection q
          simp_all
      · skip
        refine o_off rfl rfl rfl (dd rfl) ?_
        refine o_off rfl rfl rfl (dd rfl) ?_
        refine o_off rfl rfl rfl (dd rfl) ?_
        refine o_off rfl rfl rfl (dd rfl) ?_
        refine o_off rfl rfl rfl (dd rfl) ?_
        refine o_val (v_pick_f rfl rfl) (dd rfl) ?_
        refine o_val (v_move rfl) (dd rfl) ?_
        refine o_off rfl rfl rfl (dd rfl) ?_
        refine o_off rfl rfl rfl (dd rfl) ?_
        refine o_off rfl rfl rfl (dd rfl) ?_
        refine o_off rfl rfl rfl (dd rfl) ?_
        refine o_off rfl rfl rfl (dd rfl) ?_
        refine o_val (v_pick_f rfl rfl) (dd rfl) ?_
        refine o_val (v_move rfl) (dd rfl) ?_
        refine o_off rfl rfl rfl (dd rfl) ?_
        refine o_off rfl rfl rfl (dd rfl) ?_
        refine o_off rfl rfl rfl (dd rfl) ?_
        refine o_off rfl rfl rfl (dd rfl) ?_
        refine o_off rfl rfl rfl (dd rfl) ?_
        refine o_val (v_pick_f rfl rfl) (dd rfl) ?_
        refine o_val (v_assign rfl) (dd rfl) ?_
        refine o_nil ?_
        refine c_ret1 Tryz.func24 rfl rfl fun w O hS => ?_
        refine ⟨(), ?_, trivial, trivial⟩
        rw [decide_eq_false]
        intro q
        injection q
        simp_all
    · skip
      refine o_off rfl rfl rfl (dd rfl) ?_
      refine o_off rfl rfl rfl (dd rfl) ?_
      refine o_off rfl rfl rfl (dd rfl) ?_
      refine o_off rfl rfl rfl (dd rfl) ?_
      refine o_off rfl rfl rfl (dd rfl) ?_
      refine o_val (v_pick_f rfl rfl) (dd rfl) ?_
      refine o_val (v_move rfl) (dd rfl) ?_
      refine o_off rfl rfl rfl (dd rfl) ?_
      refine o_off rfl rfl rfl (dd rfl) ?_
      refine o_off rfl rfl rfl (dd rfl) ?_
      refine o_off rfl rfl rfl (dd rfl) ?_
      refine o_off rfl rfl rfl (dd rfl) ?_
      refine o_val (v_pick_f rfl rfl) (dd rfl) ?_
      refine o_val (v_move rfl) (dd rfl) ?_
      refine o_off rfl rfl rfl (dd rfl) ?_
      refine o_off rfl rfl rfl (dd rfl) ?_
      refine o_off rfl rfl rfl (dd rfl) ?_
      refine o_off rfl rfl rfl (dd rfl) ?_
      refine o_off rfl rfl rfl (dd rfl) ?_
      refine o_val (v_pick_f rfl rfl) (dd rfl) ?_
      refine o_val (v_move rfl) (dd rfl) ?_
      refine o_off rfl rfl rfl (dd rfl) ?_
      refine o_off rfl rfl rfl (dd rfl) ?_
      refine o_off rfl rfl rfl (dd rfl) ?_
      refine o_off rfl rfl rfl (dd rfl) ?_
      refine o_off rfl rfl rfl (dd rfl) ?_
      refine o_val (v_pick_f rfl rfl) (dd rfl) ?_
      refine o_val (v_assign rfl) (dd rfl) ?_
      refine o_nil ?_
      refine c_ret1 Tryz.func24 rfl rfl fun w O hS => ?_
      refine ⟨(), ?_, trivial, trivial⟩
      rw [decide_eq_false]
      intro q
      injection q
      simp_all
  · skip
    refine o_off rfl rfl rfl (dd rfl) ?_
    refine o_off rfl rfl rfl (dd rfl) ?_
    refine o_off rfl rfl rfl (dd rfl) ?_
    refine o_off rfl rfl rfl (dd rfl) ?_
    refine o_off rfl rfl rfl (dd rfl) ?_
    refine o_val (v_pick_f rfl rfl) (dd rfl) ?_
    refine o_val (v_move rfl) (dd rfl) ?_
    refine o_off rfl rfl rfl (dd rfl) ?_
    refine o_off rfl rfl rfl (dd rfl) ?_
    refine o_off rfl rfl rfl (dd rfl) ?_
    refine o_off rfl rfl rfl (dd rfl) ?_
    refine o_off rfl rfl rfl (dd rfl) ?_
    refine o_val (v_pick_f rfl rfl) (dd rfl) ?_
    refine o_val (v_move rfl) (dd rfl) ?_
    refine o_off rfl rfl rfl (dd rfl) ?_
    refine o_off rfl rfl rfl (dd rfl) ?_
    refine o_off rfl rfl rfl (dd rfl) ?_
    refine o_off rfl rfl rfl (dd rfl) ?_
    refine o_off rfl rfl rfl (dd rfl) ?_
    refine o_val (v_pick_f rfl rfl) (dd rfl) ?_
    refine o_val (v_move rfl) (dd rfl) ?_
    refine o_off rfl rfl rfl (dd rfl) ?_
    refine o_off rfl rfl rfl (dd rfl) ?_
    refine o_off rfl rfl rfl (dd rfl) ?_
    refine o_off rfl rfl rfl (dd rfl) ?_
    refine o_off rfl rfl rfl (dd rfl) ?_
    refine o_val (v_pick_f rfl rfl) (dd rfl) ?_
    refine o_val (v_move rfl) (dd rfl) ?_
    refine o_off rfl rfl rfl (dd rfl) ?_
    refine o_off rfl rfl rfl (dd rfl) ?_
    refine o_off rfl rfl rfl (dd rfl) ?_
    refine o_off rfl rfl rfl (dd rfl) ?_
    refine o_off rfl rfl rfl (dd rfl) ?_
    refine o_val (v_pick_f rfl rfl) (dd rfl) ?_
    refine o_val (v_assign rfl) (dd rfl) ?_
    refine o_nil ?_
    refine c_ret1 Tryz.func24 rfl rfl fun w O hS => ?_
    refine ⟨(), ?_, trivial, trivial⟩
    rw [decide_eq_false]
    intro q
    injection q
    simp_all
end Go.Proofs.YtmgkeippepeggaaGreatDoor
/- Chapter 09: alive. -/
namespace Go.Proofs.YtmgkeippepeggaaGreatDoor
open Go Go.SL Go.Lib
theorem takeFlag_enc (b : Bool) (r : List UInt8) : takeFlag (flagB b ++ r, false) = ((r, false), b) := by
  have h1 : clamp9 (if b then 1 else 0) = if b then 1 else 0 := by cases b <;> rfl
  have e : flagB b ++ r = itoa (if b then 1 else 0) ++ 59 :: r := by unfold flagB numB; rw [h1]; simp
  unfold takeFlag num9
  rw [e]
  dsimp only
  rw [if_neg (by decide), number_enc (.inr rfl) (itoa_len (by cases b <;> exact ⟨by decide, by decide⟩))]
  dsimp only
  rw [if_pos (by cases b <;> simp), show (itoa (if b then 1 else 0)).length + 1 = (itoa (if b then 1 else 0) ++ [59]).length by simp, show itoa (if b then 1 else 0) ++ 59 :: r = (itoa (if b then 1 else 0) ++ [59]) ++ r by simp, List.drop_left]
  cases b <;> rfl
def abB : ByteArray := ⟨#[97, 98]⟩
def aB : ByteArray := ⟨#[97]⟩
def pA : Pr9 := (1, aB, ⟨#[]⟩, 0, [], [])
def aliveL : List UInt8 := numB (-7) ++ (textB abB ++ (flagB true ++ primB pA))
theorem alive1 : takeNum (aliveL, false) = ((textB abB ++ (flagB true ++ primB pA), false), -7) := takeNum_enc (by decide) _
theorem alive2 : takeText 5 (textB abB ++ (flagB true ++ primB pA), false) = ((flagB true ++ primB pA, false), abB) := takeText_enc (by decide) (by decide) _
theorem alive3 : takeFlag (flagB true ++ primB pA, false) = ((primB pA, false), true) := takeFlag_enc true _
theorem alive4 : takePrim (primB pA, false) = (([], false), pA) := by
  have := takePrim_enc (p := pA) (by decide) ⟨by decide, by decide⟩ []
  rwa [List.append_nil] at this
theorem alive5 : takeNum ([], false) = (([], true), 0) := rfl
theorem alive6 : sB aliveL = ⟨#[45, 55, 59, 50, 58, 97, 98, 44, 49, 59, 49, 59, 49, 58, 97, 44, 48, 58, 44, 48, 59, 48, 59, 48, 59]⟩ := by decide +kernel
theorem alive7 : aliveL.length = 25 := by decide +kernel
theorem alive8 : (numB (-7)).length ≤ 15 ∧ (textB abB).length ≤ 15 ∧ (flagB true).length ≤ 15 ∧ (primB pA).length ≤ 25 := by decide +kernel
attribute [local irreducible] Cfg Kont StepK Val Con Qops Any Sl Own Blk BlkR Rd Pu ExA AllA Has Pick Ent Elem Beside Callable TI Lone OwnO AndA
set_option maxRecDepth 100000 in
theorem alive_con (te : TypeId) (pe : Value) : Con Tryz.prog 10 [] [G1 te pe, G3] (γ := Unit) (fun _ => .bool true) (fun _ => True) (fun _ => []) := by
  obtain ⟨l1, l2, l3, l4⟩ := alive8
  have c1 := fun b => num_con b (.slice none 0 0) [] (-7) (by decide) (by simp; omega)
  have c2 := fun b v => text_con b v ([] ++ numB (-7)) abB (by simp; omega)
  have c3 := fun b v => flag_con b v ([] ++ numB (-7) ++ textB abB) true (by simp; omega)
  have c4 := fun b v => prim_con b v (.slice none 0 0) (.slice none 0 0) ([] ++ numB (-7) ++ textB abB ++ flagB true) pA ⟨by decide, by decide, by decide, by decide⟩ (by simp; omega)
  have hL : [] ++ numB (-7) ++ textB abB ++ flagB true ++ primB pA = aliveL := by unfold aliveL; simp only [List.nil_append, List.append_assoc]
  rw [hL] at c4
  have c5 := fun b v => bytes_con b v aliveL (by rw [alive7]; decide)
  have c6 := fun v => of_con v aliveL (by rw [alive7]; decide)
  have c7 := fun i v => inNum_con i v (aliveL, false) te pe
  have c8 := fun i v => inText_con i v (textB abB ++ (flagB true ++ primB pA), false) 5 te pe
  have c9 := fun i v => inFlag_con i v (flagB true ++ primB pA, false) te pe
  have cA := fun i v => inPrim_con i v (primB pA, false) (by show (primB pA).length ≤ 1000000; omega) te pe
  have cB := fun i v => done_con i v ([], false)
  have cC := fun i v => left_con i v ([], false)
  have cD := fun i v => inNum_con i v ([], false) te pe
  have cE := fun i v => done_con i v ([], true)
  have cF := fun o w => samePr_con pA pA o w (.slice none 0 0) (.slice none 0 0) ⟨by decide, by decide⟩ ⟨by decide, by decide⟩
  rw [alive1] at c7
  rw [alive2] at c8
  rw [alive3] at c9
  rw [alive4] at cA
  rw [alive5] at cD
  dsimp only at c7 c8 c9 cA cB cC cD cE
  unfold pA abB aB at *
  dsimp only at c4 cA cF
  refine con_of Tryz.func10 rfl (dd rfl) fun w0 O0 => ?_
  refine c_seq ?_
  refine c_region ?_
  refine o_val (v_assign rfl) (dd rfl) ?_
  refine o_nil ?_
  refine c_seq ?_
  refine c_region ?_
  refine o_step (s_alloc ti27 (dd rfl) (fun b1 => ?_))
  refine o_nil ?_
  refine c_seq ?_
  refine c_region ?_
  refine o_step (s_callf cl32 (c1 b1) rfl (dd rfl) (pXs (by repeat constructor)) fun v1 _ => ?_)
  refine o_nil ?_
  refine c_seq ?_
  refine c_region ?_
  refine o_step (s_callf cl34 (c2 b1 v1) rfl (dd rfl) (pXs (by repeat constructor)) fun v2 _ => ?_)
  refine o_nil ?_
  refine c_seq ?_
  refine c_region ?_
  refine o_step (s_callf cl33 (c3 b1 v2) rfl (dd rfl) (pXs (by repeat constructor)) fun v3 _ => ?_)
  refine o_nil ?_
  refine c_seq ?_
  refine c_region ?_
  refine o_val (v_buildS (places := [(0, 1), (1, 1), (2, 1), (3, 1), (4, 1), (5, 1)]) (cells := [_, _, .string ⟨#[]⟩, .int .i64 0, .slice none 0 0, .slice none 0 0]) Tryz.underlying58 ti58 (by kernel_rfl) rfl (by repeat (first | exact PartsC.nil | (apply PartsC.one (by first | exact OneC.lit rfl | exact OneC.sl (hX (by repeat constructor)) )) | (apply PartsC.lit rfl))) rfl) (dd rfl) ?_
  refine o_step (s_callf cl36 (c4 b1 v3) rfl (dd rfl) (pXs (by repeat constructor)) fun v4 _ => ?_)
  refine o_nil ?_
  refine c_seq ?_
  refine c_region ?_
  refine o_step (s_callf_keep cl12 (c5 b1 v4) rfl (dd rfl) (rX (by repeat constructor)) (fun _ => sX) (fun v5 _ => ?_))
  refine o_step (s_callf cl13 (c6 v5) rfl (dd rfl) (pXs (by repeat constructor)) fun g _ => ?_)
  refine o_val (v_assign rfl) (dd rfl) ?_
  refine o_nil ?_
  refine c_seq ?_
  refine c_seq ?_
  refine c_region ?_
  refine o_val (v_move rfl) (dd rfl) ?_
  refine o_val (v_eq_ptr_nil Tryz.underlying40 rfl rfl) (dd rfl) ?_
  refine o_nil ?_
  refine c_cond_f rfl ?_
  refine c_skip ?_
  refine c_seq ?_
  refine c_region ?_
  refine o_val (v_move rfl) (dd rfl) ?_
  refine o_step (s_callf cl14 (c7 g.1 g.2) rfl (dd rfl) (pXs (by repeat constructor)) fun w1 _ => ?_)
  refine o_val (v_move rfl) (dd rfl) ?_
  refine o_step (s_callf cl16 (c8 g.1 w1) rfl (dd rfl) (pXs (by repeat constructor)) fun w2 _ => ?_)
  refine o_val (v_move rfl) (dd rfl) ?_
  refine o_step (s_callf cl15 (c9 g.1 w2) rfl (dd rfl) (pXs (by repeat constructor)) fun w3 _ => ?_)
  refine o_val (v_move rfl) (dd rfl) ?_
  refine o_step (s_callf cl25 (cA g.1 w3) rfl (dd rfl) (pXs (by repeat constructor)) fun h _ => ?_)
  refine o_step (s_alloc ti58 (dd rfl) (fun b6 => ?_))
  refine o_val (v_assign rfl) (dd rfl) ?_
  refine o_val (v_assign rfl) (dd rfl) ?_
  refine o_val (v_assign rfl) (dd rfl) ?_
  refine o_step (s_store_all ti58 rfl rfl (by first | exact CellsV.lit rfl | exact CellsV.one (by first | exact OneC.lit rfl | exact OneC.sl (hX (by repeat constructor)) )) (by repeat (first | exact OneAll.nil | (refine OneAll.cons ?_ ?_; · first | exact OneC.lit rfl | exact OneC.sl (hX (by repeat constructor)) ) | exact OneAll.rd (hX (by repeat constructor)))) rfl (pB (by repeat constructor)) rfl (?_))
  refine o_nil ?_
  refine c_seq ?_
  refine c_region ?_
  refine o_val (v_move rfl) (dd rfl) ?_
  refine o_step (s_callf_keep cl20 (cB g.1 h.1) rfl (dd rfl) (rX (by repeat constructor)) (fun _ => sX) (fun _ _ => ?_))
  refine o_val (v_assign rfl) (dd rfl) ?_
  refine o_nil ?_
  refine c_seq ?_
  refine c_region ?_
  refine o_step (s_callf_keep cl12 (c5 b1 v4) rfl (dd rfl) (rX (by repeat constructor)) (fun _ => sX) (fun v6 _ => ?_))
  refine o_val (v_conv_bytes Tryz.underlying25 Tryz.underlying5 Tryz.underlying9 rfl (hX (by repeat constructor))) (dd rfl) ?_
  refine o_val (v_seq rfl rfl) (dd rfl) ?_
  refine o_val (v_move rfl) (dd rfl) ?_
  refine o_guard rfl rfl (fun _ => ?_) (fun h_ => absurd ((show _ = true from decide_eq_true alive6).symm.trans h_) (by decide))
  refine o_val (v_move rfl) (dd rfl) ?_
  refine o_on rfl rfl ?_
  refine o_val (v_eq rfl rfl) (dd rfl) ?_
  refine o_val (v_pick_t rfl rfl) (dd rfl) ?_
  refine o_val (v_move rfl) (dd rfl) ?_
  refine o_guard rfl rfl (fun _ => ?_) (fun h_ => absurd ((show _ = true from decide_eq_true rfl).symm.trans h_) (by decide))
  refine o_val (v_move rfl) (dd rfl) ?_
  refine o_on rfl rfl ?_
  refine o_val (v_seq rfl rfl) (dd rfl) ?_
  refine o_val (v_pick_t rfl rfl) (dd rfl) ?_
  refine o_val (v_move rfl) (dd rfl) ?_
  refine o_guard rfl rfl (fun _ => ?_) (fun h_ => absurd ((show _ = true from decide_eq_true rfl).symm.trans h_) (by decide))
  refine o_val (v_move rfl) (dd rfl) ?_
  refine o_val (v_pick_t rfl rfl) (dd rfl) ?_
  refine o_val (v_move rfl) (dd rfl) ?_
  refine o_guard rfl rfl (fun _ => ?_) (fun h_ => absurd ((show _ = true from rfl).symm.trans h_) (by decide))
  refine o_val (v_load_all ⟨_, Tryz.underlying58⟩ ti58 rfl (hX (by repeat constructor)) rfl) (dd rfl) ?_
  refine o_on rfl rfl ?_
  refine o_val (v_buildS (places := [(0, 1), (1, 1), (2, 1), (3, 1), (4, 1), (5, 1)]) (cells := [_, _, .string ⟨#[]⟩, .int .i64 0, .slice none 0 0, .slice none 0 0]) Tryz.underlying58 ti58 (by kernel_rfl) rfl (by repeat (first | exact PartsC.nil | (apply PartsC.one (by first | exact OneC.lit rfl | exact OneC.sl (hX (by repeat constructor)) )) | (apply PartsC.lit rfl))) rfl) (dd rfl) ?_
  refine o_on rfl rfl ?_
  refine o_step (s_callf cl39 (cF h.2.1 h.2.2) rfl (dd rfl) (pXs (by repeat constructor)) fun _ _ => ?_)
  refine o_val (v_pick_t rfl rfl) (dd rfl) ?_
  refine o_val (v_move rfl) (dd rfl) ?_
  refine o_guard rfl rfl (fun _ => ?_) (fun h_ => absurd ((show _ = true from decide_eq_true rfl).symm.trans h_) (by decide))
  refine o_val (v_move rfl) (dd rfl) ?_
  refine o_val (v_pick_t rfl rfl) (dd rfl) ?_
  refine o_val (v_move rfl) (dd rfl) ?_
  refine o_guard rfl rfl (fun _ => ?_) (fun h_ => absurd ((show _ = true from decide_eq_true rfl).symm.trans h_) (by decide))
  refine o_val (v_move rfl) (dd rfl) ?_
  refine o_on rfl rfl ?_
  refine o_step (s_callf_keep cl18 (cC g.1 h.1) rfl (dd rfl) (rX (by repeat constructor)) (fun _ => sX) (fun _ _ => ?_))
  refine o_on rfl rfl ?_
  refine o_val (v_eq rfl rfl) (dd rfl) ?_
  refine o_val (v_pick_t rfl rfl) (dd rfl) ?_
  refine o_val (v_move rfl) (dd rfl) ?_
  refine o_guard rfl rfl (fun _ => ?_) (fun h_ => absurd ((show _ = true from decide_eq_true rfl).symm.trans h_) (by decide))
  refine o_val (v_move rfl) (dd rfl) ?_
  refine o_on rfl rfl ?_
  refine o_step (s_callf cl14 (cD g.1 h.1) rfl (dd rfl) (pXs (by repeat constructor)) fun w4 _ => ?_)
  refine o_on rfl rfl ?_
  refine o_val (v_eq rfl rfl) (dd rfl) ?_
  refine o_val (v_pick_t rfl rfl) (dd rfl) ?_
  refine o_val (v_move rfl) (dd rfl) ?_
  refine o_guard rfl rfl (fun _ => ?_) (fun h_ => absurd ((show _ = true from decide_eq_true rfl).symm.trans h_) (by decide))
  refine o_val (v_move rfl) (dd rfl) ?_
  refine o_on rfl rfl ?_
  refine o_step (s_callf_keep cl20 (cE g.1 w4) rfl (dd rfl) (rX (by repeat constructor)) (fun _ => sX) (fun _ _ => ?_))
  refine o_on rfl rfl ?_
  refine o_val (v_not rfl) (dd rfl) ?_
  refine o_val (v_pick_t rfl rfl) (dd rfl) ?_
  refine o_val (v_assign rfl) (dd rfl) ?_
  refine o_nil ?_
  refine c_ret1 Tryz.func10 rfl rfl fun w O hS => ?_
  exact ⟨(), rfl, trivial, trivial⟩
end Go.Proofs.YtmgkeippepeggaaGreatDoor
/- What the rows of the second form want: the start, the openers of the arguments' types. -/
namespace Go.Proofs.YtmgkeippepeggaaGreatDoor
open Go Go.SL Go.RowKit Go.ChangeShapes Go.WideShapes Go.ChangeAt Go.Lib

abbrev laidL : List (String × DataW Unit) := [("math/bits.deBruijn32tab", Rows.laid_math_bits_deBruijn32tab), ("math/bits.deBruijn64tab", Rows.laid_math_bits_deBruijn64tab), ("internal/strconv.uint64pow10", Rows.laid_internal_strconv_uint64pow10), ("unicode/utf8.acceptRanges", Rows.laid_unicode_utf8_acceptRanges), ("strconv.ErrRange", Rows.laid_strconv_ErrRange), ("strconv.ErrSyntax", Rows.laid_strconv_ErrSyntax), ("unicode/utf8.first", Rows.laid_unicode_utf8_first)]
theorem own : ownKnob Tryz.prog.godebug = none := by kernel_rfl
theorem laidOut : laidOutB Tryz.prog = true := by kernel_rfl
theorem start_met (os : Os) (args : Array Value) : laidMetH Tryz.prog laidL ((World.laidAll Tryz.prog os laidL).forCall (fun _ _ => 0) ⟨#[], args, []⟩).memory := by
  rw [MakeChecks.laidMetH_plain _ _ _ (by kernel_rfl)]; exact laidMet_laidAll _ (by kernel_rfl) (by kernel_rfl)
theorem start_shaped (os : Os) (args : Array Value) : ((World.laidAll Tryz.prog os laidL).forCall (fun _ _ => 0) ⟨#[], args, []⟩).Shaped Tryz.checked.prog := World.shaped_of_RefB (by kernel_rfl) (by kernel_rfl)
theorem reach : reachBytes = 140737488351232 := by decide
theorem star : "*" ++ "errors.errorString" = "*errors.errorString" := by decide
theorem errRow (u : TypeId) (h : Tryz.prog.typeName? 3 u = some "*errors.errorString") : u = 195 :=
  typeName_ptr_named (nm := "errors.errorString") (by rw [star]; kernel_rfl) (by kernel_rfl) (by decide) u (by rw [star]; exact h)
theorem glob_at {W : World} (h : W.ShapedOpen Tryz.prog) {g : Nat} {t : TypeId} {cs : Array Value} {name : String} (hg : g < Tryz.prog.globals.size) (h0 : (((begin Tryz.prog (fun _ _ => 0) default).world.heap[g]?).bind Obj.row?).map (·.2) = some t) (hn : Tryz.prog.globalNamed name = some g) (hv : W.var? Tryz.prog name = some cs) : (BlkR g t cs.toList).h W (readAll W) := by
  obtain ⟨⟨zero, t'⟩, h0', e0⟩ := Option.map_eq_some_iff.1 h0
  obtain rfl : t' = t := e0
  obtain ⟨ds, hh, _, _⟩ := h.1 g zero t' hg h0'
  have h1 : g < W.heap.size := by
    rcases Nat.lt_or_ge g W.heap.size with h | h
    · exact h
    · rw [Array.getElem?_eq_none h] at hh; cases hh
  unfold World.var? at hv
  rw [hn, Option.bind_some, hh] at hv
  have e : ds = cs := by simpa using hv
  subst e
  exact ⟨readAll_lt h1, (0, 0), by rw [hh]⟩
theorem g13 {W : World} (hs : W.ShapedOpen Tryz.prog) (hl : laidMetH Tryz.prog laidL W) : ∃ te pe, (G1 te pe).h W (readAll W) ∧ G3.h W (readAll W) := by
  rw [MakeChecks.laidMetH_plain _ _ _ (by kernel_rfl)] at hl
  have h3 : laidMet Tryz.prog (("internal/strconv.uint64pow10", tabData .u64 pow10Tab) :: _) W := hl.tail.tail
  have h1 : TabIs Tryz.prog W "internal/strconv.uint64pow10" .u64 pow10Tab := tabIs_of_head (g := 3) (t := 189) (e := 153) (n := 20) (by kernel_rfl) (by kernel_rfl) Tryz.underlying189 Tryz.underlying153 (by kernel_rfl) (by kernel_rfl) h3
  obtain ⟨a0, s0, hv0, -, -, -⟩ := laid_sentinel hl.tail.tail.tail.tail.tail (g := 1) (ti := 129) (tp := 195) (te := 197) (ts := 9) (by kernel_rfl) (by kernel_rfl) Tryz.underlying129 errRow Tryz.underlying195 Tryz.underlying197 rfl rfl Tryz.underlying9 (by kernel_rfl) (by kernel_rfl)
  exact ⟨_, _, glob_at (cs := #[.iface 195 (.pointer (some a0))]) hs (of_decide_eq_true (by kernel_rfl)) (by kernel_rfl) (by kernel_rfl) hv0, glob_at (cs := (pow10Tab.map fun z => Value.int .u64 z).toArray) hs (of_decide_eq_true (by kernel_rfl)) (by kernel_rfl) (by kernel_rfl) h1⟩
theorem opens_byte {P : Program} {t : TypeId} (ht : P.underlying t = some (.int .u8)) : Opens P t eByte (fun _ => True) := by
  intro H enc W fuel cs x h hw
  obtain ⟨n, rfl, rfl, hn⟩ := DataW.trod_int ht h
  have h1 : 0 ≤ n ∧ n < 256 := by
    have := hn
    simp [Lit.wf, IntKind.has, IntKind.min, IntKind.max, IntKind.signed, IntKind.bits] at this
    omega
  refine ⟨UInt8.ofNat n.toNat, ?_, trivial⟩
  show [Value.int .u8 n] = [Value.int .u8 ((UInt8.ofNat n.toNat).toNat : Int)]
  have : ((UInt8.ofNat n.toNat).toNat : Int) = n := by
    rw [UInt8.toNat_ofNat']; omega
  rw [this]
theorem op25 : Opens Tryz.prog 25 (eSl eByte) (fun xs => xs.length ≤ 140737488351232) := opens_good (opens_slice Tryz.underlying25 (by kernel_rfl) (by decide) (opens_byte Tryz.underlying5)) fun xs h => by
  have h1 : Tryz.prog.bytesOf 5 = 1 := by kernel_rfl
  have h2 := h.1
  rw [h1, reach] at h2
  omega
theorem op3 : Opens Tryz.prog 3 (eInt .i64) (fun n => -9223372036854775808 ≤ n ∧ n ≤ 9223372036854775807) := opens_good (opens_int Tryz.underlying3) fun n h => by
  have := h
  simp [Lit.wf, IntKind.has, IntKind.min, IntKind.max, IntKind.signed, IntKind.bits] at this
  omega
end Go.Proofs.YtmgkeippepeggaaGreatDoor
/- Chapter 09: how much the arguments hold, where that is bounded. -/
namespace Go.Proofs.YtmgkeippepeggaaGreatDoor
open Go Go.SL Go.RowKit Go.ChangeShapes Go.WideShapes Go.ChangeAt Go.Lib
theorem bulk_part {H : Type} : ∀ {l : List (DataW H)} {d : DataW H}, d ∈ l → Rows.uptoBulk d ≤ Rows.uptoBulkAll l
  | x :: r, d, h => by
    simp only [Rows.uptoBulkAll]
    cases List.mem_cons.1 h with
    | inl e => subst e; omega
    | inr e => have := bulk_part e; omega
/-- What is read of an element holds no more than it. -/
def BulkOf {α : Type} (P : Program) (t : TypeId) (e : Enc α) (m : α → Nat) : Prop :=
  ∀ (H : Type) (enc : TypeId × Value → H) (W : World) (O : Perm) (fuel : Nat) (cs : List Value) (x : DataW H × List MemPlace) (z : α), DataW.trod enc P W 0 (fun _ => true) true fuel t cs = some x → e.rd W O cs z → m z ≤ Rows.uptoBulk x.1
theorem bulk_str {P : Program} {t : TypeId} (ht : P.underlying t = some .string) : BulkOf P t eStr (fun s => s.size + 1) := by
  intro H enc W O fuel cs x z h hz
  obtain ⟨s, rfl, rfl, _⟩ := DataW.trod_string ht h
  have e : s = z := by
    have : [Value.string s] = [.string z] := hz
    injection this with h1 _
    injection h1
  subst e
  simp only [Rows.uptoBulk]
  rw [ba_len]; exact Nat.le_refl _
theorem bulk_int {P : Program} {t : TypeId} {K : IntKind} (ht : P.underlying t = some (.int K)) : BulkOf P t (eInt K) (fun _ => 1) := by
  intro H enc W O fuel cs x z h hz
  obtain ⟨n, rfl, rfl, hn⟩ := DataW.trod_int ht h
  simp [Rows.uptoBulk]
def mL {α : Type} (m : α → Nat) (l : List α) : Nat := (l.map m).sum + 1
theorem bulk_slice {α : Type} {P : Program} {t u : TypeId} {e : Enc α} {m : α → Nat} (ht : P.underlying t = some (.slice u)) (hc : P.cellsOf u = e.n) (hn : 0 < e.n) (h : BulkOf P u e m) : BulkOf P t (eSl e) (mL m) := by
  intro H enc W O fuel cs x zs hx hz
  obtain ⟨v, rfl, a', cap', hv, hle, hmx, hcells⟩ := hz
  rcases DataW.trod_slice ht hx with ⟨h1, rfl⟩ | ⟨a, len, cap, elems, rest, n, _, h1, rfl, _, hl, hm, hlen, hel, hsp, _⟩
  · cases h1
    have : zs.length = 0 := by
      injection hv with _ h2 _
      exact h2.symm
    rw [List.length_eq_zero_iff.1 this]
    simp [mL, Rows.uptoBulk]
  · have h2 : v = .slice (some a) len cap := by injection h1
    rw [h2] at hv
    injection hv with ha hlen' hcap'
    subst ha; subst hcap'
    have hsum : ∀ k, k ≤ len → ((zs.take k).map m).sum ≤ Rows.uptoBulkAll ((elems.take k).map (·.1)) := by
      intro k
      induction k with
      | zero => intro _; simp [Rows.uptoBulkAll]
      | succ k ih =>
        intro hk
        have hk1 : k < zs.length := by omega
        have hk2 : k < elems.length := by omega
        have hI := ih (by omega)
        rcases hcells with ⟨_, hz0⟩ | ⟨b, off, cs, hab, _, hr, hcl⟩
        · rw [hz0] at hk1; cases hk1
        · have hel' := hel k (by omega)
          rw [List.getElem?_eq_getElem hk2, Option.bind_eq_some_iff] at hel'
          obtain ⟨c0, hc0, hy0⟩ := hel'
          obtain ⟨_, hl0, hcell⟩ := World.cells?_some hc0
          obtain ⟨c, hrd, hget⟩ := hr.get (i := k) (List.getElem?_eq_getElem hk1)
          have hcl' := e.len hrd
          have haa : a = ⟨b, off, none⟩ := Option.some.inj hab
          have hcc : c = c0 := by
            apply List.ext_getElem?
            intro j
            by_cases hj : j < e.n
            · have g1 := hcell j (by rw [hc]; exact hj)
              have g2 := hcl (k * e.n + j) c[j] (hget j c[j] (List.getElem?_eq_getElem (by omega)))
              rw [haa, Go.Lib.add_plain, Go.Lib.add_plain, hc] at g1
              rw [show off + k * e.n + j = off + (k * e.n + j) by omega] at g1
              rw [List.getElem?_eq_getElem (by omega), ← g1, ← g2]
            · rw [List.getElem?_eq_none (by omega), List.getElem?_eq_none (by omega)]
          subst hcc
          have hb := h H enc W O n c elems[k] zs[k] hy0 hrd
          rw [List.take_succ_eq_append_getElem hk1, List.take_succ_eq_append_getElem hk2, List.map_append, List.map_append, List.sum_append]
          have happ : ∀ (l r : List (DataW H)), Rows.uptoBulkAll (l ++ r) = Rows.uptoBulkAll l + Rows.uptoBulkAll r := by
            intro l r
            induction l with
            | nil => simp [Rows.uptoBulkAll]
            | cons x l ih => simp only [List.cons_append, Rows.uptoBulkAll, ih]; omega
          rw [happ]
          simp only [List.map_cons, List.map_nil, List.sum_cons, List.sum_nil, Rows.uptoBulkAll]
          omega
    have := hsum len (Nat.le_refl _)
    rw [List.take_of_length_le (by omega), List.take_of_length_le (by omega)] at this
    unfold mL
    simp only [Rows.uptoBulk]
    omega
def BulkFrom {α : Type} (P : Program) (fs : Array Field) (i off : Nat) (e : Enc α) (m : α → Nat) : Prop :=
  ∀ (H : Type) (enc : TypeId × Value → H) (W : World) (O : Perm) (n : Nat) (cs : List Value) (xs : List (DataW H × List MemPlace)) (z : α), cs.length = off + e.n → xs.length = fs.size →
    (∀ (j : Nat) (f : Field), i ≤ j → fs[j]? = some f → DataW.trod enc P W 0 (fun _ => true) true n f.type ((cs.drop f.offset).take (P.cellsOf f.type)) = xs[j]?) →
    e.rd W O (cs.drop off) z → m z ≤ Rows.uptoBulkAll ((xs.drop i).map (·.1))
theorem bulk_last {α : Type} {P : Program} {fs : Array Field} {i off : Nat} {f : Field} {e : Enc α} {m : α → Nat} (hf : fs[i]? = some f) (ho : f.offset = off) (hc : P.cellsOf f.type = e.n) (h : BulkOf P f.type e m) : BulkFrom P fs i off e m := by
  intro H enc W O n cs xs z hl hx hr hz
  have hi : i < fs.size := by
    rcases Nat.lt_or_ge i fs.size with h | h
    · exact h
    · rw [Array.getElem?_eq_none h] at hf; cases hf
  have h1 := hr i f (Nat.le_refl _) hf
  have hxi : xs[i]? = some (xs[i]'(by omega)) := List.getElem?_eq_getElem (by omega)
  rw [hxi, ho, hc, List.take_of_length_le (by simp; omega)] at h1
  refine Nat.le_trans (h H enc W O n _ _ z h1 hz) (bulk_part ?_)
  exact List.mem_map.2 ⟨xs[i]'(by omega), by rw [List.drop_eq_getElem_cons (l := xs) (i := i) (by omega)]; exact List.mem_cons_self, rfl⟩
theorem bulk_cons {α β : Type} {P : Program} {fs : Array Field} {i off : Nat} {f : Field} {e : Enc α} {e' : Enc β} {m : α → Nat} {m' : β → Nat} (hf : fs[i]? = some f) (ho : f.offset = off) (hc : P.cellsOf f.type = e.n) (h : BulkOf P f.type e m)
    (hs : BulkFrom P fs (i + 1) (off + e.n) e' m') : BulkFrom P fs i off (ePair e e') (fun x => m x.1 + m' x.2) := by
  intro H enc W O n cs xs z hl hx hr hz
  have hl' : cs.length = off + (e.n + e'.n) := hl
  have hi : i < fs.size := by
    rcases Nat.lt_or_ge i fs.size with h | h
    · exact h
    · rw [Array.getElem?_eq_none h] at hf; cases hf
  have h1 := hr i f (Nat.le_refl _) hf
  have hxi : xs[i]? = some (xs[i]'(by omega)) := List.getElem?_eq_getElem (by omega)
  rw [hxi, ho, hc] at h1
  obtain ⟨c1, c2, e1, r1, r2⟩ := hz
  have hl1 := e.len r1
  rw [e1, List.take_left' hl1] at h1
  have b1 := h H enc W O n _ _ z.1 h1 r1
  have e2 : cs.drop (off + e.n) = c2 := by rw [← List.drop_drop, e1, List.drop_left' hl1]
  have b2 := hs H enc W O n cs xs z.2 (by omega) hx (fun j f hj => hr j f (by omega)) (by rw [e2]; exact r2)
  rw [List.drop_eq_getElem_cons (l := xs) (i := i) (by omega)]
  simp only [List.map_cons, Rows.uptoBulkAll]
  omega
theorem bulk_struct {α : Type} {P : Program} {t : TypeId} {fs : Array Field} {e : Enc α} {m : α → Nat} (ht : P.underlying t = some (.struct fs)) (hc : P.cellsOf t = e.n) (h : BulkFrom P fs 0 0 e m) : BulkOf P t e (fun z => m z + 1) := by
  intro H enc W O fuel cs x z hx hz
  obtain ⟨xs, n, _, rfl, hl, hlen, hr⟩ := DataW.trod_struct ht hx
  have := h H enc W O n cs xs z (by omega) hlen (fun j f _ hj => hr j f hj) (by simpa using hz)
  simp only [Rows.uptoBulk]
  simp only [List.drop_zero] at this
  omega
end Go.Proofs.YtmgkeippepeggaaGreatDoor
/- Chapter 09: things: how much they hold, as 'few' counts it. -/
namespace Go.Proofs.YtmgkeippepeggaaGreatDoor
open Go Go.SL Go.Lib
/-- A thing: its kind, N, S, L, P, Ps, Q. -/
abbrev It9 := Int × Int × ByteArray × List ByteArray × Pr9 × List Pr9 × Pt9
abbrev eIt : Enc It9 := ePair (eInt .i64) (ePair (eInt .i64) (ePair eStr (ePair (eSl eStr) (ePair ePr (ePair (eSl ePr) ePt)))))
def sumS (l : List ByteArray) : Nat := (l.map (·.size)).sum
def manyP (p : Pr9) : Nat := p.2.1.size + p.2.2.1.size + p.2.2.2.2.1.length + p.2.2.2.2.2.length + sumS p.2.2.2.2.1 + sumS p.2.2.2.2.2
def many3 (l : List Pr9) : Nat := l.length + (l.map manyP).sum
def many7 (q : Pt9) : Nat := 1 + q.2.1.size + q.2.2.1.length + many3 q.2.2.2
def fewI (x : It9) : Nat := x.2.2.1.size + (many3 x.2.2.2.2.2.1 + 1 + manyP x.2.2.2.2.1) + many7 x.2.2.2.2.2.2 + x.2.2.2.1.length + sumS x.2.2.2.1
def fewP (l : List It9) : Bool := decide (l.length ≤ 30) && decide ((l.map fewI).sum ≤ 8000)
/-- The slices of a thing. -/
structure ItV where
  lv : Value
  po : Value
  pw : Value
  ps : Value
  qd : Value
  ql : Value
abbrev itC (z : It9) (g : ItV) : List Value := [.int .i64 z.1, .int .i64 z.2.1, .string z.2.2.1, g.lv, .int .i64 z.2.2.2.2.1.1, .string z.2.2.2.2.1.2.1, .string z.2.2.2.2.1.2.2.1, .int .i64 z.2.2.2.2.1.2.2.2.1, g.po, g.pw, g.ps, .int .i64 z.2.2.2.2.2.2.1, .string z.2.2.2.2.2.2.2.1, g.qd, g.ql]
abbrev itL (z : It9) (g : ItV) : List A := [Sl eStr g.lv z.2.2.2.1, Sl eStr g.po z.2.2.2.2.1.2.2.2.2.1, Sl eStr g.pw z.2.2.2.2.1.2.2.2.2.2, Sl ePr g.ps z.2.2.2.2.2.1, Sl (eInt .i64) g.qd z.2.2.2.2.2.2.2.2.1, Sl ePr g.ql z.2.2.2.2.2.2.2.2.2]
theorem stars_dups {w : World} {O : Perm} : ∀ {L : List A}, (∀ a ∈ L, a.h w (fun b => min (O b) 1)) → Stars L w O
  | [], _ => trivial
  | a :: L, h => ⟨fun b => min (O b) 1, fun b => min (O b) 1, ⟨fun b => Nat.min_le_left _ _, fun b => Nat.min_le_left _ _, fun b k => absurd (Nat.le_trans k (Nat.min_le_right _ _)) (by decide), fun b k => absurd (Nat.le_trans k (Nat.min_le_right _ _)) (by decide)⟩, h a (by simp),
      stars_dups fun a ha => by
        have := h a (List.mem_cons_of_mem _ ha)
        have e : (fun b => min (min (O b) 1) 1) = fun b => min (O b) 1 := funext fun b => by omega
        rw [e]; exact this⟩
theorem it_open {z : It9} (w : World) (O : Perm) (c : List Value) (h : eIt.rd w O c z) : ∃ g : ItV, c = itC z g ∧ Stars (itL z g) w O := by
  obtain ⟨c1, d1, rfl, h1, c2, d2, rfl, h2, c3, d3, rfl, h3, c4, d4, rfl, ⟨lv, rfl, h4⟩, c5, d5, rfl, h5, c6, c7, rfl, ⟨ps, rfl, h6⟩, h7⟩ := h
  obtain ⟨e1, f1, rfl, k1, e2, f2, rfl, k2, e3, f3, rfl, k3, e4, f4, rfl, k4, e5, e6, rfl, ⟨po, rfl, k5⟩, pw, rfl, k6⟩ := h5
  obtain ⟨g1, i1, rfl, l1, g2, i2, rfl, l2, g3, g4, rfl, ⟨qd, rfl, l3⟩, ql, rfl, l4⟩ := h7
  have a1 : c1 = [.int .i64 z.1] := h1
  have a2 : c2 = [.int .i64 z.2.1] := h2
  have a3 : c3 = [.string z.2.2.1] := h3
  have a4 : e1 = [.int .i64 z.2.2.2.2.1.1] := k1
  have a5 : e2 = [.string z.2.2.2.2.1.2.1] := k2
  have a6 : e3 = [.string z.2.2.2.2.1.2.2.1] := k3
  have a7 : e4 = [.int .i64 z.2.2.2.2.1.2.2.2.1] := k4
  have a8 : g1 = [.int .i64 z.2.2.2.2.2.2.1] := l1
  have a9 : g2 = [.string z.2.2.2.2.2.2.2.1] := l2
  subst a1; subst a2; subst a3; subst a4; subst a5; subst a6; subst a7; subst a8; subst a9
  refine ⟨⟨lv, po, pw, ps, qd, ql⟩, rfl, stars_dups fun a ha => ?_⟩
  simp only [itL, List.mem_cons, List.not_mem_nil, or_false] at ha
  rcases ha with rfl | rfl | rfl | rfl | rfl | rfl
  · exact SlP.dup h4
  · exact SlP.dup k5
  · exact SlP.dup k6
  · exact SlP.dup h6
  · exact SlP.dup l3
  · exact SlP.dup l4
end Go.Proofs.YtmgkeippepeggaaGreatDoor
/- Chapter 09: few. -/
namespace Go.Proofs.YtmgkeippepeggaaGreatDoor
open Go Go.SL Go.Lib
theorem sum_take {α : Type} (f : α → Nat) {l : List α} {k : Nat} (hk : k < l.length) : ((l.take (k + 1)).map f).sum = ((l.take k).map f).sum + f l[k] := by
  rw [List.take_succ_eq_append_getElem hk, List.map_append, List.sum_append]; simp
theorem sum_le {α : Type} (f : α → Nat) (l : List α) (k : Nat) : ((l.take k).map f).sum ≤ (l.map f).sum := by
  have h : (l.map f).sum = ((l.take k).map f).sum + ((l.drop k).map f).sum := by rw [← List.sum_append, ← List.map_append, List.take_append_drop]
  omega
theorem sum_mem {α : Type} (f : α → Nat) {l : List α} {k : Nat} (hk : k < l.length) : ((l.take k).map f).sum + f l[k] ≤ (l.map f).sum := by
  rw [← sum_take f hk]; exact sum_le f l (k + 1)
theorem pt_open {z : Pt9} (w : World) (O : Perm) (c : List Value) (h : ePt.rd w O c z) : ∃ g : Value × Value, c = [.int .i64 z.1, .string z.2.1, g.1, g.2] ∧ Stars [Sl (eInt .i64) g.1 z.2.2.1, Sl ePr g.2 z.2.2.2] w O := by
  obtain ⟨g1, i1, rfl, l1, g2, i2, rfl, l2, g3, g4, rfl, ⟨qd, rfl, l3⟩, ql, rfl, l4⟩ := h
  have a8 : g1 = [.int .i64 z.1] := l1
  have a9 : g2 = [.string z.2.1] := l2
  subst a8; subst a9
  refine ⟨(qd, ql), rfl, stars_dups fun a ha => ?_⟩
  simp only [List.mem_cons, List.not_mem_nil, or_false] at ha
  rcases ha with rfl | rfl
  · exact SlP.dup l3
  · exact SlP.dup l4
theorem pt_close {z : Pt9} {dv lv : Value} (w : World) (O : Perm) (h : Stars [Sl (eInt .i64) dv z.2.2.1, Sl ePr lv z.2.2.2] w O) : ePt.rd w O [.int .i64 z.1, .string z.2.1, dv, lv] z := by
  obtain ⟨O1, O2, s1, h1, O3, O4, s2, h2, _⟩ := h
  exact ⟨[.int .i64 z.1], _, rfl, rfl, [.string z.2.1], _, rfl, rfl, [dv], [lv], rfl, ⟨dv, rfl, h1.mono fun b => s1.l b⟩, lv, rfl, h2.mono fun b => Nat.le_trans (s2.l b) (s1.r b)⟩
attribute [local irreducible] Cfg Kont StepK Val Con Qops Any Sl Own Blk BlkR Rd Pu ExA AllA Has Pick Ent Elem Beside Callable TI Lone OwnO AndA
/-- A struct in a struct in a block is read. -/
theorem v_load_sub {X : Cx} {env : Env} {L : List A} {x : Operand} {T : TypeId} {t : TypeId} {b off n : Nat} {bt : TypeId} {cs ds : List Value} {z0 : Value} {nb : Nat} (ht : ∃ fs, X.P.underlying t = some (.struct fs)) (hE : TI X.P t z0 n nb) (hx : env.eval x = some (.pointer (some ⟨b, off, none⟩)))
    (hb : Has L (BlkR b bt cs)) (hc : off + n ≤ cs.length) (hd : (cs.drop off).take n = ds) : Val X env L (.load t x) T (.agg ds.toArray) := by
  subst hd; exact v_load_blk_agg ht hE hx hb hc
set_option maxRecDepth 100000 in
theorem many3_con (v : Value) (l : List Pr9) (hl : many3 l ≤ 1000000000000) : Con Tryz.prog 41 [v] [Sl ePr v l] (γ := Unit) (fun _ => .int .i64 (many3 l)) (fun _ => True) (fun _ => []) := by
  have hm : many3 l = l.length + (l.map manyP).sum := rfl
  refine con_of Tryz.func41 rfl (dd rfl) fun w0 O0 => ?_
  refine c_seq ?_
  refine c_region ?_
  refine o_val (v_assign rfl) (dd rfl) ?_
  refine o_nil ?_
  refine c_seq ?_
  refine c_region ?_
  refine o_val (v_move rfl) (dd rfl) ?_
  refine o_val ((by first | exact v_len_form Tryz.underlying31 rfl | exact v_len_sl Tryz.underlying31 rfl (hX (by repeat constructor)))) (dd rfl) ?_
  refine o_val (v_assign rfl) (dd rfl) ?_
  refine o_nil ?_
  refine c_seq ?_
  refine c_seq ?_
  refine c_region ?_
  refine o_val (v_move rfl) (dd rfl) ?_
  refine o_val ((by first | exact v_len_form Tryz.underlying31 rfl | exact v_len_sl Tryz.underlying31 rfl (hX (by repeat constructor)))) (dd rfl) ?_
  refine o_val (v_move rfl) (dd rfl) ?_
  refine o_nil ?_
  refine c_block ?_
  refine c_loopR (γ := Nat) [(2, _), (12, _), (13, _)] (fun k => l.length - k) (fun k => k ≤ l.length) (fun k => [(14, .int .i64 k), (3, .int .i64 ((l.length + ((l.take k).map manyP).sum : Nat) : Int))]) (fun _ => [Sl ePr v l]) (0) (Nat.zero_le _) (by repeat (first | exact trivial | refine ⟨rfl, ?_⟩)) (eX (by repeat constructor)) ?_
  rintro k hk IH
  try dsimp only [List.cons_append, List.nil_append]
  refine c_seq ?_
  refine c_region ?_
  refine o_val (v_lt rfl rfl) (dd rfl) ?_
  refine o_nil ?_
  refine c_seq ?_
  refine c_cond_p rfl (fun hlt => ?_) (fun hlt => ?_)
  · have hk' : k < l.length := by omega
    have hsm := sum_mem manyP hk'
    have hst := sum_take manyP hk'
    have hmp : manyP l[k] = l[k].2.1.size + l[k].2.2.1.size + l[k].2.2.2.2.1.length + l[k].2.2.2.2.2.length + sumS l[k].2.2.2.2.1 + sumS l[k].2.2.2.2.2 := rfl
    obtain ⟨base, hbase⟩ : ∃ base, base = l.length + ((l.take k).map manyP).sum := ⟨_, rfl⟩
    rw [← hbase]
    refine c_skip ?_
    refine c_seq ?_
    refine c_block ?_
    refine c_seq ?_
    refine c_region ?_
    refine o_val ((by first | exact v_indexAddrN Tryz.underlying31 ti30 rfl rfl (hX (by repeat constructor)) (by omega) | exact v_indexAddr Tryz.underlying31 ti30 rfl rfl (hX (by repeat constructor)) (by omega))) (dd rfl) ?_
    refine o_step (s_load_shape ⟨_, Tryz.underlying30⟩ ti30 rfl (dd rfl) (by repeat (first|exact el1 (by omega)|exact el2 (by omega)|exact el3 (by omega)|apply Elem.there)) (pr_open) (fun g => ?_))
    refine o_step (s_alloc ti30 (dd rfl) (fun b5 => ?_))
    refine o_step (s_store_all ti30 rfl rfl (by first | exact CellsV.lit rfl | exact CellsV.one (by first | exact OneC.lit rfl | exact OneC.sl (hX (by repeat constructor)) )) (by repeat (first | exact OneAll.nil | (refine OneAll.cons ?_ ?_; · first | exact OneC.lit rfl | exact OneC.sl (hX (by repeat constructor)) ) | exact OneAll.rd (hX (by repeat constructor)))) rfl (pB (by repeat constructor)) rfl (?_))
    refine o_nil ?_
    refine c_seq ?_
    refine c_region ?_
    refine o_val (v_move rfl) (dd rfl) ?_
    refine o_val (v_fieldAddrC 1 Tryz.underlying30 rfl ti9 (by decide) rfl) (dd rfl) ?_
    refine o_val (v_load lone9 rfl (hX (by repeat constructor)) rfl) (dd rfl) ?_
    refine o_val (v_len_str Tryz.underlying9 rfl) (dd rfl) ?_
    refine o_val (v_fieldAddrC 2 Tryz.underlying30 rfl ti9 (by decide) rfl) (dd rfl) ?_
    refine o_val (v_load lone9 rfl (hX (by repeat constructor)) rfl) (dd rfl) ?_
    refine o_val (v_len_str Tryz.underlying9 rfl) (dd rfl) ?_
    refine o_val ((by first | exact v_add64 rfl rfl (by omega) | exact v_add rfl rfl)) (dd rfl) ?_
    refine o_val (v_fieldAddrC 4 Tryz.underlying30 rfl ti28 (by decide) rfl) (dd rfl) ?_
    refine o_val (v_load lone28 rfl (hX (by repeat constructor)) rfl) (dd rfl) ?_
    refine o_val ((by first | exact v_len_form Tryz.underlying28 rfl | exact v_len_sl Tryz.underlying28 rfl (hX (by repeat constructor)))) (dd rfl) ?_
    refine o_val ((by first | exact v_add64 rfl rfl (by omega) | exact v_add rfl rfl)) (dd rfl) ?_
    refine o_val (v_fieldAddrC 5 Tryz.underlying30 rfl ti28 (by decide) rfl) (dd rfl) ?_
    refine o_val (v_load lone28 rfl (hX (by repeat constructor)) rfl) (dd rfl) ?_
    refine o_val ((by first | exact v_len_form Tryz.underlying28 rfl | exact v_len_sl Tryz.underlying28 rfl (hX (by repeat constructor)))) (dd rfl) ?_
    refine o_val ((by first | exact v_add64 rfl rfl (by omega) | exact v_add rfl rfl)) (dd rfl) ?_
    refine o_val ((by first | exact v_add64 rfl rfl (by omega) | exact v_add rfl rfl)) (dd rfl) ?_
    refine o_val (v_assign rfl) (dd rfl) ?_
    refine o_nil ?_
    refine c_seq ?_
    refine c_seq ?_
    refine c_region ?_
    refine o_val (v_fieldAddrC 4 Tryz.underlying30 rfl ti28 (by decide) rfl) (dd rfl) ?_
    refine o_val (v_load lone28 rfl (hX (by repeat constructor)) rfl) (dd rfl) ?_
    refine o_val ((by first | exact v_len_form Tryz.underlying28 rfl | exact v_len_sl Tryz.underlying28 rfl (hX (by repeat constructor)))) (dd rfl) ?_
    refine o_val (v_move rfl) (dd rfl) ?_
    refine o_nil ?_
    refine c_block ?_
    have h0 : ∀ l : List ByteArray, ((sumS (l.take 0) : Nat) : Int) = 0 := fun l => by simp [sumS]
    obtain ⟨acc, hacc⟩ : ∃ acc : Int, acc = (base : Int) + ((l[k].2.1.size : Int) + l[k].2.2.1.size + l[k].2.2.2.2.1.length + l[k].2.2.2.2.2.length) := ⟨_, rfl⟩
    have hac0 : (base : Int) + ((l[k].2.1.size : Int) + l[k].2.2.1.size + l[k].2.2.2.2.1.length + l[k].2.2.2.2.2.length) = acc + ((sumS (l[k].2.2.2.2.1.take 0) : Nat) : Int) := by rw [h0, hacc]; omega
    rw [hac0]
    refine c_loopR (γ := Nat) [(2, _), (5, _), (12, _), (13, _), (14, _), (15, _), (16, _), (17, _), (18, _), (19, _), (20, _), (21, _), (22, _), (23, _), (24, _), (25, _), (26, _), (27, _), (28, _), (29, _), (30, _), (31, _), (32, _), (33, _), (34, _), (35, _), (36, _), (37, _)] (fun j => l[k].2.2.2.2.1.length - j) (fun j => j ≤ l[k].2.2.2.2.1.length) (fun j => [(38, .int .i64 j), (3, .int .i64 (acc + ((sumS (l[k].2.2.2.2.1.take j) : Nat) : Int)))]) (fun _ => [Blk b5 30 [.int .i64 l[k].1, .string l[k].2.1, .string l[k].2.2.1, .int .i64 l[k].2.2.2.1, g.1, g.2], Sl eStr g.1 l[k].2.2.2.2.1, Sl eStr g.2 l[k].2.2.2.2.2, Sl ePr v l]) (0) (Nat.zero_le _) (by repeat (first | exact trivial | refine ⟨rfl, ?_⟩)) (eX (by repeat constructor)) ?_
    rintro j hj IH2
    have hsj := sum_le (fun s : ByteArray => s.size) l[k].2.2.2.2.1 j
    try dsimp only [List.cons_append, List.nil_append]
    refine c_seq ?_
    refine c_region ?_
    refine o_val (v_lt rfl rfl) (dd rfl) ?_
    refine o_nil ?_
    refine c_seq ?_
    refine c_cond_p rfl (fun hj2 => ?_) (fun hj2 => ?_)
    · have hjl : j < l[k].2.2.2.2.1.length := by omega
      have hsn : sumS (l[k].2.2.2.2.1.take (j + 1)) = sumS (l[k].2.2.2.2.1.take j) + l[k].2.2.2.2.1[j].size := sum_take (fun s : ByteArray => s.size) hjl
      have hsj2 := sum_le (fun s : ByteArray => s.size) l[k].2.2.2.2.1 (j + 1)
      unfold sumS at *
      refine c_skip ?_
      refine c_seq ?_
      refine c_block ?_
      refine c_seq ?_
      refine c_region ?_
      refine o_val ((by first | exact v_indexAddrN Tryz.underlying28 ti9 rfl rfl (hX (by repeat constructor)) (by omega) | exact v_indexAddr Tryz.underlying28 ti9 rfl rfl (hX (by repeat constructor)) (by omega))) (dd rfl) ?_
      refine o_val (v_load_str lone9 rfl (by repeat (first | exact Elem.sl (List.getElem?_eq_getElem (by omega)) | exact Elem.own (List.getElem?_eq_getElem (by omega)) | exact Elem.ownO (List.getElem?_eq_getElem (by omega)) | apply Elem.there))) (dd rfl) ?_
      refine o_val (v_assign rfl) (dd rfl) ?_
      refine o_nil ?_
      refine c_region ?_
      refine o_val (v_move rfl) (dd rfl) ?_
      refine o_val (v_move rfl) (dd rfl) ?_
      refine o_val (v_len_str Tryz.underlying9 rfl) (dd rfl) ?_
      refine o_val ((by first | exact v_add64 rfl rfl (by omega) | exact v_add rfl rfl)) (dd rfl) ?_
      refine o_val (v_assign rfl) (dd rfl) ?_
      refine o_nil ?_
      refine c_inBlock ?_
      refine c_region ?_
      refine o_val ((by first | exact v_add64 rfl rfl (by omega) | exact v_add rfl rfl)) (dd rfl) ?_
      refine o_val (v_move rfl) (dd rfl) ?_
      refine o_nil ?_
      rw [Int.add_assoc acc, ← Int.natCast_add, ← hsn]
      refine c_use (IH2 (j + 1) (by first | omega | (dsimp only; omega)) (by omega)) (by repeat (first | exact trivial | refine ⟨rfl, ?_⟩)) (eX (by repeat constructor))
    · rw [List.take_of_length_le (l := l[k].2.2.2.2.1) (i := j) (by omega)]
      refine c_exit rfl ?_
      refine c_seq ?_
      refine c_region ?_
      refine o_val (v_fieldAddrC 5 Tryz.underlying30 rfl ti28 (by decide) rfl) (dd rfl) ?_
      refine o_val (v_load lone28 rfl (hX (by repeat constructor)) rfl) (dd rfl) ?_
      refine o_val ((by first | exact v_len_form Tryz.underlying28 rfl | exact v_len_sl Tryz.underlying28 rfl (hX (by repeat constructor)))) (dd rfl) ?_
      refine o_val (v_move rfl) (dd rfl) ?_
      refine o_nil ?_
      refine c_block ?_
      have hac1 : acc + ((sumS l[k].2.2.2.2.1 : Nat) : Int) = (acc + ((sumS l[k].2.2.2.2.1 : Nat) : Int)) + ((sumS (l[k].2.2.2.2.2.take 0) : Nat) : Int) := by rw [h0]; omega
      rw [hac1]
      obtain ⟨acc2, hacc2⟩ : ∃ x : Int, x = acc + ((sumS l[k].2.2.2.2.1 : Nat) : Int) := ⟨_, rfl⟩
      rw [← hacc2]
      refine c_loopR (γ := Nat) [(2, _), (5, _), (12, _), (13, _), (14, _), (15, _), (16, _), (17, _), (18, _), (19, _), (20, _), (21, _), (22, _), (23, _), (24, _), (25, _), (26, _), (27, _), (28, _), (29, _), (30, _), (31, _), (32, _), (33, _), (34, _), (35, _), (36, _), (37, _), (38, _), (39, _), (47, _), (48, _), (49, _)] (fun j => l[k].2.2.2.2.2.length - j) (fun j => j ≤ l[k].2.2.2.2.2.length) (fun j => [(50, .int .i64 j), (3, .int .i64 (acc2 + ((sumS (l[k].2.2.2.2.2.take j) : Nat) : Int)))]) (fun _ => [Blk b5 30 [.int .i64 l[k].1, .string l[k].2.1, .string l[k].2.2.1, .int .i64 l[k].2.2.2.1, g.1, g.2], Sl eStr g.2 l[k].2.2.2.2.2, Sl ePr v l]) (0) (Nat.zero_le _) (by repeat (first | exact trivial | refine ⟨rfl, ?_⟩)) (eX (by repeat constructor)) ?_
      rintro j hj IH3
      have hsj := sum_le (fun s : ByteArray => s.size) l[k].2.2.2.2.2 j
      try dsimp only [List.cons_append, List.nil_append]
      refine c_seq ?_
      refine c_region ?_
      refine o_val (v_lt rfl rfl) (dd rfl) ?_
      refine o_nil ?_
      refine c_seq ?_
      refine c_cond_p rfl (fun hj2 => ?_) (fun hj2 => ?_)
      · have hjl : j < l[k].2.2.2.2.2.length := by omega
        have hsn : sumS (l[k].2.2.2.2.2.take (j + 1)) = sumS (l[k].2.2.2.2.2.take j) + l[k].2.2.2.2.2[j].size := sum_take (fun s : ByteArray => s.size) hjl
        have hsj2 := sum_le (fun s : ByteArray => s.size) l[k].2.2.2.2.2 (j + 1)
        unfold sumS at *
        refine c_skip ?_
        refine c_seq ?_
        refine c_block ?_
        refine c_seq ?_
        refine c_region ?_
        refine o_val ((by first | exact v_indexAddrN Tryz.underlying28 ti9 rfl rfl (hX (by repeat constructor)) (by omega) | exact v_indexAddr Tryz.underlying28 ti9 rfl rfl (hX (by repeat constructor)) (by omega))) (dd rfl) ?_
        refine o_val (v_load_str lone9 rfl (by repeat (first | exact Elem.sl (List.getElem?_eq_getElem (by omega)) | exact Elem.own (List.getElem?_eq_getElem (by omega)) | exact Elem.ownO (List.getElem?_eq_getElem (by omega)) | apply Elem.there))) (dd rfl) ?_
        refine o_val (v_assign rfl) (dd rfl) ?_
        refine o_nil ?_
        refine c_region ?_
        refine o_val (v_move rfl) (dd rfl) ?_
        refine o_val (v_move rfl) (dd rfl) ?_
        refine o_val (v_len_str Tryz.underlying9 rfl) (dd rfl) ?_
        refine o_val ((by first | exact v_add64 rfl rfl (by omega) | exact v_add rfl rfl)) (dd rfl) ?_
        refine o_val (v_assign rfl) (dd rfl) ?_
        refine o_nil ?_
        refine c_inBlock ?_
        refine c_region ?_
        refine o_val ((by first | exact v_add64 rfl rfl (by omega) | exact v_add rfl rfl)) (dd rfl) ?_
        refine o_val (v_move rfl) (dd rfl) ?_
        refine o_nil ?_
        rw [Int.add_assoc acc2, ← Int.natCast_add, ← hsn]
        refine c_use (IH3 (j + 1) (by first | omega | (dsimp only; omega)) (by omega)) (by repeat (first | exact trivial | refine ⟨rfl, ?_⟩)) (eX (by repeat constructor))
      · rw [List.take_of_length_le (l := l[k].2.2.2.2.2) (i := j) (by omega)]
        refine c_exit rfl ?_
        refine c_inBlock ?_
        refine c_region ?_
        refine o_val ((by first | exact v_add64 rfl rfl (by omega) | exact v_add rfl rfl)) (dd rfl) ?_
        refine o_val (v_move rfl) (dd rfl) ?_
        refine o_nil ?_
        have hfin : acc2 + ((sumS l[k].2.2.2.2.2 : Nat) : Int) = ((l.length + ((l.take (k + 1)).map manyP).sum : Nat) : Int) := by rw [hst]; omega
        rw [hfin]
        refine c_use (IH (k + 1) (by first | omega | (dsimp only; omega)) (by omega)) (by repeat (first | exact trivial | refine ⟨rfl, ?_⟩)) (eX (by repeat constructor))
  · refine c_exit rfl ?_
    refine c_seq ?_
    refine c_region ?_
    refine o_val (v_move rfl) (dd rfl) ?_
    refine o_val (v_assign rfl) (dd rfl) ?_
    refine o_nil ?_
    refine c_ret1 Tryz.func41 rfl rfl fun w O hS => ?_
    exact ⟨(), by rw [hm, List.take_of_length_le (by omega)], trivial, trivial⟩
set_option maxRecDepth 100000 in
theorem many7_con (v : Value) (q : Pt9) (hq : many7 q ≤ 1000000000000) : Con Tryz.prog 42 [v] [Sl ePt v [q]] (γ := Unit) (fun _ => .int .i64 (many7 q)) (fun _ => True) (fun _ => []) := by
  have hm : many7 q = 1 + q.2.1.size + q.2.2.1.length + many3 q.2.2.2 := rfl
  have h3 := fun v => many3_con v q.2.2.2 (by omega)
  refine con_of Tryz.func42 rfl (dd rfl) fun w0 O0 => ?_
  refine c_seq ?_
  refine c_region ?_
  refine o_val (v_assign rfl) (dd rfl) ?_
  refine o_nil ?_
  refine c_seq ?_
  refine c_region ?_
  refine o_val (v_assign rfl) (dd rfl) ?_
  refine o_nil ?_
  refine c_seq ?_
  refine c_seq ?_
  refine c_region ?_
  refine o_val (v_move rfl) (dd rfl) ?_
  refine o_val ((by first | exact v_len_form Tryz.underlying81 rfl | exact v_len_sl Tryz.underlying81 rfl (hX (by repeat constructor)))) (dd rfl) ?_
  refine o_val (v_move rfl) (dd rfl) ?_
  refine o_nil ?_
  refine c_block ?_
  refine c_loopR (γ := Nat) [(2, _), (6, _), (7, _)] (fun k => 1 - k) (fun k => k ≤ 1) (fun k => [(8, .int .i64 k), (3, .int .i64 (if k = 0 then 0 else many7 q))]) (fun _ => [Sl ePt v [q]]) (0) (Nat.zero_le _) (by repeat (first | exact trivial | refine ⟨rfl, ?_⟩)) (eX (by repeat constructor)) ?_
  rintro k hk IH
  try dsimp only [List.cons_append, List.nil_append]
  refine c_seq ?_
  refine c_region ?_
  refine o_val (v_lt rfl rfl) (dd rfl) ?_
  refine o_nil ?_
  refine c_seq ?_
  refine c_cond_p rfl (fun hlt => ?_) (fun hlt => ?_)
  · have hk0 : k = 0 := by have : ((([q] : List Pt9).length : Nat) : Int) = 1 := rfl; omega
    subst hk0
    refine c_skip ?_
    refine c_seq ?_
    refine c_block ?_
    refine c_seq ?_
    refine c_region ?_
    refine o_val ((by first | exact v_indexAddrN Tryz.underlying81 ti34 rfl rfl (hX (by repeat constructor)) (by omega) | exact v_indexAddr Tryz.underlying81 ti34 rfl rfl (hX (by repeat constructor)) (by omega))) (dd rfl) ?_
    refine o_step (s_load_shape ⟨_, Tryz.underlying34⟩ ti34 rfl (dd rfl) (by repeat (first|exact el1 (by omega)|exact el2 (by omega)|exact el3 (by omega)|apply Elem.there)) (pt_open) (fun g => ?_))
    refine o_step (s_alloc ti34 (dd rfl) (fun b5 => ?_))
    refine o_step (s_store_all ti34 rfl rfl (by first | exact CellsV.lit rfl | exact CellsV.one (by first | exact OneC.lit rfl | exact OneC.sl (hX (by repeat constructor)) )) (by repeat (first | exact OneAll.nil | (refine OneAll.cons ?_ ?_; · first | exact OneC.lit rfl | exact OneC.sl (hX (by repeat constructor)) ) | exact OneAll.rd (hX (by repeat constructor)))) rfl (pB (by repeat constructor)) rfl (?_))
    refine o_nil ?_
    refine c_held [BlkR b5 34 [.int .i64 q.1, .string q.2.1, g.1, g.2], Sl (eInt .i64) g.1 q.2.2.1, Sl ePr g.2 q.2.2.2] rfl ?_
    refine a_take 0 rfl (by kernel_rfl) (by kernel_rfl) (by kernel_rfl) (v_move rfl) (eX (by repeat constructor)) (dd rfl) ?_
    refine a_take 1 rfl (by kernel_rfl) (by kernel_rfl) (by kernel_rfl) (v_fieldAddrC 1 Tryz.underlying34 rfl ti9 (by decide) rfl) (eX (by repeat constructor)) (dd rfl) ?_
    refine a_take 2 rfl (by kernel_rfl) (by kernel_rfl) (by kernel_rfl) (v_load lone9 rfl (hX (by repeat constructor)) rfl) (eX (by repeat constructor)) (dd rfl) ?_
    refine a_take 3 rfl (by kernel_rfl) (by kernel_rfl) (by kernel_rfl) (v_len_str Tryz.underlying9 rfl) (eX (by repeat constructor)) (dd rfl) ?_
    refine a_take 4 rfl (by kernel_rfl) (by kernel_rfl) (by kernel_rfl) ((by first | exact v_add64 rfl rfl (by omega) | exact v_add rfl rfl)) (eX (by repeat constructor)) (dd rfl) ?_
    refine a_take 5 rfl (by kernel_rfl) (by kernel_rfl) (by kernel_rfl) (v_fieldAddrC 2 Tryz.underlying34 rfl ti32 (by decide) rfl) (eX (by repeat constructor)) (dd rfl) ?_
    refine a_take 6 rfl (by kernel_rfl) (by kernel_rfl) (by kernel_rfl) (v_load lone32 rfl (hX (by repeat constructor)) rfl) (eX (by repeat constructor)) (dd rfl) ?_
    refine a_take 7 rfl (by kernel_rfl) (by kernel_rfl) (by kernel_rfl) ((by first | exact v_len_form Tryz.underlying32 rfl | exact v_len_sl Tryz.underlying32 rfl (hX (by repeat constructor)))) (eX (by repeat constructor)) (dd rfl) ?_
    refine a_take 8 rfl (by kernel_rfl) (by kernel_rfl) (by kernel_rfl) ((by first | exact v_add64 rfl rfl (by omega) | exact v_add rfl rfl)) (eX (by repeat constructor)) (dd rfl) ?_
    refine a_take 9 rfl (by kernel_rfl) (by kernel_rfl) (by kernel_rfl) (v_fieldAddrC 3 Tryz.underlying34 rfl ti31 (by decide) rfl) (eX (by repeat constructor)) (dd rfl) ?_
    refine a_take 10 rfl (by kernel_rfl) (by kernel_rfl) (by kernel_rfl) (v_load lone31 rfl (hX (by repeat constructor)) rfl) (eX (by repeat constructor)) (dd rfl) ?_
    refine a_one 11 rfl (by kernel_rfl) (s_callf_keep cl41 (h3 g.2) rfl (dd rfl) (rX (by repeat constructor)) (fun _ => sX) (fun _ _ => a_on (eX (by repeat constructor)) ?_))
    refine a_take 12 rfl (by kernel_rfl) (by kernel_rfl) (by kernel_rfl) ((by first | exact v_add64 rfl rfl (by omega) | exact v_add rfl rfl)) (eX (by repeat constructor)) (dd rfl) ?_
    refine a_take 13 rfl (by kernel_rfl) (by kernel_rfl) (by kernel_rfl) ((by first | exact v_add64 rfl rfl (by omega) | exact v_add rfl rfl)) (eX (by repeat constructor)) (dd rfl) ?_
    refine a_take 14 rfl (by kernel_rfl) (by kernel_rfl) (by kernel_rfl) (v_assign rfl) (eX (by repeat constructor)) (dd rfl) ?_
    refine a_done (by kernel_rfl) ?_ _
    refine c_inBlock ?_
    refine c_region ?_
    refine o_val ((by first | exact v_add64 rfl rfl (by omega) | exact v_add rfl rfl)) (dd rfl) ?_
    refine o_val (v_move rfl) (dd rfl) ?_
    refine o_nil ?_
    have hfin : (if 0 = 0 then (0 : Int) else (many7 q : Int)) + (1 + (q.2.1.size : Int) + (q.2.2.1.length : Int) + (many3 q.2.2.2 : Int)) = (if 1 = 0 then (0 : Int) else (many7 q : Int)) := by simp; omega
    rw [hfin]
    refine c_use (IH (1) (by first | omega | (dsimp only; omega)) (by omega)) (by repeat (first | exact trivial | refine ⟨rfl, ?_⟩)) (eX (by repeat constructor))
  · have hk1 : k = 1 := by have : ((([q] : List Pt9).length : Nat) : Int) = 1 := rfl; omega
    subst hk1
    refine c_exit rfl ?_
    refine c_seq ?_
    refine c_region ?_
    refine o_val (v_move rfl) (dd rfl) ?_
    refine o_val (v_assign rfl) (dd rfl) ?_
    refine o_nil ?_
    refine c_ret1 Tryz.func42 rfl rfl fun w O hS => ?_
    exact ⟨(), rfl, trivial, trivial⟩
/-- The inner structs of a thing. -/
abbrev itP (z : It9) (g : ItV) : List Value := [.int .i64 z.2.2.2.2.1.1, .string z.2.2.2.2.1.2.1, .string z.2.2.2.2.1.2.2.1, .int .i64 z.2.2.2.2.1.2.2.2.1, g.po, g.pw]
abbrev itQ (z : It9) (g : ItV) : List Value := [.int .i64 z.2.2.2.2.2.2.1, .string z.2.2.2.2.2.2.2.1, g.qd, g.ql]
theorem fewI_le {l : List It9} {k : Nat} (hk : k < l.length) : ((l.take (k + 1)).map fewI).sum = ((l.take k).map fewI).sum + fewI l[k] := sum_take fewI hk
set_option maxRecDepth 100000 in
theorem few_con (v : Value) (l : List It9) (hl : (l.map fewI).sum ≤ 1000000000000) (hll : l.length ≤ 1000000000000) : Con Tryz.prog 9 [v] [Sl eIt v l] (γ := Unit) (fun _ => .bool (fewP l)) (fun _ => True) (fun _ => []) := by
  refine con_of Tryz.func9 rfl (dd rfl) fun w0 O0 => ?_
  refine c_seq ?_
  refine c_region ?_
  refine o_val (v_assign rfl) (dd rfl) ?_
  refine o_nil ?_
  refine c_seq ?_
  refine c_region ?_
  refine o_val (v_assign rfl) (dd rfl) ?_
  refine o_nil ?_
  refine c_seq ?_
  refine c_seq ?_
  refine c_region ?_
  refine o_val (v_move rfl) (dd rfl) ?_
  refine o_val ((by first | exact v_len_form Tryz.underlying22 rfl | exact v_len_sl Tryz.underlying22 rfl (hX (by repeat constructor)))) (dd rfl) ?_
  refine o_val (v_move rfl) (dd rfl) ?_
  refine o_nil ?_
  refine c_block ?_
  refine c_loopR (γ := Nat) [(0, _), (2, _), (8, _), (9, _)] (fun k => l.length - k) (fun k => k ≤ l.length) (fun k => [(10, .int .i64 k), (3, .int .i64 ((((l.take k).map fewI).sum : Nat) : Int))]) (fun _ => [Sl eIt v l]) (0) (Nat.zero_le _) (by repeat (first | exact trivial | refine ⟨rfl, ?_⟩)) (eX (by repeat constructor)) ?_
  rintro k hk IH
  try dsimp only [List.cons_append, List.nil_append]
  refine c_seq ?_
  refine c_region ?_
  refine o_val (v_lt rfl rfl) (dd rfl) ?_
  refine o_nil ?_
  refine c_seq ?_
  refine c_cond_p rfl (fun hlt => ?_) (fun hlt => ?_)
  · have hk' : k < l.length := by omega
    have hsm := sum_mem fewI hk'
    have hst := sum_take fewI hk'
    have h3 : many3 (l[k].2.2.2.2.2.1 ++ [l[k].2.2.2.2.1]) = many3 l[k].2.2.2.2.2.1 + 1 + manyP l[k].2.2.2.2.1 := by
      unfold many3; simp; omega
    obtain ⟨acc, hacc⟩ : ∃ acc : Int, acc = (((l.take k).map fewI).sum : Nat) + ((l[k].2.2.1.size : Int) + (many3 (l[k].2.2.2.2.2.1 ++ [l[k].2.2.2.2.1]) : Nat) + (many7 l[k].2.2.2.2.2.2 : Nat) + l[k].2.2.2.1.length) := ⟨_, rfl⟩
    have hfin : (((l.take k).map fewI).sum : Nat) + ((l[k].2.2.1.size : Int) + (many3 (l[k].2.2.2.2.2.1 ++ [l[k].2.2.2.2.1]) : Nat) + (many7 l[k].2.2.2.2.2.2 : Nat) + l[k].2.2.2.1.length) = acc + ((sumS (l[k].2.2.2.1.take 0) : Nat) : Int) := by rw [hacc]; simp [sumS]
    have hlen : l[k].2.2.2.2.2.1.length ≤ many3 l[k].2.2.2.2.2.1 := by unfold many3; omega
    have hfI : fewI l[k] = l[k].2.2.1.size + (many3 l[k].2.2.2.2.2.1 + 1 + manyP l[k].2.2.2.2.1) + many7 l[k].2.2.2.2.2.2 + l[k].2.2.2.1.length + sumS l[k].2.2.2.1 := rfl
    have hfin2 : acc + ((sumS l[k].2.2.2.1 : Nat) : Int) = ((((l.take (k + 1)).map fewI).sum : Nat) : Int) := by rw [hacc, hst, hfI, h3]; omega
    refine c_skip ?_
    refine c_seq ?_
    refine c_block ?_
    refine c_seq ?_
    refine c_region ?_
    refine o_val ((by first | exact v_indexAddrN Tryz.underlying22 ti36 rfl rfl (hX (by repeat constructor)) (by omega) | exact v_indexAddr Tryz.underlying22 ti36 rfl rfl (hX (by repeat constructor)) (by omega))) (dd rfl) ?_
    refine o_step (s_load_shape ⟨_, Tryz.underlying36⟩ ti36 rfl (dd rfl) (by repeat (first|exact el1 (by omega)|exact el2 (by omega)|exact el3 (by omega)|apply Elem.there)) (it_open) (fun g => ?_))
    refine o_step (s_alloc ti36 (dd rfl) (fun b5 => ?_))
    refine o_step (s_store_all ti36 rfl rfl (by first | exact CellsV.lit rfl | exact CellsV.one (by first | exact OneC.lit rfl | exact OneC.sl (hX (by repeat constructor)) )) (by repeat (first | exact OneAll.nil | (refine OneAll.cons ?_ ?_; · first | exact OneC.lit rfl | exact OneC.sl (hX (by repeat constructor)) ) | exact OneAll.rd (hX (by repeat constructor)))) rfl (pB (by repeat constructor)) rfl (?_))
    refine o_nil ?_
    refine c_seq ?_
    obtain ⟨lv, po, pw, ps, qd, ql⟩ := g
    dsimp only [itC, itL, List.cons_append, List.nil_append]
    refine c_fact (a := Sl _ ps l[k].2.2.2.2.2.1) (hX (by repeat constructor)) (fun _ _ h => Sl.form h) ?_
    rintro ⟨a0, c0, rfl, hc0, -⟩
    refine c_ent (Ent.share (pX (by repeat constructor)) (Sl.isDup ePr (.slice a0 l[k].2.2.2.2.2.1.length c0) l[k].2.2.2.2.2.1) fun _ _ h => Sl.apdCut (E := 30) (k := l[k].2.2.2.2.2.1.length) h (Nat.le_refl _) hc0) ?_
    rw [List.take_of_length_le (Nat.le_refl _)]
    refine c_held [BlkR b5 36 (itC l[k] ⟨lv, po, pw, .slice a0 l[k].2.2.2.2.2.1.length c0, qd, ql⟩), Sl eStr lv l[k].2.2.2.1, Sl eStr po l[k].2.2.2.2.1.2.2.2.2.1, Sl eStr pw l[k].2.2.2.2.1.2.2.2.2.2, Sl ePr (.slice a0 l[k].2.2.2.2.2.1.length c0) l[k].2.2.2.2.2.1, Sl (eInt .i64) qd l[k].2.2.2.2.2.2.2.2.1, Sl ePr ql l[k].2.2.2.2.2.2.2.2.2] rfl ?_
    refine a_take 0 rfl (by kernel_rfl) (by kernel_rfl) (by kernel_rfl) (v_move rfl) (eX (by repeat constructor)) (dd rfl) ?_
    refine a_take 1 rfl (by kernel_rfl) (by kernel_rfl) (by kernel_rfl) (v_fieldAddrC 2 Tryz.underlying36 rfl ti9 (by decide) rfl) (eX (by repeat constructor)) (dd rfl) ?_
    refine a_take 2 rfl (by kernel_rfl) (by kernel_rfl) (by kernel_rfl) (v_load lone9 rfl (hX (by repeat constructor)) rfl) (eX (by repeat constructor)) (dd rfl) ?_
    refine a_take 3 rfl (by kernel_rfl) (by kernel_rfl) (by kernel_rfl) (v_len_str Tryz.underlying9 rfl) (eX (by repeat constructor)) (dd rfl) ?_
    refine a_take 4 rfl (by kernel_rfl) (by kernel_rfl) (by kernel_rfl) (v_fieldAddrC 10 Tryz.underlying36 rfl ti31 (by decide) rfl) (eX (by repeat constructor)) (dd rfl) ?_
    refine a_take 5 rfl (by kernel_rfl) (by kernel_rfl) (by kernel_rfl) (v_load lone31 rfl (hX (by repeat constructor)) rfl) (eX (by repeat constructor)) (dd rfl) ?_
    refine a_take 6 rfl (by kernel_rfl) (by kernel_rfl) (by kernel_rfl) (v_fieldAddrC 10 Tryz.underlying36 rfl ti31 (by decide) rfl) (eX (by repeat constructor)) (dd rfl) ?_
    refine a_take 7 rfl (by kernel_rfl) (by kernel_rfl) (by kernel_rfl) (v_load lone31 rfl (hX (by repeat constructor)) rfl) (eX (by repeat constructor)) (dd rfl) ?_
    refine a_take 8 rfl (by kernel_rfl) (by kernel_rfl) (by kernel_rfl) ((by first | exact v_len_form Tryz.underlying31 rfl | exact v_len_sl Tryz.underlying31 rfl (hX (by repeat constructor)))) (eX (by repeat constructor)) (dd rfl) ?_
    refine a_take 9 rfl (by kernel_rfl) (by kernel_rfl) (by kernel_rfl) (v_fieldAddrC 10 Tryz.underlying36 rfl ti31 (by decide) rfl) (eX (by repeat constructor)) (dd rfl) ?_
    refine a_take 10 rfl (by kernel_rfl) (by kernel_rfl) (by kernel_rfl) (v_load lone31 rfl (hX (by repeat constructor)) rfl) (eX (by repeat constructor)) (dd rfl) ?_
    refine a_take 11 rfl (by kernel_rfl) (by kernel_rfl) (by kernel_rfl) ((by first | exact v_len_form Tryz.underlying31 rfl | exact v_len_sl Tryz.underlying31 rfl (hX (by repeat constructor)))) (eX (by repeat constructor)) (dd rfl) ?_
    refine a_take 12 rfl (by kernel_rfl) (by kernel_rfl) (by kernel_rfl) (v_slice Tryz.underlying31 ti30 rfl (.inl ⟨rfl, rfl⟩) (.inr ⟨_, _, _, rfl, rfl, by omega, rfl⟩) (.inr ⟨_, _, _, rfl, rfl, by omega, rfl⟩) (by omega) (by omega) (by omega)) (eX (by repeat constructor)) (dd rfl) ?_
    refine a_take 13 rfl (by kernel_rfl) (by kernel_rfl) (by kernel_rfl) (v_fieldAddrC 4 Tryz.underlying36 rfl ti30 (by decide) rfl) (eX (by repeat constructor)) (dd rfl) ?_
    refine a_take 19 rfl (by kernel_rfl) (by kernel_rfl) (by kernel_rfl) (v_fieldAddrC 11 Tryz.underlying36 rfl ti34 (by decide) rfl) (eX (by repeat constructor)) (dd rfl) ?_
    refine a_take 24 rfl (by kernel_rfl) (by kernel_rfl) (by kernel_rfl) (v_fieldAddrC 3 Tryz.underlying36 rfl ti28 (by decide) rfl) (eX (by repeat constructor)) (dd rfl) ?_
    refine a_take 25 rfl (by kernel_rfl) (by kernel_rfl) (by kernel_rfl) (v_load lone28 rfl (hX (by repeat constructor)) rfl) (eX (by repeat constructor)) (dd rfl) ?_
    refine a_take 26 rfl (by kernel_rfl) (by kernel_rfl) (by kernel_rfl) ((by first | exact v_len_form Tryz.underlying28 rfl | exact v_len_sl Tryz.underlying28 rfl (hX (by repeat constructor)))) (eX (by repeat constructor)) (dd rfl) ?_
    refine a_take 14 rfl (by kernel_rfl) (by kernel_rfl) (by kernel_rfl) (v_load_sub (ds := [.int .i64 l[k].2.2.2.2.1.1, .string l[k].2.2.2.2.1.2.1, .string l[k].2.2.2.2.1.2.2.1, .int .i64 l[k].2.2.2.2.1.2.2.2.1, po, pw]) ⟨_, Tryz.underlying30⟩ ti30 rfl (hX (by repeat constructor)) (by simp) rfl) (eX (by repeat constructor)) (dd rfl) ?_
    refine a_take 20 rfl (by kernel_rfl) (by kernel_rfl) (by kernel_rfl) (v_load_sub (ds := [.int .i64 l[k].2.2.2.2.2.2.1, .string l[k].2.2.2.2.2.2.2.1, qd, ql]) ⟨_, Tryz.underlying34⟩ ti34 rfl (hX (by repeat constructor)) (by simp) rfl) (eX (by repeat constructor)) (dd rfl) ?_
    refine a_two 15 21 rfl rfl (by kernel_rfl) ?_ ?_
    · skip
      refine s_buildSlice Tryz.underlying31 ti30 rfl rfl rfl (by decide) (by decide) (beside_agg1 (beside_of (Lp := [Sl eStr po l[k].2.2.2.2.1.2.2.2.2.1, Sl eStr pw l[k].2.2.2.2.1.2.2.2.2.2]) (pXs (by repeat constructor)) fun w O => pr_close (z := l[k].2.2.2.2.1) w O)) rfl rfl (dd rfl) (fun v1 => a_on (eX (by repeat constructor)) ?_)
      refine a_two 16 21 rfl rfl (by kernel_rfl) ?_ ?_
      · skip
        refine s_append_apd Tryz.underlying31 ti30 rfl (by decide) rfl rfl (dd rfl) (pB (by repeat constructor)) (pX (by repeat constructor)) rfl (by (first | omega | (simp only [maxLen, List.length_append, List.length_drop, List.length_take, List.length_nil, List.length_cons]; omega))) (by (first | omega | (simp only [maxLen, List.length_append, List.length_drop, List.length_take, List.length_nil, List.length_cons]; omega))) (fun v2 => a_on (eX (by repeat constructor)) ?_)
        refine a_two 17 21 rfl rfl (by kernel_rfl) ?_ ?_
        · skip
          refine s_callf cl41 (many3_con v2 (l[k].2.2.2.2.2.1 ++ [l[k].2.2.2.2.1]) (by rw [h3]; omega)) rfl (dd rfl) (pXs (by repeat constructor)) (fun _ _ => a_on (eX (by repeat constructor)) ?_)
          refine a_take 18 rfl (by kernel_rfl) (by kernel_rfl) (by kernel_rfl) ((by first | exact v_add64 rfl rfl (by omega) | exact v_add rfl rfl)) (eX (by repeat constructor)) (dd rfl) ?_
          refine a_one 21 rfl (by kernel_rfl) (s_buildSlice Tryz.underlying81 ti34 rfl rfl rfl (by decide) (by decide) (beside_agg1 (beside_of (Lp := [Sl (eInt .i64) qd l[k].2.2.2.2.2.2.2.2.1, Sl ePr ql l[k].2.2.2.2.2.2.2.2.2]) (pXs (by repeat constructor)) fun w O => pt_close (z := l[k].2.2.2.2.2.2) w O)) rfl rfl (dd rfl) (fun v3 => a_on (eX (by repeat constructor)) ?_))
          refine a_one 22 rfl (by kernel_rfl) (s_callf cl42 (many7_con v3 l[k].2.2.2.2.2.2 (by omega)) rfl (dd rfl) (pXs (by repeat constructor)) (fun _ _ => a_on (eX (by repeat constructor)) ?_))
          refine a_take 23 rfl (by kernel_rfl) (by kernel_rfl) (by kernel_rfl) ((by first | exact v_add64 rfl rfl (by omega) | exact v_add rfl rfl)) (eX (by repeat constructor)) (dd rfl) ?_
          refine a_take 27 rfl (by kernel_rfl) (by kernel_rfl) (by kernel_rfl) ((by first | exact v_add64 rfl rfl (by omega) | exact v_add rfl rfl)) (eX (by repeat constructor)) (dd rfl) ?_
          refine a_take 28 rfl (by kernel_rfl) (by kernel_rfl) (by kernel_rfl) ((by first | exact v_add64 rfl rfl (by omega) | exact v_add rfl rfl)) (eX (by repeat constructor)) (dd rfl) ?_
          refine a_take 29 rfl (by kernel_rfl) (by kernel_rfl) (by kernel_rfl) (v_assign rfl) (eX (by repeat constructor)) (dd rfl) ?_
          refine a_done (by kernel_rfl) ?_ _
          refine c_seq ?_
          refine c_region ?_
          refine o_val (v_fieldAddrC 3 Tryz.underlying36 rfl ti28 (by decide) rfl) (dd rfl) ?_
          refine o_val (v_load lone28 rfl (hX (by repeat constructor)) rfl) (dd rfl) ?_
          refine o_val ((by first | exact v_len_form Tryz.underlying28 rfl | exact v_len_sl Tryz.underlying28 rfl (hX (by repeat constructor)))) (dd rfl) ?_
          refine o_val (v_move rfl) (dd rfl) ?_
          refine o_nil ?_
          refine c_block ?_
          rw [hfin]
          refine c_loopR (γ := Nat) [(0, _), (2, _), (5, _), (8, _), (9, _), (10, _), (11, _), (12, _), (13, _), (14, _), (15, _), (16, _), (17, _), (18, _), (19, _), (20, _), (21, _), (22, _), (23, _), (24, _), (25, _), (26, _), (27, _), (28, _), (29, _), (30, _), (31, _), (32, _), (33, _), (34, _), (35, _), (36, _), (37, _), (38, _), (39, _), (40, _), (41, _), (42, _), (43, _), (44, _), (45, _)] (fun j => l[k].2.2.2.1.length - j) (fun j => j ≤ l[k].2.2.2.1.length) (fun j => [(46, .int .i64 j), (3, .int .i64 (acc + ((sumS (l[k].2.2.2.1.take j) : Nat) : Int)))]) (fun _ => [Sl eStr lv l[k].2.2.2.1, Sl eIt v l]) (0) (Nat.zero_le _) (by repeat (first | exact trivial | refine ⟨rfl, ?_⟩)) (eX (by repeat constructor)) ?_
          rintro j hj IH2
          have hsj := sum_le (fun s : ByteArray => s.size) l[k].2.2.2.1 j
          try dsimp only [List.cons_append, List.nil_append]
          refine c_seq ?_
          refine c_region ?_
          refine o_val (v_lt rfl rfl) (dd rfl) ?_
          refine o_nil ?_
          refine c_seq ?_
          refine c_cond_p rfl (fun hj2 => ?_) (fun hj2 => ?_)
          · have hjl : j < l[k].2.2.2.1.length := by omega
            have hsn : sumS (l[k].2.2.2.1.take (j + 1)) = sumS (l[k].2.2.2.1.take j) + l[k].2.2.2.1[j].size := sum_take (fun s : ByteArray => s.size) hjl
            have hsj2 := sum_le (fun s : ByteArray => s.size) l[k].2.2.2.1 (j + 1)
            unfold sumS at *
            refine c_skip ?_
            refine c_seq ?_
            refine c_block ?_
            refine c_seq ?_
            refine c_region ?_
            refine o_val ((by first | exact v_indexAddrN Tryz.underlying28 ti9 rfl rfl (hX (by repeat constructor)) (by omega) | exact v_indexAddr Tryz.underlying28 ti9 rfl rfl (hX (by repeat constructor)) (by omega))) (dd rfl) ?_
            refine o_val (v_load_str lone9 rfl (by repeat (first | exact Elem.sl (List.getElem?_eq_getElem (by omega)) | exact Elem.own (List.getElem?_eq_getElem (by omega)) | exact Elem.ownO (List.getElem?_eq_getElem (by omega)) | apply Elem.there))) (dd rfl) ?_
            refine o_val (v_assign rfl) (dd rfl) ?_
            refine o_nil ?_
            refine c_region ?_
            refine o_val (v_move rfl) (dd rfl) ?_
            refine o_val (v_move rfl) (dd rfl) ?_
            refine o_val (v_len_str Tryz.underlying9 rfl) (dd rfl) ?_
            refine o_val ((by first | exact v_add64 rfl rfl (by omega) | exact v_add rfl rfl)) (dd rfl) ?_
            refine o_val (v_assign rfl) (dd rfl) ?_
            refine o_nil ?_
            refine c_inBlock ?_
            refine c_region ?_
            refine o_val ((by first | exact v_add64 rfl rfl (by omega) | exact v_add rfl rfl)) (dd rfl) ?_
            refine o_val (v_move rfl) (dd rfl) ?_
            refine o_nil ?_
            rw [Int.add_assoc acc, ← Int.natCast_add, ← hsn]
            refine c_use (IH2 (j + 1) (by first | omega | (dsimp only; omega)) (by omega)) (by repeat (first | exact trivial | refine ⟨rfl, ?_⟩)) (eX (by repeat constructor))
          · rw [List.take_of_length_le (l := l[k].2.2.2.1) (i := j) (by omega)]
            refine c_exit rfl ?_
            refine c_inBlock ?_
            refine c_region ?_
            refine o_val ((by first | exact v_add64 rfl rfl (by omega) | exact v_add rfl rfl)) (dd rfl) ?_
            refine o_val (v_move rfl) (dd rfl) ?_
            refine o_nil ?_
            rw [hfin2]
            refine c_use (IH (k + 1) (by first | omega | (dsimp only; omega)) (by omega)) (by repeat (first | exact trivial | refine ⟨rfl, ?_⟩)) (eX (by repeat constructor))
        · skip
          refine s_buildSlice Tryz.underlying81 ti34 rfl rfl rfl (by decide) (by decide) (beside_agg1 (beside_of (Lp := [Sl (eInt .i64) qd l[k].2.2.2.2.2.2.2.2.1, Sl ePr ql l[k].2.2.2.2.2.2.2.2.2]) (pXs (by repeat constructor)) fun w O => pt_close (z := l[k].2.2.2.2.2.2) w O)) rfl rfl (dd rfl) (fun v3 => a_on (eX (by repeat constructor)) ?_)
          refine a_one 17 rfl (by kernel_rfl) (s_callf cl41 (many3_con v2 (l[k].2.2.2.2.2.1 ++ [l[k].2.2.2.2.1]) (by rw [h3]; omega)) rfl (dd rfl) (pXs (by repeat constructor)) (fun _ _ => a_on (eX (by repeat constructor)) ?_))
          refine a_take 18 rfl (by kernel_rfl) (by kernel_rfl) (by kernel_rfl) ((by first | exact v_add64 rfl rfl (by omega) | exact v_add rfl rfl)) (eX (by repeat constructor)) (dd rfl) ?_
          refine a_one 22 rfl (by kernel_rfl) (s_callf cl42 (many7_con v3 l[k].2.2.2.2.2.2 (by omega)) rfl (dd rfl) (pXs (by repeat constructor)) (fun _ _ => a_on (eX (by repeat constructor)) ?_))
          refine a_take 23 rfl (by kernel_rfl) (by kernel_rfl) (by kernel_rfl) ((by first | exact v_add64 rfl rfl (by omega) | exact v_add rfl rfl)) (eX (by repeat constructor)) (dd rfl) ?_
          refine a_take 27 rfl (by kernel_rfl) (by kernel_rfl) (by kernel_rfl) ((by first | exact v_add64 rfl rfl (by omega) | exact v_add rfl rfl)) (eX (by repeat constructor)) (dd rfl) ?_
          refine a_take 28 rfl (by kernel_rfl) (by kernel_rfl) (by kernel_rfl) ((by first | exact v_add64 rfl rfl (by omega) | exact v_add rfl rfl)) (eX (by repeat constructor)) (dd rfl) ?_
          refine a_take 29 rfl (by kernel_rfl) (by kernel_rfl) (by kernel_rfl) (v_assign rfl) (eX (by repeat constructor)) (dd rfl) ?_
          refine a_done (by kernel_rfl) ?_ _
          refine c_seq ?_
          refine c_region ?_
          refine o_val (v_fieldAddrC 3 Tryz.underlying36 rfl ti28 (by decide) rfl) (dd rfl) ?_
          refine o_val (v_load lone28 rfl (hX (by repeat constructor)) rfl) (dd rfl) ?_
          refine o_val ((by first | exact v_len_form Tryz.underlying28 rfl | exact v_len_sl Tryz.underlying28 rfl (hX (by repeat constructor)))) (dd rfl) ?_
          refine o_val (v_move rfl) (dd rfl) ?_
          refine o_nil ?_
          refine c_block ?_
          rw [hfin]
          refine c_loopR (γ := Nat) [(0, _), (2, _), (5, _), (8, _), (9, _), (10, _), (11, _), (12, _), (13, _), (14, _), (15, _), (16, _), (17, _), (18, _), (19, _), (20, _), (21, _), (22, _), (23, _), (24, _), (25, _), (26, _), (27, _), (28, _), (29, _), (30, _), (31, _), (32, _), (33, _), (34, _), (35, _), (36, _), (37, _), (38, _), (39, _), (40, _), (41, _), (42, _), (43, _), (44, _), (45, _)] (fun j => l[k].2.2.2.1.length - j) (fun j => j ≤ l[k].2.2.2.1.length) (fun j => [(46, .int .i64 j), (3, .int .i64 (acc + ((sumS (l[k].2.2.2.1.take j) : Nat) : Int)))]) (fun _ => [Sl eStr lv l[k].2.2.2.1, Sl eIt v l]) (0) (Nat.zero_le _) (by repeat (first | exact trivial | refine ⟨rfl, ?_⟩)) (eX (by repeat constructor)) ?_
          rintro j hj IH2
          have hsj := sum_le (fun s : ByteArray => s.size) l[k].2.2.2.1 j
          try dsimp only [List.cons_append, List.nil_append]
          refine c_seq ?_
          refine c_region ?_
          refine o_val (v_lt rfl rfl) (dd rfl) ?_
          refine o_nil ?_
          refine c_seq ?_
          refine c_cond_p rfl (fun hj2 => ?_) (fun hj2 => ?_)
          · have hjl : j < l[k].2.2.2.1.length := by omega
            have hsn : sumS (l[k].2.2.2.1.take (j + 1)) = sumS (l[k].2.2.2.1.take j) + l[k].2.2.2.1[j].size := sum_take (fun s : ByteArray => s.size) hjl
            have hsj2 := sum_le (fun s : ByteArray => s.size) l[k].2.2.2.1 (j + 1)
            unfold sumS at *
            refine c_skip ?_
            refine c_seq ?_
            refine c_block ?_
            refine c_seq ?_
            refine c_region ?_
            refine o_val ((by first | exact v_indexAddrN Tryz.underlying28 ti9 rfl rfl (hX (by repeat constructor)) (by omega) | exact v_indexAddr Tryz.underlying28 ti9 rfl rfl (hX (by repeat constructor)) (by omega))) (dd rfl) ?_
            refine o_val (v_load_str lone9 rfl (by repeat (first | exact Elem.sl (List.getElem?_eq_getElem (by omega)) | exact Elem.own (List.getElem?_eq_getElem (by omega)) | exact Elem.ownO (List.getElem?_eq_getElem (by omega)) | apply Elem.there))) (dd rfl) ?_
            refine o_val (v_assign rfl) (dd rfl) ?_
            refine o_nil ?_
            refine c_region ?_
            refine o_val (v_move rfl) (dd rfl) ?_
            refine o_val (v_move rfl) (dd rfl) ?_
            refine o_val (v_len_str Tryz.underlying9 rfl) (dd rfl) ?_
            refine o_val ((by first | exact v_add64 rfl rfl (by omega) | exact v_add rfl rfl)) (dd rfl) ?_
            refine o_val (v_assign rfl) (dd rfl) ?_
            refine o_nil ?_
            refine c_inBlock ?_
            refine c_region ?_
            refine o_val ((by first | exact v_add64 rfl rfl (by omega) | exact v_add rfl rfl)) (dd rfl) ?_
            refine o_val (v_move rfl) (dd rfl) ?_
            refine o_nil ?_
            rw [Int.add_assoc acc, ← Int.natCast_add, ← hsn]
            refine c_use (IH2 (j + 1) (by first | omega | (dsimp only; omega)) (by omega)) (by repeat (first | exact trivial | refine ⟨rfl, ?_⟩)) (eX (by repeat constructor))
          · rw [List.take_of_length_le (l := l[k].2.2.2.1) (i := j) (by omega)]
            refine c_exit rfl ?_
            refine c_inBlock ?_
            refine c_region ?_
            refine o_val ((by first | exact v_add64 rfl rfl (by omega) | exact v_add rfl rfl)) (dd rfl) ?_
            refine o_val (v_move rfl) (dd rfl) ?_
            refine o_nil ?_
            rw [hfin2]
            refine c_use (IH (k + 1) (by first | omega | (dsimp only; omega)) (by omega)) (by repeat (first | exact trivial | refine ⟨rfl, ?_⟩)) (eX (by repeat constructor))
      · skip
        refine s_buildSlice Tryz.underlying81 ti34 rfl rfl rfl (by decide) (by decide) (beside_agg1 (beside_of (Lp := [Sl (eInt .i64) qd l[k].2.2.2.2.2.2.2.2.1, Sl ePr ql l[k].2.2.2.2.2.2.2.2.2]) (pXs (by repeat constructor)) fun w O => pt_close (z := l[k].2.2.2.2.2.2) w O)) rfl rfl (dd rfl) (fun v3 => a_on (eX (by repeat constructor)) ?_)
        refine a_one 16 rfl (by kernel_rfl) (s_append_apd Tryz.underlying31 ti30 rfl (by decide) rfl rfl (dd rfl) (pB (by repeat constructor)) (pX (by repeat constructor)) rfl (by (first | omega | (simp only [maxLen, List.length_append, List.length_drop, List.length_take, List.length_nil, List.length_cons]; omega))) (by (first | omega | (simp only [maxLen, List.length_append, List.length_drop, List.length_take, List.length_nil, List.length_cons]; omega))) (fun v2 => a_on (eX (by repeat constructor)) ?_))
        refine a_one 17 rfl (by kernel_rfl) (s_callf cl41 (many3_con v2 (l[k].2.2.2.2.2.1 ++ [l[k].2.2.2.2.1]) (by rw [h3]; omega)) rfl (dd rfl) (pXs (by repeat constructor)) (fun _ _ => a_on (eX (by repeat constructor)) ?_))
        refine a_take 18 rfl (by kernel_rfl) (by kernel_rfl) (by kernel_rfl) ((by first | exact v_add64 rfl rfl (by omega) | exact v_add rfl rfl)) (eX (by repeat constructor)) (dd rfl) ?_
        refine a_one 22 rfl (by kernel_rfl) (s_callf cl42 (many7_con v3 l[k].2.2.2.2.2.2 (by omega)) rfl (dd rfl) (pXs (by repeat constructor)) (fun _ _ => a_on (eX (by repeat constructor)) ?_))
        refine a_take 23 rfl (by kernel_rfl) (by kernel_rfl) (by kernel_rfl) ((by first | exact v_add64 rfl rfl (by omega) | exact v_add rfl rfl)) (eX (by repeat constructor)) (dd rfl) ?_
        refine a_take 27 rfl (by kernel_rfl) (by kernel_rfl) (by kernel_rfl) ((by first | exact v_add64 rfl rfl (by omega) | exact v_add rfl rfl)) (eX (by repeat constructor)) (dd rfl) ?_
        refine a_take 28 rfl (by kernel_rfl) (by kernel_rfl) (by kernel_rfl) ((by first | exact v_add64 rfl rfl (by omega) | exact v_add rfl rfl)) (eX (by repeat constructor)) (dd rfl) ?_
        refine a_take 29 rfl (by kernel_rfl) (by kernel_rfl) (by kernel_rfl) (v_assign rfl) (eX (by repeat constructor)) (dd rfl) ?_
        refine a_done (by kernel_rfl) ?_ _
        refine c_seq ?_
        refine c_region ?_
        refine o_val (v_fieldAddrC 3 Tryz.underlying36 rfl ti28 (by decide) rfl) (dd rfl) ?_
        refine o_val (v_load lone28 rfl (hX (by repeat constructor)) rfl) (dd rfl) ?_
        refine o_val ((by first | exact v_len_form Tryz.underlying28 rfl | exact v_len_sl Tryz.underlying28 rfl (hX (by repeat constructor)))) (dd rfl) ?_
        refine o_val (v_move rfl) (dd rfl) ?_
        refine o_nil ?_
        refine c_block ?_
        rw [hfin]
        refine c_loopR (γ := Nat) [(0, _), (2, _), (5, _), (8, _), (9, _), (10, _), (11, _), (12, _), (13, _), (14, _), (15, _), (16, _), (17, _), (18, _), (19, _), (20, _), (21, _), (22, _), (23, _), (24, _), (25, _), (26, _), (27, _), (28, _), (29, _), (30, _), (31, _), (32, _), (33, _), (34, _), (35, _), (36, _), (37, _), (38, _), (39, _), (40, _), (41, _), (42, _), (43, _), (44, _), (45, _)] (fun j => l[k].2.2.2.1.length - j) (fun j => j ≤ l[k].2.2.2.1.length) (fun j => [(46, .int .i64 j), (3, .int .i64 (acc + ((sumS (l[k].2.2.2.1.take j) : Nat) : Int)))]) (fun _ => [Sl eStr lv l[k].2.2.2.1, Sl eIt v l]) (0) (Nat.zero_le _) (by repeat (first | exact trivial | refine ⟨rfl, ?_⟩)) (eX (by repeat constructor)) ?_
        rintro j hj IH2
        have hsj := sum_le (fun s : ByteArray => s.size) l[k].2.2.2.1 j
        try dsimp only [List.cons_append, List.nil_append]
        refine c_seq ?_
        refine c_region ?_
        refine o_val (v_lt rfl rfl) (dd rfl) ?_
        refine o_nil ?_
        refine c_seq ?_
        refine c_cond_p rfl (fun hj2 => ?_) (fun hj2 => ?_)
        · have hjl : j < l[k].2.2.2.1.length := by omega
          have hsn : sumS (l[k].2.2.2.1.take (j + 1)) = sumS (l[k].2.2.2.1.take j) + l[k].2.2.2.1[j].size := sum_take (fun s : ByteArray => s.size) hjl
          have hsj2 := sum_le (fun s : ByteArray => s.size) l[k].2.2.2.1 (j + 1)
          unfold sumS at *
          refine c_skip ?_
          refine c_seq ?_
          refine c_block ?_
          refine c_seq ?_
          refine c_region ?_
          refine o_val ((by first | exact v_indexAddrN Tryz.underlying28 ti9 rfl rfl (hX (by repeat constructor)) (by omega) | exact v_indexAddr Tryz.underlying28 ti9 rfl rfl (hX (by repeat constructor)) (by omega))) (dd rfl) ?_
          refine o_val (v_load_str lone9 rfl (by repeat (first | exact Elem.sl (List.getElem?_eq_getElem (by omega)) | exact Elem.own (List.getElem?_eq_getElem (by omega)) | exact Elem.ownO (List.getElem?_eq_getElem (by omega)) | apply Elem.there))) (dd rfl) ?_
          refine o_val (v_assign rfl) (dd rfl) ?_
          refine o_nil ?_
          refine c_region ?_
          refine o_val (v_move rfl) (dd rfl) ?_
          refine o_val (v_move rfl) (dd rfl) ?_
          refine o_val (v_len_str Tryz.underlying9 rfl) (dd rfl) ?_
          refine o_val ((by first | exact v_add64 rfl rfl (by omega) | exact v_add rfl rfl)) (dd rfl) ?_
          refine o_val (v_assign rfl) (dd rfl) ?_
          refine o_nil ?_
          refine c_inBlock ?_
          refine c_region ?_
          refine o_val ((by first | exact v_add64 rfl rfl (by omega) | exact v_add rfl rfl)) (dd rfl) ?_
          refine o_val (v_move rfl) (dd rfl) ?_
          refine o_nil ?_
          rw [Int.add_assoc acc, ← Int.natCast_add, ← hsn]
          refine c_use (IH2 (j + 1) (by first | omega | (dsimp only; omega)) (by omega)) (by repeat (first | exact trivial | refine ⟨rfl, ?_⟩)) (eX (by repeat constructor))
        · rw [List.take_of_length_le (l := l[k].2.2.2.1) (i := j) (by omega)]
          refine c_exit rfl ?_
          refine c_inBlock ?_
          refine c_region ?_
          refine o_val ((by first | exact v_add64 rfl rfl (by omega) | exact v_add rfl rfl)) (dd rfl) ?_
          refine o_val (v_move rfl) (dd rfl) ?_
          refine o_nil ?_
          rw [hfin2]
          refine c_use (IH (k + 1) (by first | omega | (dsimp only; omega)) (by omega)) (by repeat (first | exact trivial | refine ⟨rfl, ?_⟩)) (eX (by repeat constructor))
    · skip
      refine s_buildSlice Tryz.underlying81 ti34 rfl rfl rfl (by decide) (by decide) (beside_agg1 (beside_of (Lp := [Sl (eInt .i64) qd l[k].2.2.2.2.2.2.2.2.1, Sl ePr ql l[k].2.2.2.2.2.2.2.2.2]) (pXs (by repeat constructor)) fun w O => pt_close (z := l[k].2.2.2.2.2.2) w O)) rfl rfl (dd rfl) (fun v3 => a_on (eX (by repeat constructor)) ?_)
      refine a_one 15 rfl (by kernel_rfl) (s_buildSlice Tryz.underlying31 ti30 rfl rfl rfl (by decide) (by decide) (beside_agg1 (beside_of (Lp := [Sl eStr po l[k].2.2.2.2.1.2.2.2.2.1, Sl eStr pw l[k].2.2.2.2.1.2.2.2.2.2]) (pXs (by repeat constructor)) fun w O => pr_close (z := l[k].2.2.2.2.1) w O)) rfl rfl (dd rfl) (fun v1 => a_on (eX (by repeat constructor)) ?_))
      refine a_one 16 rfl (by kernel_rfl) (s_append_apd Tryz.underlying31 ti30 rfl (by decide) rfl rfl (dd rfl) (pB (by repeat constructor)) (pX (by repeat constructor)) rfl (by (first | omega | (simp only [maxLen, List.length_append, List.length_drop, List.length_take, List.length_nil, List.length_cons]; omega))) (by (first | omega | (simp only [maxLen, List.length_append, List.length_drop, List.length_take, List.length_nil, List.length_cons]; omega))) (fun v2 => a_on (eX (by repeat constructor)) ?_))
      refine a_one 17 rfl (by kernel_rfl) (s_callf cl41 (many3_con v2 (l[k].2.2.2.2.2.1 ++ [l[k].2.2.2.2.1]) (by rw [h3]; omega)) rfl (dd rfl) (pXs (by repeat constructor)) (fun _ _ => a_on (eX (by repeat constructor)) ?_))
      refine a_take 18 rfl (by kernel_rfl) (by kernel_rfl) (by kernel_rfl) ((by first | exact v_add64 rfl rfl (by omega) | exact v_add rfl rfl)) (eX (by repeat constructor)) (dd rfl) ?_
      refine a_one 22 rfl (by kernel_rfl) (s_callf cl42 (many7_con v3 l[k].2.2.2.2.2.2 (by omega)) rfl (dd rfl) (pXs (by repeat constructor)) (fun _ _ => a_on (eX (by repeat constructor)) ?_))
      refine a_take 23 rfl (by kernel_rfl) (by kernel_rfl) (by kernel_rfl) ((by first | exact v_add64 rfl rfl (by omega) | exact v_add rfl rfl)) (eX (by repeat constructor)) (dd rfl) ?_
      refine a_take 27 rfl (by kernel_rfl) (by kernel_rfl) (by kernel_rfl) ((by first | exact v_add64 rfl rfl (by omega) | exact v_add rfl rfl)) (eX (by repeat constructor)) (dd rfl) ?_
      refine a_take 28 rfl (by kernel_rfl) (by kernel_rfl) (by kernel_rfl) ((by first | exact v_add64 rfl rfl (by omega) | exact v_add rfl rfl)) (eX (by repeat constructor)) (dd rfl) ?_
      refine a_take 29 rfl (by kernel_rfl) (by kernel_rfl) (by kernel_rfl) (v_assign rfl) (eX (by repeat constructor)) (dd rfl) ?_
      refine a_done (by kernel_rfl) ?_ _
      refine c_seq ?_
      refine c_region ?_
      refine o_val (v_fieldAddrC 3 Tryz.underlying36 rfl ti28 (by decide) rfl) (dd rfl) ?_
      refine o_val (v_load lone28 rfl (hX (by repeat constructor)) rfl) (dd rfl) ?_
      refine o_val ((by first | exact v_len_form Tryz.underlying28 rfl | exact v_len_sl Tryz.underlying28 rfl (hX (by repeat constructor)))) (dd rfl) ?_
      refine o_val (v_move rfl) (dd rfl) ?_
      refine o_nil ?_
      refine c_block ?_
      rw [hfin]
      refine c_loopR (γ := Nat) [(0, _), (2, _), (5, _), (8, _), (9, _), (10, _), (11, _), (12, _), (13, _), (14, _), (15, _), (16, _), (17, _), (18, _), (19, _), (20, _), (21, _), (22, _), (23, _), (24, _), (25, _), (26, _), (27, _), (28, _), (29, _), (30, _), (31, _), (32, _), (33, _), (34, _), (35, _), (36, _), (37, _), (38, _), (39, _), (40, _), (41, _), (42, _), (43, _), (44, _), (45, _)] (fun j => l[k].2.2.2.1.length - j) (fun j => j ≤ l[k].2.2.2.1.length) (fun j => [(46, .int .i64 j), (3, .int .i64 (acc + ((sumS (l[k].2.2.2.1.take j) : Nat) : Int)))]) (fun _ => [Sl eStr lv l[k].2.2.2.1, Sl eIt v l]) (0) (Nat.zero_le _) (by repeat (first | exact trivial | refine ⟨rfl, ?_⟩)) (eX (by repeat constructor)) ?_
      rintro j hj IH2
      have hsj := sum_le (fun s : ByteArray => s.size) l[k].2.2.2.1 j
      try dsimp only [List.cons_append, List.nil_append]
      refine c_seq ?_
      refine c_region ?_
      refine o_val (v_lt rfl rfl) (dd rfl) ?_
      refine o_nil ?_
      refine c_seq ?_
      refine c_cond_p rfl (fun hj2 => ?_) (fun hj2 => ?_)
      · have hjl : j < l[k].2.2.2.1.length := by omega
        have hsn : sumS (l[k].2.2.2.1.take (j + 1)) = sumS (l[k].2.2.2.1.take j) + l[k].2.2.2.1[j].size := sum_take (fun s : ByteArray => s.size) hjl
        have hsj2 := sum_le (fun s : ByteArray => s.size) l[k].2.2.2.1 (j + 1)
        unfold sumS at *
        refine c_skip ?_
        refine c_seq ?_
        refine c_block ?_
        refine c_seq ?_
        refine c_region ?_
        refine o_val ((by first | exact v_indexAddrN Tryz.underlying28 ti9 rfl rfl (hX (by repeat constructor)) (by omega) | exact v_indexAddr Tryz.underlying28 ti9 rfl rfl (hX (by repeat constructor)) (by omega))) (dd rfl) ?_
        refine o_val (v_load_str lone9 rfl (by repeat (first | exact Elem.sl (List.getElem?_eq_getElem (by omega)) | exact Elem.own (List.getElem?_eq_getElem (by omega)) | exact Elem.ownO (List.getElem?_eq_getElem (by omega)) | apply Elem.there))) (dd rfl) ?_
        refine o_val (v_assign rfl) (dd rfl) ?_
        refine o_nil ?_
        refine c_region ?_
        refine o_val (v_move rfl) (dd rfl) ?_
        refine o_val (v_move rfl) (dd rfl) ?_
        refine o_val (v_len_str Tryz.underlying9 rfl) (dd rfl) ?_
        refine o_val ((by first | exact v_add64 rfl rfl (by omega) | exact v_add rfl rfl)) (dd rfl) ?_
        refine o_val (v_assign rfl) (dd rfl) ?_
        refine o_nil ?_
        refine c_inBlock ?_
        refine c_region ?_
        refine o_val ((by first | exact v_add64 rfl rfl (by omega) | exact v_add rfl rfl)) (dd rfl) ?_
        refine o_val (v_move rfl) (dd rfl) ?_
        refine o_nil ?_
        rw [Int.add_assoc acc, ← Int.natCast_add, ← hsn]
        refine c_use (IH2 (j + 1) (by first | omega | (dsimp only; omega)) (by omega)) (by repeat (first | exact trivial | refine ⟨rfl, ?_⟩)) (eX (by repeat constructor))
      · rw [List.take_of_length_le (l := l[k].2.2.2.1) (i := j) (by omega)]
        refine c_exit rfl ?_
        refine c_inBlock ?_
        refine c_region ?_
        refine o_val ((by first | exact v_add64 rfl rfl (by omega) | exact v_add rfl rfl)) (dd rfl) ?_
        refine o_val (v_move rfl) (dd rfl) ?_
        refine o_nil ?_
        rw [hfin2]
        refine c_use (IH (k + 1) (by first | omega | (dsimp only; omega)) (by omega)) (by repeat (first | exact trivial | refine ⟨rfl, ?_⟩)) (eX (by repeat constructor))
  · refine c_exit rfl ?_
    refine c_seq ?_
    refine c_region ?_
    refine o_val (v_move rfl) (dd rfl) ?_
    refine o_val ((by first | exact v_len_form Tryz.underlying22 rfl | exact v_len_sl Tryz.underlying22 rfl (hX (by repeat constructor)))) (dd rfl) ?_
    refine o_val (v_le rfl rfl) (dd rfl) ?_
    refine o_val (v_move rfl) (dd rfl) ?_
    refine o_guard_t rfl rfl (fun h30 => ?_) (fun h30 => ?_)
    · skip
      refine o_val (v_move rfl) (dd rfl) ?_
      refine o_on rfl rfl ?_
      refine o_val (v_le rfl rfl) (dd rfl) ?_
      refine o_val (v_pick_t rfl rfl) (dd rfl) ?_
      refine o_val (v_assign rfl) (dd rfl) ?_
      refine o_nil ?_
      refine c_ret1 Tryz.func9 rfl rfl fun w O hS => ?_
      refine ⟨(), ?_, trivial, trivial⟩
      rw [List.take_of_length_le (by omega)]
      unfold fewP
      rw [show decide (l.length ≤ 30) = true from decide_eq_true (by omega), Bool.true_and]
      congr 1
      exact decide_eq_decide.2 (by omega)
    · skip
      refine o_off rfl rfl rfl (dd rfl) ?_
      refine o_off rfl rfl rfl (dd rfl) ?_
      refine o_val (v_pick_f rfl rfl) (dd rfl) ?_
      refine o_val (v_assign rfl) (dd rfl) ?_
      refine o_nil ?_
      refine c_ret1 Tryz.func9 rfl rfl fun w O hS => ?_
      refine ⟨(), ?_, trivial, trivial⟩
      unfold fewP
      rw [show decide (l.length ≤ 30) = false from decide_eq_false (by omega), Bool.false_and]
end Go.Proofs.YtmgkeippepeggaaGreatDoor
/- Chapter 09: which rows of changes, and which patches, are the same; changes as the document's, and the program's. -/
namespace Go.Proofs.YtmgkeippepeggaaGreatDoor
open Go Go.SL Go.Lib
/-- Rows of changes that are short enough to be compared. -/
def ShortL (l : List Pr9) : Prop := l.length ≤ 1000000 ∧ ∀ p ∈ l, p.2.2.2.2.1.length ≤ 1000000 ∧ p.2.2.2.2.2.length ≤ 1000000
theorem take_next {α : Type} {xs ys : List α} {k : Nat} (h1 : k < xs.length) (h2 : k < ys.length) (he : xs.take k = ys.take k) (hx : xs[k] = ys[k]) : xs.take (k + 1) = ys.take (k + 1) := by
  rw [List.take_succ_eq_append_getElem h1, List.take_succ_eq_append_getElem h2, he, hx]
attribute [local irreducible] Cfg Kont StepK Val Con Qops Any Sl Own Blk BlkR Rd Pu ExA AllA Has Pick Ent Elem Beside Callable TI Lone OwnO AndA
set_option maxRecDepth 100000 in
theorem allR_con (v u : Value) (xs ys : List Pr9) (hx : ShortL xs) (hy : ShortL ys) : Con Tryz.prog 26 [v, u] [Sl ePr v xs, Sl ePr u ys] (γ := Unit) (fun _ => .bool (decide (xs = ys))) (fun _ => True) (fun _ => []) := by
  obtain ⟨hx1, hx2⟩ := hx
  obtain ⟨hy1, hy2⟩ := hy
  refine con_of Tryz.func26 rfl (dd rfl) fun w0 O0 => ?_
  refine c_seq ?_
  refine c_region ?_
  refine o_val (v_assign rfl) (dd rfl) ?_
  refine o_nil ?_
  refine c_seq ?_
  refine c_seq ?_
  refine c_region ?_
  refine o_val (v_move rfl) (dd rfl) ?_
  refine o_val ((by first | exact v_len_form Tryz.underlying31 rfl | exact v_len_sl Tryz.underlying31 rfl (hX (by repeat constructor)))) (dd rfl) ?_
  refine o_val (v_move rfl) (dd rfl) ?_
  refine o_val ((by first | exact v_len_form Tryz.underlying31 rfl | exact v_len_sl Tryz.underlying31 rfl (hX (by repeat constructor)))) (dd rfl) ?_
  refine o_val (v_ne rfl rfl) (dd rfl) ?_
  refine o_nil ?_
  refine c_cond_p rfl (fun h => ?_) (fun h => ?_)
  · refine c_seq ?_
    refine c_region ?_
    refine o_val (v_assign rfl) (dd rfl) ?_
    refine o_nil ?_
    refine c_ret1 Tryz.func26 rfl rfl fun w O hS => ?_
    exact ⟨(), by rw [decide_eq_false (fun e => h (by rw [e]))], trivial, trivial⟩
  · refine c_skip ?_
    refine c_seq ?_
    refine c_seq ?_
    refine c_region ?_
    refine o_val (v_assign rfl) (dd rfl) ?_
    refine o_nil ?_
    refine c_block ?_
    refine c_loopR (γ := Nat) [(0, _), (1, _), (4, _)] (fun k => xs.length - k) (fun k => k ≤ xs.length ∧ xs.take k = ys.take k) (fun k => [(5, .int .i64 k)]) (fun _ => [Sl ePr v xs, Sl ePr u ys]) (0) (⟨Nat.zero_le _, rfl⟩) (by repeat (first | exact trivial | refine ⟨rfl, ?_⟩)) (eX (by repeat constructor)) ?_
    rintro k ⟨hk, he⟩ IH
    try dsimp only [List.cons_append, List.nil_append]
    refine c_seq ?_
    refine c_seq ?_
    refine c_region ?_
    refine o_val (v_move rfl) (dd rfl) ?_
    refine o_val (v_move rfl) (dd rfl) ?_
    refine o_val ((by first | exact v_len_form Tryz.underlying31 rfl | exact v_len_sl Tryz.underlying31 rfl (hX (by repeat constructor)))) (dd rfl) ?_
    refine o_val (v_lt rfl rfl) (dd rfl) ?_
    refine o_nil ?_
    refine c_cond_p rfl (fun hlt => ?_) (fun hlt => ?_)
    · have hkx : k < xs.length := by omega
      have hky : k < ys.length := by omega
      have hS := fun ov wv ov' wv' => samePrR_con xs[k] ys[k] ov wv ov' wv' (hx2 _ (List.getElem_mem hkx)) (hy2 _ (List.getElem_mem hky))
      refine c_skip ?_
      refine c_seq ?_
      refine c_block ?_
      refine c_seq ?_
      refine c_held [Sl ePr v xs, Sl ePr u ys] rfl ?_
      refine a_take 0 rfl (by kernel_rfl) (by kernel_rfl) (by kernel_rfl) (v_move rfl) (eX (by repeat constructor)) (dd rfl) ?_
      refine a_take 1 rfl (by kernel_rfl) (by kernel_rfl) (by kernel_rfl) (v_move rfl) (eX (by repeat constructor)) (dd rfl) ?_
      refine a_take 2 rfl (by kernel_rfl) (by kernel_rfl) (by kernel_rfl) ((by first | exact v_indexAddrN Tryz.underlying31 ti30 rfl rfl (hX (by repeat constructor)) (by omega) | exact v_indexAddr Tryz.underlying31 ti30 rfl rfl (hX (by repeat constructor)) (by omega))) (eX (by repeat constructor)) (dd rfl) ?_
      refine a_take 4 rfl (by kernel_rfl) (by kernel_rfl) (by kernel_rfl) (v_move rfl) (eX (by repeat constructor)) (dd rfl) ?_
      refine a_take 5 rfl (by kernel_rfl) (by kernel_rfl) (by kernel_rfl) (v_move rfl) (eX (by repeat constructor)) (dd rfl) ?_
      refine a_take 6 rfl (by kernel_rfl) (by kernel_rfl) (by kernel_rfl) ((by first | exact v_indexAddrN Tryz.underlying31 ti30 rfl rfl (hX (by repeat constructor)) (by omega) | exact v_indexAddr Tryz.underlying31 ti30 rfl rfl (hX (by repeat constructor)) (by omega))) (eX (by repeat constructor)) (dd rfl) ?_
      refine a_two 3 7 rfl rfl (by kernel_rfl) ?_ ?_
      · skip
        refine s_load_shape ⟨_, Tryz.underlying30⟩ ti30 rfl (dd rfl) (by repeat (first|exact el1 (by omega)|exact el2 (by omega)|exact el3 (by omega)|apply Elem.there)) (pr_open) (fun g => a_on (eX (by repeat constructor)) ?_)
        refine a_one 7 rfl (by kernel_rfl) (s_load_shape ⟨_, Tryz.underlying30⟩ ti30 rfl (dd rfl) (by repeat (first|exact el1 (by omega)|exact el2 (by omega)|exact el3 (by omega)|apply Elem.there)) (pr_open) (fun g' => a_on (eX (by repeat constructor)) ?_))
        refine a_one 8 rfl (by kernel_rfl) (s_callf_keep cl24 (hS g.1 g.2 g'.1 g'.2) rfl (dd rfl) (rX (by repeat constructor)) (fun _ => sX) (fun _ _ => a_on (eX (by repeat constructor)) ?_))
        refine a_take 9 rfl (by kernel_rfl) (by kernel_rfl) (by kernel_rfl) (v_not rfl) (eX (by repeat constructor)) (dd rfl) ?_
        refine a_done (by kernel_rfl) ?_ _
        refine c_cond rfl (fun hb => ?_) (fun hb => ?_)
        · have hne : ¬ xs[k] = ys[k] := by intro q; rw [decide_eq_true q] at hb; cases hb
          refine c_seq ?_
          refine c_region ?_
          refine o_val (v_assign rfl) (dd rfl) ?_
          refine o_nil ?_
          refine c_ret1 Tryz.func26 rfl rfl fun w O hS => ?_
          exact ⟨(), by rw [decide_eq_false]; intro q; subst q; exact hne rfl, trivial, trivial⟩
        · have heq : xs[k] = ys[k] := Classical.byContradiction fun q => by rw [decide_eq_false q] at hb; cases hb
          refine c_skip ?_
          refine c_inBlock ?_
          refine c_region ?_
          refine o_val (v_move rfl) (dd rfl) ?_
          refine o_val ((by first | exact v_add64 rfl rfl (by omega) | exact v_add rfl rfl)) (dd rfl) ?_
          refine o_val (v_assign rfl) (dd rfl) ?_
          refine o_nil ?_
          refine c_use (IH (k + 1) (by first | omega | (dsimp only; omega)) (⟨by omega, take_next hkx hky he heq⟩)) (by repeat (first | exact trivial | refine ⟨rfl, ?_⟩)) (eX (by repeat constructor))
      · skip
        refine s_load_shape ⟨_, Tryz.underlying30⟩ ti30 rfl (dd rfl) (by repeat (first|exact el1 (by omega)|exact el2 (by omega)|exact el3 (by omega)|apply Elem.there)) (pr_open) (fun g' => a_on (eX (by repeat constructor)) ?_)
        refine a_one 3 rfl (by kernel_rfl) (s_load_shape ⟨_, Tryz.underlying30⟩ ti30 rfl (dd rfl) (by repeat (first|exact el1 (by omega)|exact el2 (by omega)|exact el3 (by omega)|apply Elem.there)) (pr_open) (fun g => a_on (eX (by repeat constructor)) ?_))
        refine a_one 8 rfl (by kernel_rfl) (s_callf_keep cl24 (hS g.1 g.2 g'.1 g'.2) rfl (dd rfl) (rX (by repeat constructor)) (fun _ => sX) (fun _ _ => a_on (eX (by repeat constructor)) ?_))
        refine a_take 9 rfl (by kernel_rfl) (by kernel_rfl) (by kernel_rfl) (v_not rfl) (eX (by repeat constructor)) (dd rfl) ?_
        refine a_done (by kernel_rfl) ?_ _
        refine c_cond rfl (fun hb => ?_) (fun hb => ?_)
        · have hne : ¬ xs[k] = ys[k] := by intro q; rw [decide_eq_true q] at hb; cases hb
          refine c_seq ?_
          refine c_region ?_
          refine o_val (v_assign rfl) (dd rfl) ?_
          refine o_nil ?_
          refine c_ret1 Tryz.func26 rfl rfl fun w O hS => ?_
          exact ⟨(), by rw [decide_eq_false]; intro q; subst q; exact hne rfl, trivial, trivial⟩
        · have heq : xs[k] = ys[k] := Classical.byContradiction fun q => by rw [decide_eq_false q] at hb; cases hb
          refine c_skip ?_
          refine c_inBlock ?_
          refine c_region ?_
          refine o_val (v_move rfl) (dd rfl) ?_
          refine o_val ((by first | exact v_add64 rfl rfl (by omega) | exact v_add rfl rfl)) (dd rfl) ?_
          refine o_val (v_assign rfl) (dd rfl) ?_
          refine o_nil ?_
          refine c_use (IH (k + 1) (by first | omega | (dsimp only; omega)) (⟨by omega, take_next hkx hky he heq⟩)) (by repeat (first | exact trivial | refine ⟨rfl, ?_⟩)) (eX (by repeat constructor))
    · refine c_exit rfl ?_
      refine c_seq ?_
      refine c_region ?_
      refine o_val (v_assign rfl) (dd rfl) ?_
      refine o_nil ?_
      refine c_ret1 Tryz.func26 rfl rfl fun w O hS => ?_
      refine ⟨(), ?_, trivial, trivial⟩
      rw [List.take_of_length_le (by omega), List.take_of_length_le (by omega)] at he
      rw [decide_eq_true he]
end Go.Proofs.YtmgkeippepeggaaGreatDoor
/- Chapter 09: which patches are the same. -/
namespace Go.Proofs.YtmgkeippepeggaaGreatDoor
open Go Go.SL Go.Lib
instance decPt9 : DecidableEq Pt9 := fun a b => inferInstanceAs (Decidable (a = b))
attribute [local irreducible] Cfg Kont StepK Val Con Qops Any Sl Own Blk BlkR Rd Pu ExA AllA Has Pick Ent Elem Beside Callable TI Lone OwnO AndA
set_option maxRecDepth 100000 in
theorem eqPrims_con (v u : Value) (xs ys : List Pr9) (hx : ShortL xs) (hy : ShortL ys) : Con Tryz.prog 105 [v, u, .func (.func 39) #[] #[]] [Sl ePr v xs, Sl ePr u ys] (γ := Unit) (fun _ => .bool (decide (xs = ys))) (fun _ => True) (fun _ => []) := by
  obtain ⟨hx1, hx2⟩ := hx
  obtain ⟨hy1, hy2⟩ := hy
  refine con_of Tryz.func105 rfl (dd rfl) fun w0 O0 => ?_
  refine c_seq ?_
  refine c_region ?_
  refine o_val (v_assign rfl) (dd rfl) ?_
  refine o_nil ?_
  refine c_seq ?_
  refine c_seq ?_
  refine c_region ?_
  refine o_val (v_move rfl) (dd rfl) ?_
  refine o_val ((by first | exact v_len_form Tryz.underlying62 rfl | exact v_len_sl Tryz.underlying62 rfl (hX (by repeat constructor)))) (dd rfl) ?_
  refine o_val (v_move rfl) (dd rfl) ?_
  refine o_val ((by first | exact v_len_form Tryz.underlying62 rfl | exact v_len_sl Tryz.underlying62 rfl (hX (by repeat constructor)))) (dd rfl) ?_
  refine o_val (v_ne rfl rfl) (dd rfl) ?_
  refine o_nil ?_
  refine c_cond_p rfl (fun h => ?_) (fun h => ?_)
  · refine c_seq ?_
    refine c_region ?_
    refine o_val (v_assign rfl) (dd rfl) ?_
    refine o_nil ?_
    refine c_ret1 Tryz.func105 rfl rfl fun w O hS => ?_
    exact ⟨(), by rw [decide_eq_false (fun e => h (by rw [e]))], trivial, trivial⟩
  · refine c_skip ?_
    refine c_seq ?_
    refine c_seq ?_
    refine c_region ?_
    refine o_val (v_move rfl) (dd rfl) ?_
    refine o_val ((by first | exact v_len_form Tryz.underlying62 rfl | exact v_len_sl Tryz.underlying62 rfl (hX (by repeat constructor)))) (dd rfl) ?_
    refine o_val (v_move rfl) (dd rfl) ?_
    refine o_nil ?_
    refine c_block ?_
    refine c_loopR (γ := Nat) [(1, _), (2, _), (6, _), (15, _), (16, _)] (fun k => xs.length - k) (fun k => k ≤ xs.length ∧ xs.take k = ys.take k) (fun k => [(17, .int .i64 k)]) (fun _ => [Sl ePr v xs, Sl ePr u ys]) (0) (⟨Nat.zero_le _, rfl⟩) (by repeat (first | exact trivial | refine ⟨rfl, ?_⟩)) (eX (by repeat constructor)) ?_
    rintro k ⟨hk, he⟩ IH
    try dsimp only [List.cons_append, List.nil_append]
    refine c_seq ?_
    refine c_region ?_
    refine o_val (v_lt rfl rfl) (dd rfl) ?_
    refine o_nil ?_
    refine c_seq ?_
    refine c_cond_p rfl (fun hlt => ?_) (fun hlt => ?_)
    · have hkx : k < xs.length := by omega
      have hky : k < ys.length := by omega
      have hS := fun ov wv ov' wv' => samePr_con xs[k] ys[k] ov wv ov' wv' (hx2 _ (List.getElem_mem hkx)) (hy2 _ (List.getElem_mem hky))
      refine c_skip ?_
      refine c_seq ?_
      refine c_block ?_
      refine c_seq ?_
      refine c_region ?_
      refine o_val (v_move rfl) (dd rfl) ?_
      refine o_val ((by first | exact v_indexAddrN Tryz.underlying62 ti58 rfl rfl (hX (by repeat constructor)) (by omega) | exact v_indexAddr Tryz.underlying62 ti58 rfl rfl (hX (by repeat constructor)) (by omega))) (dd rfl) ?_
      refine o_step (s_load_shape ⟨_, Tryz.underlying58⟩ ti58 rfl (dd rfl) (by repeat (first|exact el1 (by omega)|exact el2 (by omega)|exact el3 (by omega)|apply Elem.there)) (pr_open) (fun g => ?_))
      refine o_step (s_alloc ti58 (dd rfl) (fun b8 => ?_))
      refine o_val (v_assign rfl) (dd rfl) ?_
      refine o_step (s_store_all ti58 rfl rfl (by first | exact CellsV.lit rfl | exact CellsV.one (by first | exact OneC.lit rfl | exact OneC.sl (hX (by repeat constructor)) )) (by repeat (first | exact OneAll.nil | (refine OneAll.cons ?_ ?_; · first | exact OneC.lit rfl | exact OneC.sl (hX (by repeat constructor)) ) | exact OneAll.rd (hX (by repeat constructor)))) rfl (pB (by repeat constructor)) rfl (?_))
      refine o_nil ?_
      refine c_seq ?_
      refine c_region ?_
      refine o_val (v_move rfl) (dd rfl) ?_
      refine o_val (v_move rfl) (dd rfl) ?_
      refine o_val ((by first | exact v_indexAddrN Tryz.underlying62 ti58 rfl rfl (hX (by repeat constructor)) (by omega) | exact v_indexAddr Tryz.underlying62 ti58 rfl rfl (hX (by repeat constructor)) (by omega))) (dd rfl) ?_
      refine o_step (s_load_shape ⟨_, Tryz.underlying58⟩ ti58 rfl (dd rfl) (by repeat (first|exact el1 (by omega)|exact el2 (by omega)|exact el3 (by omega)|apply Elem.there)) (pr_open) (fun g' => ?_))
      refine o_step (s_alloc ti58 (dd rfl) (fun b9 => ?_))
      refine o_step (s_store_all ti58 rfl rfl (by first | exact CellsV.lit rfl | exact CellsV.one (by first | exact OneC.lit rfl | exact OneC.sl (hX (by repeat constructor)) )) (by repeat (first | exact OneAll.nil | (refine OneAll.cons ?_ ?_; · first | exact OneC.lit rfl | exact OneC.sl (hX (by repeat constructor)) ) | exact OneAll.rd (hX (by repeat constructor)))) rfl (pB (by repeat constructor)) rfl (?_))
      refine o_nil ?_
      refine c_seq ?_
      refine c_region ?_
      refine o_val (v_move rfl) (dd rfl) ?_
      refine o_val (v_load_all ⟨_, Tryz.underlying58⟩ ti58 rfl (hX (by repeat constructor)) rfl) (dd rfl) ?_
      refine o_val (v_load_all ⟨_, Tryz.underlying58⟩ ti58 rfl (hX (by repeat constructor)) rfl) (dd rfl) ?_
      refine o_step (s_call_keep cl39 (hS g.1 g.2 g'.1 g'.2) (first := []) (cap := []) rfl rfl rfl (dd rfl) (rX (by repeat constructor)) (fun _ => sX) (fun _ _ => ?_))
      refine o_val (v_not rfl) (dd rfl) ?_
      refine o_nil ?_
      refine c_cond rfl (fun hb => ?_) (fun hb => ?_)
      · have hne : ¬ xs[k] = ys[k] := by intro q; rw [decide_eq_true q] at hb; cases hb
        refine c_seq ?_
        refine c_region ?_
        refine o_val (v_assign rfl) (dd rfl) ?_
        refine o_nil ?_
        refine c_ret1 Tryz.func105 rfl rfl fun w O hS => ?_
        exact ⟨(), by rw [decide_eq_false]; intro q; subst q; exact hne rfl, trivial, trivial⟩
      · have heq : xs[k] = ys[k] := Classical.byContradiction fun q => by rw [decide_eq_false q] at hb; cases hb
        refine c_skip ?_
        refine c_inBlock ?_
        refine c_region ?_
        refine o_val ((by first | exact v_add64 rfl rfl (by omega) | exact v_add rfl rfl)) (dd rfl) ?_
        refine o_val (v_move rfl) (dd rfl) ?_
        refine o_nil ?_
        refine c_use (IH (k + 1) (by first | omega | (dsimp only; omega)) (⟨by omega, take_next hkx hky he heq⟩)) (by repeat (first | exact trivial | refine ⟨rfl, ?_⟩)) (eX (by repeat constructor))
    · refine c_exit rfl ?_
      refine c_seq ?_
      refine c_region ?_
      refine o_val (v_assign rfl) (dd rfl) ?_
      refine o_nil ?_
      refine c_ret1 Tryz.func105 rfl rfl fun w O hS => ?_
      refine ⟨(), ?_, trivial, trivial⟩
      rw [List.take_of_length_le (by omega), List.take_of_length_le (by omega)] at he
      rw [decide_eq_true he]
set_option maxRecDepth 100000 in
theorem samePrims_con (v u : Value) (xs ys : List Pr9) (hx : ShortL xs) (hy : ShortL ys) : Con Tryz.prog 83 [v, u] [Sl ePr v xs, Sl ePr u ys] (γ := Unit) (fun _ => .bool (decide (xs = ys))) (fun _ => True) (fun _ => []) := by
  have h := eqPrims_con v u xs ys hx hy
  refine con_of Tryz.func83 rfl (dd rfl) fun w0 O0 => ?_
  refine c_seq ?_
  refine c_region ?_
  refine o_val (v_assign rfl) (dd rfl) ?_
  refine o_nil ?_
  refine c_seq ?_
  refine c_region ?_
  refine o_val (v_move rfl) (dd rfl) ?_
  refine o_val (v_move rfl) (dd rfl) ?_
  refine o_step (s_callf cl105 (h) rfl (dd rfl) (pXs (by repeat constructor)) fun _ _ => ?_)
  refine o_val (v_assign rfl) (dd rfl) ?_
  refine o_nil ?_
  refine c_ret1 Tryz.func83 rfl rfl fun w O hS => ?_
  exact ⟨(), rfl, trivial, trivial⟩
set_option maxRecDepth 100000 in
theorem eqInts_con (v u : Value) (xs ys : List Int) (hx : xs.length ≤ 1000000) (hy : ys.length ≤ 1000000) : Con Tryz.prog 82 [v, u] [Sl (eInt .i64) v xs, Sl (eInt .i64) u ys] (γ := Unit) (fun _ => .bool (decide (xs = ys))) (fun _ => True) (fun _ => []) := by
  refine con_of Tryz.func82 rfl (dd rfl) fun w0 O0 => ?_
  refine c_seq ?_
  refine c_region ?_
  refine o_val (v_assign rfl) (dd rfl) ?_
  refine o_nil ?_
  refine c_seq ?_
  refine c_seq ?_
  refine c_region ?_
  refine o_val (v_move rfl) (dd rfl) ?_
  refine o_val ((by first | exact v_len_form Tryz.underlying32 rfl | exact v_len_sl Tryz.underlying32 rfl (hX (by repeat constructor)))) (dd rfl) ?_
  refine o_val (v_move rfl) (dd rfl) ?_
  refine o_val ((by first | exact v_len_form Tryz.underlying32 rfl | exact v_len_sl Tryz.underlying32 rfl (hX (by repeat constructor)))) (dd rfl) ?_
  refine o_val (v_ne rfl rfl) (dd rfl) ?_
  refine o_nil ?_
  refine c_cond_p rfl (fun h => ?_) (fun h => ?_)
  · refine c_seq ?_
    refine c_region ?_
    refine o_val (v_assign rfl) (dd rfl) ?_
    refine o_nil ?_
    refine c_ret1 Tryz.func82 rfl rfl fun w O hS => ?_
    exact ⟨(), by rw [decide_eq_false (fun e => h (by rw [e]))], trivial, trivial⟩
  · refine c_skip ?_
    refine c_seq ?_
    refine c_seq ?_
    refine c_region ?_
    refine o_val (v_move rfl) (dd rfl) ?_
    refine o_val ((by first | exact v_len_form Tryz.underlying32 rfl | exact v_len_sl Tryz.underlying32 rfl (hX (by repeat constructor)))) (dd rfl) ?_
    refine o_val (v_move rfl) (dd rfl) ?_
    refine o_nil ?_
    refine c_block ?_
    refine c_loopR (γ := Nat) [(0, _), (1, _), (4, _), (12, _)] (fun k => xs.length - k) (fun k => k ≤ xs.length ∧ xs.take k = ys.take k) (fun k => [(13, .int .i64 k)]) (fun _ => [Sl (eInt .i64) v xs, Sl (eInt .i64) u ys]) (0) (⟨Nat.zero_le _, rfl⟩) (by repeat (first | exact trivial | refine ⟨rfl, ?_⟩)) (eX (by repeat constructor)) ?_
    rintro k ⟨hk, he⟩ IH
    try dsimp only [List.cons_append, List.nil_append]
    refine c_seq ?_
    refine c_region ?_
    refine o_val (v_lt rfl rfl) (dd rfl) ?_
    refine o_nil ?_
    refine c_seq ?_
    refine c_cond_p rfl (fun hlt => ?_) (fun hlt => ?_)
    · have hkx : k < xs.length := by omega
      have hky : k < ys.length := by omega
      refine c_skip ?_
      refine c_seq ?_
      refine c_block ?_
      refine c_seq ?_
      refine c_region ?_
      refine o_val (v_move rfl) (dd rfl) ?_
      refine o_val (v_assign rfl) (dd rfl) ?_
      refine o_nil ?_
      refine c_seq ?_
      refine c_quiet rfl (by kernel_rfl) ?_
      refine q_val (v_move rfl) (dd rfl) ?_
      refine q_val (v_move rfl) (dd rfl) ?_
      refine q_val ((by first | exact v_indexAddrN Tryz.underlying32 ti3 rfl rfl (hX (by repeat constructor)) (by omega) | exact v_indexAddr Tryz.underlying32 ti3 rfl rfl (hX (by repeat constructor)) (by omega))) (dd rfl) ?_
      refine q_val (v_load_int lone3 rfl (by repeat (first | exact Elem.sl (List.getElem?_eq_getElem (by omega)) | exact Elem.own (List.getElem?_eq_getElem (by omega)) | exact Elem.ownO (List.getElem?_eq_getElem (by omega)) | apply Elem.there))) (dd rfl) ?_
      refine q_val (v_move rfl) (dd rfl) ?_
      refine q_val (v_move rfl) (dd rfl) ?_
      refine q_val ((by first | exact v_indexAddrN Tryz.underlying32 ti3 rfl rfl (hX (by repeat constructor)) (by omega) | exact v_indexAddr Tryz.underlying32 ti3 rfl rfl (hX (by repeat constructor)) (by omega))) (dd rfl) ?_
      refine q_val (v_load_int lone3 rfl (by repeat (first | exact Elem.sl (List.getElem?_eq_getElem (by omega)) | exact Elem.own (List.getElem?_eq_getElem (by omega)) | exact Elem.ownO (List.getElem?_eq_getElem (by omega)) | apply Elem.there))) (dd rfl) ?_
      refine q_val (v_ne rfl rfl) (dd rfl) ?_
      refine q_nil ?_
      refine c_cond_p rfl (fun hne => ?_) (fun hne => ?_)
      · refine c_seq ?_
        refine c_region ?_
        refine o_val (v_assign rfl) (dd rfl) ?_
        refine o_nil ?_
        refine c_ret1 Tryz.func82 rfl rfl fun w O hS => ?_
        exact ⟨(), by rw [decide_eq_false]; intro q; subst q; exact hne rfl, trivial, trivial⟩
      · refine c_skip ?_
        refine c_inBlock ?_
        refine c_region ?_
        refine o_val ((by first | exact v_add64 rfl rfl (by omega) | exact v_add rfl rfl)) (dd rfl) ?_
        refine o_val (v_move rfl) (dd rfl) ?_
        refine o_nil ?_
        refine c_use (IH (k + 1) (by first | omega | (dsimp only; omega)) (⟨by omega, take_next hkx hky he (Classical.not_not.1 hne)⟩)) (by repeat (first | exact trivial | refine ⟨rfl, ?_⟩)) (eX (by repeat constructor))
    · refine c_exit rfl ?_
      refine c_seq ?_
      refine c_region ?_
      refine o_val (v_assign rfl) (dd rfl) ?_
      refine o_nil ?_
      refine c_ret1 Tryz.func82 rfl rfl fun w O hS => ?_
      refine ⟨(), ?_, trivial, trivial⟩
      rw [List.take_of_length_le (by omega), List.take_of_length_le (by omega)] at he
      rw [decide_eq_true he]
/-- Patches that are short enough to be compared. -/
def ShortT (p : Pt9) : Prop := p.2.2.1.length ≤ 1000000 ∧ ShortL p.2.2.2
set_option maxRecDepth 100000 in
theorem sameT_con (p q : Pt9) (dv lv dv' lv' : Value) (hp : ShortT p) (hq : ShortT q) : Con Tryz.prog 40 [.agg #[.int .i64 p.1, .string p.2.1, dv, lv], .agg #[.int .i64 q.1, .string q.2.1, dv', lv']] [Sl (eInt .i64) dv p.2.2.1, Sl ePr lv p.2.2.2, Sl (eInt .i64) dv' q.2.2.1, Sl ePr lv' q.2.2.2] (γ := Unit) (fun _ => .bool (decide (p = q))) (fun _ => True) (fun _ => []) := by
  obtain ⟨k, n, d, l⟩ := p
  obtain ⟨k', n', d', l'⟩ := q
  obtain ⟨hp1, hp2⟩ := hp
  obtain ⟨hq1, hq2⟩ := hq
  dsimp only at hp1 hp2 hq1 hq2 ⊢
  have h1 := eqInts_con dv dv' d d' hp1 hq1
  have h2 := samePrims_con lv lv' l l' hp2 hq2
  refine con_of Tryz.func40 rfl (dd rfl) fun w0 O0 => ?_
  refine c_seq ?_
  refine c_region ?_
  refine o_step (s_box rfl (dd rfl) (fun b2 => ?_))
  refine o_step (s_box rfl (dd rfl) (fun b3 => ?_))
  refine o_val (v_assign rfl) (dd rfl) ?_
  refine o_nil ?_
  refine c_seq ?_
  refine c_region ?_
  refine o_val (v_fieldAddrC 0 Tryz.underlying67 rfl ti3 (by decide) rfl) (dd rfl) ?_
  refine o_val (v_load lone3 rfl (hX (by repeat constructor)) rfl) (dd rfl) ?_
  refine o_val (v_fieldAddrC 0 Tryz.underlying67 rfl ti3 (by decide) rfl) (dd rfl) ?_
  refine o_val (v_load lone3 rfl (hX (by repeat constructor)) rfl) (dd rfl) ?_
  refine o_val (v_eq rfl rfl) (dd rfl) ?_
  refine o_val (v_move rfl) (dd rfl) ?_
  refine o_guard_t rfl rfl (fun g1 => ?_) (fun g1 => ?_)
  · refine o_val (v_fieldAddrC 1 Tryz.underlying67 rfl ti9 (by decide) rfl) (dd rfl) ?_
    refine o_on rfl rfl ?_
    refine o_val (v_load lone9 rfl (hX (by repeat constructor)) rfl) (dd rfl) ?_
    refine o_on rfl rfl ?_
    refine o_val (v_fieldAddrC 1 Tryz.underlying67 rfl ti9 (by decide) rfl) (dd rfl) ?_
    refine o_on rfl rfl ?_
    refine o_val (v_load lone9 rfl (hX (by repeat constructor)) rfl) (dd rfl) ?_
    refine o_on rfl rfl ?_
    refine o_val (v_seq rfl rfl) (dd rfl) ?_
    refine o_val (v_pick_t rfl rfl) (dd rfl) ?_
    refine o_val (v_move rfl) (dd rfl) ?_
    refine o_guard_t rfl rfl (fun g2 => ?_) (fun g2 => ?_)
    · refine o_val (v_fieldAddrC 2 Tryz.underlying67 rfl ti32 (by decide) rfl) (dd rfl) ?_
      refine o_on rfl rfl ?_
      refine o_val (v_load lone32 rfl (hX (by repeat constructor)) rfl) (dd rfl) ?_
      refine o_on rfl rfl ?_
      refine o_val (v_fieldAddrC 2 Tryz.underlying67 rfl ti32 (by decide) rfl) (dd rfl) ?_
      refine o_on rfl rfl ?_
      refine o_val (v_load lone32 rfl (hX (by repeat constructor)) rfl) (dd rfl) ?_
      refine o_on rfl rfl ?_
      refine o_step (s_callf_keep cl82 (h1) rfl (dd rfl) (rX (by repeat constructor)) (fun _ => sX) (fun _ _ => ?_))
      refine o_val (v_pick_t rfl rfl) (dd rfl) ?_
      refine o_val (v_move rfl) (dd rfl) ?_
      refine o_guard rfl rfl (fun g3 => ?_) (fun g3 => ?_)
      · have g3' : d = d' := of_decide_eq_true g3
        refine o_val (v_fieldAddrC 3 Tryz.underlying67 rfl ti62 (by decide) rfl) (dd rfl) ?_
        refine o_on rfl rfl ?_
        refine o_val (v_load lone62 rfl (hX (by repeat constructor)) rfl) (dd rfl) ?_
        refine o_on rfl rfl ?_
        refine o_val (v_fieldAddrC 3 Tryz.underlying67 rfl ti62 (by decide) rfl) (dd rfl) ?_
        refine o_on rfl rfl ?_
        refine o_val (v_load lone62 rfl (hX (by repeat constructor)) rfl) (dd rfl) ?_
        refine o_on rfl rfl ?_
        refine o_step (s_callf_keep cl83 (h2) rfl (dd rfl) (rX (by repeat constructor)) (fun _ => sX) (fun _ _ => ?_))
        refine o_val (v_pick_t rfl rfl) (dd rfl) ?_
        refine o_val (v_assign rfl) (dd rfl) ?_
        refine o_nil ?_
        refine c_ret1 Tryz.func40 rfl rfl fun w O hS => ?_
        subst g1; subst g2; subst g3'
        exact ⟨(), congrArg Value.bool (decide_eq_decide.2 ⟨fun h => by rw [h], fun h => by injection h with _ h; injection h with _ h; injection h with _ h⟩), trivial, trivial⟩
      · have g3' : ¬ d = d' := of_decide_eq_false g3
        refine o_off rfl rfl rfl (dd rfl) ?_
        refine o_off rfl rfl rfl (dd rfl) ?_
        refine o_off rfl rfl rfl (dd rfl) ?_
        refine o_off rfl rfl rfl (dd rfl) ?_
        refine o_off rfl rfl rfl (dd rfl) ?_
        refine o_val (v_pick_f rfl rfl) (dd rfl) ?_
        refine o_val (v_assign rfl) (dd rfl) ?_
        refine o_nil ?_
        refine c_ret1 Tryz.func40 rfl rfl fun w O hS => ?_
        refine ⟨(), ?_, trivial, trivial⟩
        rw [decide_eq_false]
        intro q
        injection q
        simp_all
    · skip
      refine o_off rfl rfl rfl (dd rfl) ?_
      refine o_off rfl rfl rfl (dd rfl) ?_
      refine o_off rfl rfl rfl (dd rfl) ?_
      refine o_off rfl rfl rfl (dd rfl) ?_
      refine o_off rfl rfl rfl (dd rfl) ?_
      refine o_val (v_pick_f rfl rfl) (dd rfl) ?_
      refine o_val (v_move rfl) (dd rfl) ?_
      refine o_off rfl rfl rfl (dd rfl) ?_
      refine o_off rfl rfl rfl (dd rfl) ?_
      refine o_off rfl rfl rfl (dd rfl) ?_
      refine o_off rfl rfl rfl (dd rfl) ?_
      refine o_off rfl rfl rfl (dd rfl) ?_
      refine o_val (v_pick_f rfl rfl) (dd rfl) ?_
      refine o_val (v_assign rfl) (dd rfl) ?_
      refine o_nil ?_
      refine c_ret1 Tryz.func40 rfl rfl fun w O hS => ?_
      refine ⟨(), ?_, trivial, trivial⟩
      rw [decide_eq_false]
      intro q
      injection q
      simp_all
  · skip
    refine o_off rfl rfl rfl (dd rfl) ?_
    refine o_off rfl rfl rfl (dd rfl) ?_
    refine o_off rfl rfl rfl (dd rfl) ?_
    refine o_off rfl rfl rfl (dd rfl) ?_
    refine o_off rfl rfl rfl (dd rfl) ?_
    refine o_val (v_pick_f rfl rfl) (dd rfl) ?_
    refine o_val (v_move rfl) (dd rfl) ?_
    refine o_off rfl rfl rfl (dd rfl) ?_
    refine o_off rfl rfl rfl (dd rfl) ?_
    refine o_off rfl rfl rfl (dd rfl) ?_
    refine o_off rfl rfl rfl (dd rfl) ?_
    refine o_off rfl rfl rfl (dd rfl) ?_
    refine o_val (v_pick_f rfl rfl) (dd rfl) ?_
    refine o_val (v_move rfl) (dd rfl) ?_
    refine o_off rfl rfl rfl (dd rfl) ?_
    refine o_off rfl rfl rfl (dd rfl) ?_
    refine o_off rfl rfl rfl (dd rfl) ?_
    refine o_off rfl rfl rfl (dd rfl) ?_
    refine o_off rfl rfl rfl (dd rfl) ?_
    refine o_val (v_pick_f rfl rfl) (dd rfl) ?_
    refine o_val (v_assign rfl) (dd rfl) ?_
    refine o_nil ?_
    refine c_ret1 Tryz.func40 rfl rfl fun w O hS => ?_
    refine ⟨(), ?_, trivial, trivial⟩
    rw [decide_eq_false]
    intro q
    injection q
    simp_all
set_option maxRecDepth 100000 in
theorem sameTR_con (p q : Pt9) (dv lv dv' lv' : Value) (hp : ShortT p) (hq : ShortT q) : Con Tryz.prog 29 [.agg #[.int .i64 p.1, .string p.2.1, dv, lv], .agg #[.int .i64 q.1, .string q.2.1, dv', lv']] [Sl (eInt .i64) dv p.2.2.1, Sl ePr lv p.2.2.2, Sl (eInt .i64) dv' q.2.2.1, Sl ePr lv' q.2.2.2] (γ := Unit) (fun _ => .bool (decide (p = q))) (fun _ => True) (fun _ => []) := by
  obtain ⟨k, n, d, l⟩ := p
  obtain ⟨k', n', d', l'⟩ := q
  obtain ⟨hp1, hp2⟩ := hp
  obtain ⟨hq1, hq2⟩ := hq
  dsimp only at hp1 hp2 hq1 hq2 ⊢
  have h2 := allR_con lv lv' l l' hp2 hq2
  refine con_of Tryz.func29 rfl (dd rfl) fun w0 O0 => ?_
  refine c_seq ?_
  refine c_region ?_
  refine o_step (s_box rfl (dd rfl) (fun b2 => ?_))
  refine o_step (s_box rfl (dd rfl) (fun b3 => ?_))
  refine o_val (v_assign rfl) (dd rfl) ?_
  refine o_nil ?_
  refine c_seq ?_
  refine c_seq ?_
  refine c_env (env' := [(2, _), (3, _), (4, _)]) (by repeat (first | exact trivial | refine ⟨rfl, ?_⟩)) ?_
  refine c_joinb (d := 26) (decide (k ≠ k' ∨ n ≠ n' ∨ d.length ≠ d'.length)) ?_ ?_
  rotate_left
  · intro J
    refine c_region ?_
    refine o_val (v_fieldAddrC 0 Tryz.underlying34 rfl ti3 (by decide) rfl) (dd rfl) ?_
    refine o_val (v_load lone3 rfl (hX (by repeat constructor)) rfl) (dd rfl) ?_
    refine o_val (v_fieldAddrC 0 Tryz.underlying34 rfl ti3 (by decide) rfl) (dd rfl) ?_
    refine o_val (v_load lone3 rfl (hX (by repeat constructor)) rfl) (dd rfl) ?_
    refine o_val (v_ne rfl rfl) (dd rfl) ?_
    refine o_val (v_move rfl) (dd rfl) ?_
    first | refine o_guard_f rfl rfl (fun g11 => ?_) (fun g11 => ?_) | refine o_guard rfl rfl (fun g11 => ?_) (fun g11 => ?_)
    · refine o_val (v_fieldAddrC 1 Tryz.underlying34 rfl ti9 (by decide) rfl) (dd rfl) ?_
      refine o_on rfl rfl ?_
      refine o_val (v_load lone9 rfl (hX (by repeat constructor)) rfl) (dd rfl) ?_
      refine o_on rfl rfl ?_
      refine o_val (v_fieldAddrC 1 Tryz.underlying34 rfl ti9 (by decide) rfl) (dd rfl) ?_
      refine o_on rfl rfl ?_
      refine o_val (v_load lone9 rfl (hX (by repeat constructor)) rfl) (dd rfl) ?_
      refine o_on rfl rfl ?_
      refine o_val (v_sne rfl rfl) (dd rfl) ?_
      refine o_val (v_pick_f rfl rfl) (dd rfl) ?_
      refine o_val (v_move rfl) (dd rfl) ?_
      first | refine o_guard_f rfl rfl (fun g18 => ?_) (fun g18 => ?_) | refine o_guard rfl rfl (fun g18 => ?_) (fun g18 => ?_)
      · refine o_val (v_fieldAddrC 2 Tryz.underlying34 rfl ti32 (by decide) rfl) (dd rfl) ?_
        refine o_on rfl rfl ?_
        refine o_val (v_load lone32 rfl (hX (by repeat constructor)) rfl) (dd rfl) ?_
        refine o_on rfl rfl ?_
        refine o_val ((by first | exact v_len_form Tryz.underlying32 rfl | exact v_len_sl Tryz.underlying32 rfl (hX (by repeat constructor)))) (dd rfl) ?_
        refine o_on rfl rfl ?_
        refine o_val (v_fieldAddrC 2 Tryz.underlying34 rfl ti32 (by decide) rfl) (dd rfl) ?_
        refine o_on rfl rfl ?_
        refine o_val (v_load lone32 rfl (hX (by repeat constructor)) rfl) (dd rfl) ?_
        refine o_on rfl rfl ?_
        refine o_val ((by first | exact v_len_form Tryz.underlying32 rfl | exact v_len_sl Tryz.underlying32 rfl (hX (by repeat constructor)))) (dd rfl) ?_
        refine o_on rfl rfl ?_
        refine o_val (v_ne rfl rfl) (dd rfl) ?_
        refine o_val (v_pick_f rfl rfl) (dd rfl) ?_
        refine o_nil ?_
        exact c_use J ⟨Env.as rfl (congrArg Value.bool (by first | rfl | (simp_all; done) | (simp_all; omega) | (simp; omega))), (by repeat (first | exact trivial | refine ⟨rfl, ?_⟩))⟩ (by first | exact Ent.refl _ | exact eX (by repeat constructor))
      · refine o_off rfl rfl rfl (dd rfl) ?_
        refine o_off rfl rfl rfl (dd rfl) ?_
        refine o_off rfl rfl rfl (dd rfl) ?_
        refine o_off rfl rfl rfl (dd rfl) ?_
        refine o_off rfl rfl rfl (dd rfl) ?_
        refine o_off rfl rfl rfl (dd rfl) ?_
        refine o_off rfl rfl rfl (dd rfl) ?_
        refine o_val (v_pick_t rfl rfl) (dd rfl) ?_
        refine o_nil ?_
        exact c_use J ⟨Env.as rfl (congrArg Value.bool (by first | rfl | (simp_all; done) | (simp_all; omega) | (simp; omega))), (by repeat (first | exact trivial | refine ⟨rfl, ?_⟩))⟩ (by first | exact Ent.refl _ | exact eX (by repeat constructor))
    · refine o_off rfl rfl rfl (dd rfl) ?_
      refine o_off rfl rfl rfl (dd rfl) ?_
      refine o_off rfl rfl rfl (dd rfl) ?_
      refine o_off rfl rfl rfl (dd rfl) ?_
      refine o_off rfl rfl rfl (dd rfl) ?_
      refine o_val (v_pick_t rfl rfl) (dd rfl) ?_
      refine o_val (v_move rfl) (dd rfl) ?_
      refine o_off rfl rfl rfl (dd rfl) ?_
      refine o_off rfl rfl rfl (dd rfl) ?_
      refine o_off rfl rfl rfl (dd rfl) ?_
      refine o_off rfl rfl rfl (dd rfl) ?_
      refine o_off rfl rfl rfl (dd rfl) ?_
      refine o_off rfl rfl rfl (dd rfl) ?_
      refine o_off rfl rfl rfl (dd rfl) ?_
      refine o_val (v_pick_t rfl rfl) (dd rfl) ?_
      refine o_nil ?_
      exact c_use J ⟨Env.as rfl (congrArg Value.bool (by first | rfl | (simp_all; done) | (simp_all; omega) | (simp; omega))), (by repeat (first | exact trivial | refine ⟨rfl, ?_⟩))⟩ (by first | exact Ent.refl _ | exact eX (by repeat constructor))
  refine c_cond_p rfl (fun hb => ?_) (fun hb => ?_)
  · have hne : ¬ ((k, n, d, l) = (k', n', d', l')) := fun q => by
      cases q
      rcases hb with h | h | h <;> exact h rfl
    refine c_seq ?_
    refine c_region ?_
    refine o_val (v_assign rfl) (dd rfl) ?_
    refine o_nil ?_
    refine c_ret1 Tryz.func29 rfl rfl fun w O hS => ?_
    exact ⟨(), by rw [decide_eq_false hne], trivial, trivial⟩
  · have e1 : k = k' := Classical.byContradiction fun h => hb (.inl h)
    have e2 : n = n' := Classical.byContradiction fun h => hb (.inr (.inl h))
    have e3 : d.length = d'.length := by omega
    subst e1; subst e2
    refine c_skip ?_
    refine c_seq ?_
    refine c_seq ?_
    refine c_region ?_
    refine o_val (v_assign rfl) (dd rfl) ?_
    refine o_nil ?_
    refine c_block ?_
    refine c_loopR (γ := Nat) [(2, _), (3, _), (4, _)] (fun j => d.length - j) (fun j => j ≤ d.length ∧ d.take j = d'.take j) (fun j => [(5, .int .i64 j)]) (fun _ => [Blk b2 34 [.int .i64 k, .string n, dv, lv], Blk b3 34 [.int .i64 k, .string n, dv', lv'], Sl (eInt .i64) dv d, Sl (eInt .i64) dv' d', Sl ePr lv l, Sl ePr lv' l']) (0) (⟨Nat.zero_le _, rfl⟩) (by repeat (first | exact trivial | refine ⟨rfl, ?_⟩)) (eX (by repeat constructor)) ?_
    rintro j ⟨hj, he⟩ IH
    try dsimp only [List.cons_append, List.nil_append]
    refine c_seq ?_
    refine c_seq ?_
    refine c_region ?_
    refine o_val (v_move rfl) (dd rfl) ?_
    refine o_val (v_fieldAddrC 2 Tryz.underlying34 rfl ti32 (by decide) rfl) (dd rfl) ?_
    refine o_val (v_load lone32 rfl (hX (by repeat constructor)) rfl) (dd rfl) ?_
    refine o_val ((by first | exact v_len_form Tryz.underlying32 rfl | exact v_len_sl Tryz.underlying32 rfl (hX (by repeat constructor)))) (dd rfl) ?_
    refine o_val (v_lt rfl rfl) (dd rfl) ?_
    refine o_nil ?_
    refine c_cond_p rfl (fun hlt => ?_) (fun hlt => ?_)
    · have hkx : j < d.length := by omega
      have hky : j < d'.length := by omega
      refine c_skip ?_
      refine c_seq ?_
      refine c_block ?_
      refine c_seq ?_
      refine c_quiet rfl (by kernel_rfl) ?_
      refine q_val (v_fieldAddrC 2 Tryz.underlying34 rfl ti32 (by decide) rfl) (dd rfl) ?_
      refine q_val (v_load lone32 rfl (hX (by repeat constructor)) rfl) (dd rfl) ?_
      refine q_val (v_move rfl) (dd rfl) ?_
      refine q_val ((by first | exact v_indexAddrN Tryz.underlying32 ti3 rfl rfl (hX (by repeat constructor)) (by omega) | exact v_indexAddr Tryz.underlying32 ti3 rfl rfl (hX (by repeat constructor)) (by omega))) (dd rfl) ?_
      refine q_val (v_load_int lone3 rfl (by repeat (first | exact Elem.sl (List.getElem?_eq_getElem (by omega)) | exact Elem.own (List.getElem?_eq_getElem (by omega)) | exact Elem.ownO (List.getElem?_eq_getElem (by omega)) | apply Elem.there))) (dd rfl) ?_
      refine q_val (v_fieldAddrC 2 Tryz.underlying34 rfl ti32 (by decide) rfl) (dd rfl) ?_
      refine q_val (v_load lone32 rfl (hX (by repeat constructor)) rfl) (dd rfl) ?_
      refine q_val (v_move rfl) (dd rfl) ?_
      refine q_val ((by first | exact v_indexAddrN Tryz.underlying32 ti3 rfl rfl (hX (by repeat constructor)) (by omega) | exact v_indexAddr Tryz.underlying32 ti3 rfl rfl (hX (by repeat constructor)) (by omega))) (dd rfl) ?_
      refine q_val (v_load_int lone3 rfl (by repeat (first | exact Elem.sl (List.getElem?_eq_getElem (by omega)) | exact Elem.own (List.getElem?_eq_getElem (by omega)) | exact Elem.ownO (List.getElem?_eq_getElem (by omega)) | apply Elem.there))) (dd rfl) ?_
      refine q_val (v_ne rfl rfl) (dd rfl) ?_
      refine q_nil ?_
      refine c_cond_p rfl (fun hne => ?_) (fun hne => ?_)
      · refine c_seq ?_
        refine c_region ?_
        refine o_val (v_assign rfl) (dd rfl) ?_
        refine o_nil ?_
        refine c_ret1 Tryz.func29 rfl rfl fun w O hS => ?_
        exact ⟨(), by rw [decide_eq_false]; intro q; cases q; exact hne rfl, trivial, trivial⟩
      · refine c_skip ?_
        refine c_inBlock ?_
        refine c_region ?_
        refine o_val (v_move rfl) (dd rfl) ?_
        refine o_val ((by first | exact v_add64 rfl rfl (by omega) | exact v_add rfl rfl)) (dd rfl) ?_
        refine o_val (v_assign rfl) (dd rfl) ?_
        refine o_nil ?_
        refine c_use (IH (j + 1) (by first | omega | (dsimp only; omega)) (⟨by omega, take_next hkx hky he (Classical.not_not.1 hne)⟩)) (by repeat (first | exact trivial | refine ⟨rfl, ?_⟩)) (eX (by repeat constructor))
    · have ed : d = d' := by rwa [List.take_of_length_le (by omega), List.take_of_length_le (by omega)] at he
      subst ed
      refine c_exit rfl ?_
      refine c_seq ?_
      refine c_region ?_
      refine o_val (v_fieldAddrC 3 Tryz.underlying34 rfl ti31 (by decide) rfl) (dd rfl) ?_
      refine o_val (v_load lone31 rfl (hX (by repeat constructor)) rfl) (dd rfl) ?_
      refine o_val (v_fieldAddrC 3 Tryz.underlying34 rfl ti31 (by decide) rfl) (dd rfl) ?_
      refine o_val (v_load lone31 rfl (hX (by repeat constructor)) rfl) (dd rfl) ?_
      refine o_step (s_callf cl26 (h2) rfl (dd rfl) (pXs (by repeat constructor)) fun _ _ => ?_)
      refine o_val (v_assign rfl) (dd rfl) ?_
      refine o_nil ?_
      refine c_ret1 Tryz.func29 rfl rfl fun w O hS => ?_
      exact ⟨(), congrArg Value.bool (decide_eq_decide.2 ⟨fun h => by rw [h], fun h => by injection h with _ h; injection h with _ h; injection h with _ h⟩), trivial, trivial⟩
end Go.Proofs.YtmgkeippepeggaaGreatDoor

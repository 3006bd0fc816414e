import Derived.Test.YtnamhhmfnokfiaaW8
namespace Go.Proofs.Ytnamhhmfnokfiaa
open Go Go.SL

abbrev Ev13 := Int × List ByteArray
abbrev eEv : Enc Ev13 := ePair (eInt .i64) (eSl eStr)
theorem ev_open {z : Ev13} (w : World) (O : Perm) (c : List Value) (h : eEv.rd w O c z) : ∃ u : Value, c = [.int .i64 z.1, u] ∧ Stars [Sl eStr u z.2] w O := by
  obtain ⟨c1, c2, rfl, h1, u, rfl, h5⟩ := h
  have e1 : c1 = [.int .i64 z.1] := h1
  subst e1
  exact ⟨u, rfl, O, fun _ => 0, ⟨fun _ => Nat.le_refl _, fun _ => Nat.zero_le _, fun _ _ => rfl, fun _ h => by omega⟩, h5, trivial⟩
theorem addG {p : ByteArray} : addW [] 7 p = ([(7, p, [])], 0) := by rfl
theorem takeG {p : ByteArray} {q : List Nt} {n : Int} (hn : 0 ≤ n) : takeW [(7, p, q)] 7 n = ([(7, p, q.drop n.toNat)], q.take n.toNat, 0) := by
  rw [takeAt (i := 0) (w := (7, p, q)) (by rfl) rfl, (many_take n hn q).1, (many_take n hn q).2]; rfl
theorem pushG (ver : Int) (names : List ByteArray) {p : ByteArray} {q : List Nt} : pushW [(7, p, q)] ver names = [(7, p, if touched names p = [] then q else noteW ver (touched names p) q)] := by
  unfold pushW
  have e : stepW ver names (7, p, q) = (7, p, if touched names p = [] then q else noteW ver (touched names p) q) := by unfold stepW; split <;> rfl
  simp only [List.map_cons, List.map_nil, e]
theorem note_len {k : Int} {t : List ByteArray} {q : List Nt} (hq : q.length ≤ 4) : (noteW k t q).length ≤ 4 := by
  unfold noteW
  split
  · simp; omega
  · simp; omega
theorem cov_len : ∀ {g a : List Nt}, Cov g a → g.length ≤ a.length
  | [], _, _ => Nat.zero_le _
  | n :: g, all, h => by
    unfold Cov at h
    split at h
    · obtain ⟨a, rfl, h2⟩ := h
      have := cov_len h2
      simp; omega
    · obtain ⟨_, e, x, a, rfl, h2, _, h4⟩ := h
      have := cov_len h4
      simp; omega
/-- What is so at the head of each round. -/
structure GapJ (k : Nat) (all got q : List Nt) : Prop where
  q4 : q.length ≤ 4
  cov : Cov (got ++ q) all
  len : all.length ≤ k
  rise : all.Pairwise fun a b => a.1 < b.1
  low : ∀ x ∈ all, x.1 ≤ k
  nam : ∀ x ∈ all, x.2.1.length ≤ 8796093021952
theorem GapJ.take {k : Nat} {all got q : List Nt} (h : GapJ k all got q) (n : Nat) : GapJ (k + 1) all (got ++ q.take n) (q.drop n) :=
  ⟨by have := h.q4; simp; omega, by rw [List.append_assoc, List.take_append_drop]; exact h.cov, by have := h.len; omega, h.rise, fun x hx => by have := h.low x hx; omega, h.nam⟩
theorem GapJ.none {k : Nat} {all got q : List Nt} (h : GapJ k all got q) : GapJ (k + 1) all got q :=
  ⟨h.q4, h.cov, by have := h.len; omega, h.rise, fun x hx => by have := h.low x hx; omega, h.nam⟩
theorem GapJ.push {k : Nat} {all got q : List Nt} (h : GapJ k all got q) {t : List ByteArray} (ht : t.length ≤ 8796093021952) : GapJ (k + 1) (all ++ [((k : Int) + 1, t, false)]) got (noteW ((k : Int) + 1) t q) := by
  refine ⟨note_len h.q4, cov_note h.q4 h.cov, by have := h.len; simp; omega, ?_, fun x hx => ?_, fun x hx => ?_⟩
  · refine List.pairwise_append.2 ⟨h.rise, by simp, fun a ha b hb => ?_⟩
    rw [List.mem_singleton.1 hb]
    have := h.low a ha
    show a.1 < (k : Int) + 1
    omega
  · rcases List.mem_append.1 hx with hx | hx
    · have := h.low x hx; omega
    · rw [List.mem_singleton.1 hx]; show (k : Int) + 1 ≤ _; omega
  · rcases List.mem_append.1 hx with hx | hx
    · exact h.nam x hx
    · rw [List.mem_singleton.1 hx]; exact ht
attribute [local irreducible] Cfg Kont StepK Val Con Qops Any Sl Own Blk BlkR Rd Pu ExA AllA Has Pick Ent Elem Beside Callable TI Lone

set_option maxRecDepth 100000 in
theorem watchGaps_con (p : ByteArray) (v : Value) (l : List Ev13) (hps : p.size ≤ 140737488351232) (hl : l.length ≤ 8796093021952) (hn : ∀ x ∈ l, x.2.length ≤ 8796093021952 ∧ ∀ s ∈ x.2, s.size ≤ 140737488351232) : Con Try.prog 4 [.string p, v] [Sl eEv v l] (γ := Unit) (fun _ => .bool true) (fun _ => True) (fun _ => []) := by
  refine con_of Try.func4 rfl (Nat.le_of_ble_eq_true rfl) fun w0 O0 => ?_
  refine c_seq ?_
  refine c_region ?_
  refine o_val (v_assign rfl) (Nat.le_of_ble_eq_true rfl) ?_
  refine o_nil ?_
  refine c_seq ?_
  refine c_region ?_
  refine o_val (v_move rfl) (Nat.le_of_ble_eq_true rfl) ?_
  refine o_val (v_len_str Try.underlying9 rfl) (Nat.le_of_ble_eq_true rfl) ?_
  refine o_val (v_assign rfl) (Nat.le_of_ble_eq_true rfl) ?_
  refine o_nil ?_
  refine c_seq ?_
  refine c_seq ?_
  refine c_region ?_
  refine o_val (v_move rfl) (Nat.le_of_ble_eq_true rfl) ?_
  refine o_val ((by first | exact v_len_form Try.underlying44 rfl | exact v_len_sl Try.underlying44 rfl (by repeat (first | exact Has.here | exact Has.sl_apd | exact Has.sl_own | exact Has.r_blk | apply Has.there)))) (Nat.le_of_ble_eq_true rfl) ?_
  refine o_val (v_move rfl) (Nat.le_of_ble_eq_true rfl) ?_
  refine o_nil ?_
  refine c_block ?_
  refine c_loopR (γ := Nat × Int) [(0, _), (1, _), (4, _), (22, _), (23, _)] (fun g => l.length - g.1) (fun g => g.1 ≤ l.length) (fun g => [(24, .int .i64 g.1), (5, .int .i64 g.2)]) (fun _ => [Sl eEv v l]) ((0, _)) (Nat.zero_le _) (by repeat (first | exact trivial | refine ⟨rfl, ?_⟩)) (Picks.ent (by repeat (first | exact Picks.nil | (apply Picks.cons; · repeat (first | exact Pick.keep (Sl.isDup _ _ _) | exact Pick.keep (BlkR.isDup _ _ _) | exact Pick.keep (FldCell.isDup _ _) | exact Pick.here | exact Pick.own_sl | exact Pick.apd_sl | exact Pick.r_blk | exact Pick.sl_nil | exact Pick.own_nil | exact Pick.map_itO _ | apply Pick.there))))) ?_
  rintro ⟨i, s⟩ hi IH
  dsimp only at hi ⊢
  try dsimp only [List.cons_append, List.nil_append]
  refine c_seq ?_
  refine c_region ?_
  refine o_val (v_lt rfl rfl) (Nat.le_of_ble_eq_true rfl) ?_
  refine o_nil ?_
  refine c_seq ?_
  refine c_cond_p rfl (fun hlt => ?_) (fun hlt => ?_)
  · have hi' : i < l.length := by omega
    have hli := (hn _ (List.getElem_mem hi')).1
    refine c_skip ?_
    refine c_seq ?_
    refine c_block ?_
    refine c_seq ?_
    refine c_region ?_
    refine o_val ((by first | exact v_indexAddrN Try.underlying44 ti46 rfl rfl (by repeat (first | exact Has.here | exact Has.sl_apd | exact Has.sl_own | exact Has.r_blk | apply Has.there)) (by omega) | exact v_indexAddr Try.underlying44 ti46 rfl rfl (by repeat (first | exact Has.here | exact Has.sl_apd | exact Has.sl_own | exact Has.r_blk | apply Has.there)) (by omega))) (Nat.le_of_ble_eq_true rfl) ?_
    refine o_step (s_load_shape ⟨_, Try.underlying46⟩ ti46 rfl (Nat.le_of_ble_eq_true rfl) (by repeat (first | exact Elem.sl (List.getElem?_eq_getElem (by omega)) | exact Elem.own (List.getElem?_eq_getElem (by omega)) | apply Elem.there)) (ev_open) (fun c => ?_))
    refine o_step (s_alloc ti46 (Nat.le_of_ble_eq_true rfl) (fun b7 => ?_))
    refine o_step (s_store_all ti46 rfl rfl (by first | exact CellsV.lit rfl | exact CellsV.one (by first | exact OneC.lit rfl | exact OneC.sl (by repeat (first | exact Has.here | exact Has.sl_apd | exact Has.sl_own | exact Has.r_blk | apply Has.there)) )) (by repeat (first | exact OneAll.nil | (refine OneAll.cons ?_ ?_; · first | exact OneC.lit rfl | exact OneC.sl (by repeat (first | exact Has.here | exact Has.sl_apd | exact Has.sl_own | exact Has.r_blk | apply Has.there)) ) | exact OneAll.rd (by repeat (first | exact Has.here | exact Has.sl_apd | exact Has.sl_own | exact Has.r_blk | apply Has.there)))) rfl (by repeat (first | exact Pick.here | exact Pick.own_nil | apply Pick.there)) rfl (?_))
    refine o_nil ?_
    refine c_seq ?_
    refine c_region ?_
    refine o_val (v_move rfl) (Nat.le_of_ble_eq_true rfl) ?_
    refine o_val (v_fieldAddrC 1 Try.underlying46 rfl ti30 (by decide) rfl) (Nat.le_of_ble_eq_true rfl) ?_
    refine o_val (v_load lone30 rfl (by repeat (first | exact Has.here | exact Has.sl_apd | exact Has.sl_own | exact Has.r_blk | apply Has.there)) rfl) (Nat.le_of_ble_eq_true rfl) ?_
    refine o_val ((by first | exact v_len_form Try.underlying30 rfl | exact v_len_sl Try.underlying30 rfl (by repeat (first | exact Has.here | exact Has.sl_apd | exact Has.sl_own | exact Has.r_blk | apply Has.there)))) (Nat.le_of_ble_eq_true rfl) ?_
    refine o_val ((by first | exact v_add64 rfl rfl (by omega) | exact v_add rfl rfl)) (Nat.le_of_ble_eq_true rfl) ?_
    refine o_val (v_assign rfl) (Nat.le_of_ble_eq_true rfl) ?_
    refine o_nil ?_
    refine c_seq ?_
    refine c_region ?_
    refine o_val (v_fieldAddrC 1 Try.underlying46 rfl ti30 (by decide) rfl) (Nat.le_of_ble_eq_true rfl) ?_
    refine o_val (v_load lone30 rfl (by repeat (first | exact Has.here | exact Has.sl_apd | exact Has.sl_own | exact Has.r_blk | apply Has.there)) rfl) (Nat.le_of_ble_eq_true rfl) ?_
    refine o_val ((by first | exact v_len_form Try.underlying30 rfl | exact v_len_sl Try.underlying30 rfl (by repeat (first | exact Has.here | exact Has.sl_apd | exact Has.sl_own | exact Has.r_blk | apply Has.there)))) (Nat.le_of_ble_eq_true rfl) ?_
    refine o_val (v_move rfl) (Nat.le_of_ble_eq_true rfl) ?_
    refine o_nil ?_
    refine c_block ?_
    refine c_loopR (γ := Nat × Int) [(0, _), (1, _), (4, _), (7, _), (22, _), (23, _), (24, _), (25, _), (26, _), (27, _), (28, _), (29, _), (30, _), (31, _), (32, _), (33, _), (34, _), (35, _)] (fun g => l[i].2.length - g.1) (fun g => g.1 ≤ l[i].2.length) (fun g => [(36, .int .i64 g.1), (5, .int .i64 g.2)]) (fun _ => [Sl eStr c l[i].2, Sl eEv v l]) ((0, _)) (Nat.zero_le _) (by repeat (first | exact trivial | refine ⟨rfl, ?_⟩)) (Picks.ent (by repeat (first | exact Picks.nil | (apply Picks.cons; · repeat (first | exact Pick.keep (Sl.isDup _ _ _) | exact Pick.keep (BlkR.isDup _ _ _) | exact Pick.keep (FldCell.isDup _ _) | exact Pick.here | exact Pick.own_sl | exact Pick.apd_sl | exact Pick.r_blk | exact Pick.sl_nil | exact Pick.own_nil | exact Pick.map_itO _ | apply Pick.there))))) ?_
    rintro ⟨j, s2⟩ hj IH2
    dsimp only at hj ⊢
    try dsimp only [List.cons_append, List.nil_append]
    refine c_seq ?_
    refine c_region ?_
    refine o_val (v_lt rfl rfl) (Nat.le_of_ble_eq_true rfl) ?_
    refine o_nil ?_
    refine c_seq ?_
    refine c_cond_p rfl (fun hlt2 => ?_) (fun hlt2 => ?_)
    · have hj' : j < l[i].2.length := by omega
      refine c_skip ?_
      refine c_seq ?_
      refine c_block ?_
      refine c_seq ?_
      refine c_region ?_
      refine o_val ((by first | exact v_indexAddrN Try.underlying30 ti9 rfl rfl (by repeat (first | exact Has.here | exact Has.sl_apd | exact Has.sl_own | exact Has.r_blk | apply Has.there)) (by omega) | exact v_indexAddr Try.underlying30 ti9 rfl rfl (by repeat (first | exact Has.here | exact Has.sl_apd | exact Has.sl_own | exact Has.r_blk | apply Has.there)) (by omega))) (Nat.le_of_ble_eq_true rfl) ?_
      refine o_val (v_load_str lone9 rfl (by repeat (first | exact Elem.sl (List.getElem?_eq_getElem (by omega)) | exact Elem.own (List.getElem?_eq_getElem (by omega)) | apply Elem.there))) (Nat.le_of_ble_eq_true rfl) ?_
      refine o_val (v_assign rfl) (Nat.le_of_ble_eq_true rfl) ?_
      refine o_nil ?_
      refine c_region ?_
      refine o_val (v_move rfl) (Nat.le_of_ble_eq_true rfl) ?_
      refine o_val (v_move rfl) (Nat.le_of_ble_eq_true rfl) ?_
      refine o_val (v_len_str Try.underlying9 rfl) (Nat.le_of_ble_eq_true rfl) ?_
      refine o_val ((by first | exact v_add64 rfl rfl (by omega) | exact v_add rfl rfl)) (Nat.le_of_ble_eq_true rfl) ?_
      refine o_val (v_assign rfl) (Nat.le_of_ble_eq_true rfl) ?_
      refine o_nil ?_
      refine c_inBlock ?_
      refine c_region ?_
      refine o_val ((by first | exact v_add64 rfl rfl (by omega) | exact v_add rfl rfl)) (Nat.le_of_ble_eq_true rfl) ?_
      refine o_val (v_move rfl) (Nat.le_of_ble_eq_true rfl) ?_
      refine o_nil ?_
      refine c_use (IH2 ((j + 1, _)) (by first | omega | (dsimp only; omega)) (by dsimp only; omega)) (by repeat (first | exact trivial | refine ⟨rfl, ?_⟩)) (Picks.ent (by repeat (first | exact Picks.nil | (apply Picks.cons; · repeat (first | exact Pick.keep (Sl.isDup _ _ _) | exact Pick.keep (BlkR.isDup _ _ _) | exact Pick.keep (FldCell.isDup _ _) | exact Pick.here | exact Pick.own_sl | exact Pick.apd_sl | exact Pick.r_blk | exact Pick.sl_nil | exact Pick.own_nil | exact Pick.map_itO _ | apply Pick.there)))))
    · refine c_exit rfl ?_
      refine c_inBlock ?_
      refine c_region ?_
      refine o_val ((by first | exact v_add64 rfl rfl (by omega) | exact v_add rfl rfl)) (Nat.le_of_ble_eq_true rfl) ?_
      refine o_val (v_move rfl) (Nat.le_of_ble_eq_true rfl) ?_
      refine o_nil ?_
      refine c_use (IH ((i + 1, s2)) (by first | omega | (dsimp only; omega)) (by dsimp only; omega)) (by repeat (first | exact trivial | refine ⟨rfl, ?_⟩)) (Picks.ent (by repeat (first | exact Picks.nil | (apply Picks.cons; · repeat (first | exact Pick.keep (Sl.isDup _ _ _) | exact Pick.keep (BlkR.isDup _ _ _) | exact Pick.keep (FldCell.isDup _ _) | exact Pick.here | exact Pick.own_sl | exact Pick.apd_sl | exact Pick.r_blk | exact Pick.sl_nil | exact Pick.own_nil | exact Pick.map_itO _ | apply Pick.there)))))
  · refine c_exit rfl ?_
    refine c_seq ?_
    refine c_seq ?_
    refine c_region ?_
    refine o_val (v_move rfl) (Nat.le_of_ble_eq_true rfl) ?_
    refine o_val ((by first | exact v_len_form Try.underlying44 rfl | exact v_len_sl Try.underlying44 rfl (by repeat (first | exact Has.here | exact Has.sl_apd | exact Has.sl_own | exact Has.r_blk | apply Has.there)))) (Nat.le_of_ble_eq_true rfl) ?_
    refine o_val (v_gt rfl rfl) (Nat.le_of_ble_eq_true rfl) ?_
    refine o_val (v_move rfl) (Nat.le_of_ble_eq_true rfl) ?_
    refine o_guard_f rfl rfl (fun h1 => ?_) (fun h1 => ?_)
    · refine o_val (v_move rfl) (Nat.le_of_ble_eq_true rfl) ?_
      refine o_on rfl rfl ?_
      refine o_val (v_gt rfl rfl) (Nat.le_of_ble_eq_true rfl) ?_
      refine o_val (v_pick_f rfl rfl) (Nat.le_of_ble_eq_true rfl) ?_
      refine o_nil ?_
      refine c_cond_p rfl (fun h2 => ?_) (fun h2 => ?_)
      · refine c_seq ?_
        refine c_region ?_
        refine o_step (s_callf cl16 (alive_con) rfl (Nat.le_of_ble_eq_true rfl) (by repeat (first | exact Picks.nil | (apply Picks.cons; · repeat (first | exact Pick.keep (Sl.isDup _ _ _) | exact Pick.keep (BlkR.isDup _ _ _) | exact Pick.keep (FldCell.isDup _ _) | exact Pick.here | exact Pick.own_sl | exact Pick.apd_sl | exact Pick.r_blk | exact Pick.sl_nil | exact Pick.own_nil | exact Pick.map_itO _ | apply Pick.there)))) fun _ _ => ?_)
        refine o_val (v_assign rfl) (Nat.le_of_ble_eq_true rfl) ?_
        refine o_nil ?_
        refine c_ret1 Try.func4 rfl rfl fun w O hS => ?_
        exact ⟨(), rfl, trivial, trivial⟩
      · have hl80 : l.length ≤ 80 := by omega
        refine c_skip ?_
        refine c_seq ?_
        refine c_region ?_
        refine o_step (s_alloc ti28 (Nat.le_of_ble_eq_true rfl) (fun b10 => ?_))
        refine o_nil ?_
        refine c_seq ?_
        refine c_seq ?_
        refine c_region ?_
        refine o_val (v_move rfl) (Nat.le_of_ble_eq_true rfl) ?_
        refine o_mk (hub_new (L := []) (h := b10)) (by repeat (first | exact Picks.nil | (apply Picks.cons; · repeat (first | exact Pick.keep (Sl.isDup _ _ _) | exact Pick.keep (BlkR.isDup _ _ _) | exact Pick.keep (FldCell.isDup _ _) | exact Pick.here | exact Pick.own_sl | exact Pick.apd_sl | exact Pick.r_blk | exact Pick.sl_nil | exact Pick.own_nil | exact Pick.map_itO _ | apply Pick.there)))) ?_
        refine o_step (s_callf cl22 (add_con b10 [] 7 p (by decide)) rfl (Nat.le_of_ble_eq_true rfl) (by repeat (first | exact Picks.nil | (apply Picks.cons; · repeat (first | exact Pick.keep (Sl.isDup _ _ _) | exact Pick.keep (BlkR.isDup _ _ _) | exact Pick.keep (FldCell.isDup _ _) | exact Pick.here | exact Pick.own_sl | exact Pick.apd_sl | exact Pick.r_blk | exact Pick.sl_nil | exact Pick.own_nil | exact Pick.map_itO _ | apply Pick.there)))) fun _ _ => ?_)
        refine o_val (v_ne rfl rfl) (Nat.le_of_ble_eq_true rfl) ?_
        refine o_nil ?_
        rw [addG]
        refine c_cond_f rfl ?_
        refine c_skip ?_
        refine c_seq ?_
        refine c_region ?_
        refine o_val (v_assign rfl) (Nat.le_of_ble_eq_true rfl) ?_
        refine o_val (v_assign rfl) (Nat.le_of_ble_eq_true rfl) ?_
        refine o_nil ?_
        refine c_seq ?_
        refine c_seq ?_
        refine c_region ?_
        refine o_val (v_move rfl) (Nat.le_of_ble_eq_true rfl) ?_
        refine o_val ((by first | exact v_len_form Try.underlying44 rfl | exact v_len_sl Try.underlying44 rfl (by repeat (first | exact Has.here | exact Has.sl_apd | exact Has.sl_own | exact Has.r_blk | apply Has.there)))) (Nat.le_of_ble_eq_true rfl) ?_
        refine o_val (v_move rfl) (Nat.le_of_ble_eq_true rfl) ?_
        refine o_nil ?_
        refine c_block ?_
        refine c_ent (Ent.beside (b := Own eNt 56 (.slice none 0 0) ([] : List Nt)) (fun w O _ => Own.nil eNt 56 w _)) ?_
        refine c_ent (Ent.beside (b := Own eNt 56 (.slice none 0 0) ([] : List Nt)) (fun w O _ => Own.nil eNt 56 w _)) ?_
        refine c_loopR (γ := Nat × Value × Value × List Nt × List Nt × List Nt) [(0, _), (4, _), (10, _), (57, _), (58, _)] (fun g => l.length - g.1) (fun g => g.1 ≤ l.length ∧ GapJ g.1 g.2.2.2.1 g.2.2.2.2.1 g.2.2.2.2.2) (fun g => [(59, .int .i64 g.1), (11, g.2.1), (12, g.2.2.1)]) (fun g => [Own eNt 56 g.2.1 g.2.2.2.1, Own eNt 56 g.2.2.1 g.2.2.2.2.1, HubA b10 [(7, p, g.2.2.2.2.2)], Sl eEv v l]) ((0, .slice none 0 0, .slice none 0 0, [], [], [])) (⟨Nat.zero_le _, ⟨Nat.zero_le _, rfl, Nat.zero_le _, List.Pairwise.nil, fun x hx => (List.not_mem_nil hx).elim, fun x hx => (List.not_mem_nil hx).elim⟩⟩) (by repeat (first | exact trivial | refine ⟨rfl, ?_⟩)) (Picks.ent (by repeat (first | exact Picks.nil | (apply Picks.cons; · repeat (first | exact Pick.keep (Sl.isDup _ _ _) | exact Pick.keep (BlkR.isDup _ _ _) | exact Pick.keep (FldCell.isDup _ _) | exact Pick.here | exact Pick.own_sl | exact Pick.apd_sl | exact Pick.r_blk | exact Pick.sl_nil | exact Pick.own_nil | exact Pick.map_itO _ | apply Pick.there))))) ?_
        rintro ⟨k, av, gv, all, got, q⟩ ⟨hk, hJ⟩ IH2
        dsimp only at hk hJ ⊢
        have hq4 := hJ.q4
        have hal := hJ.len
        have hgl := cov_len hJ.cov
        rw [List.length_append] at hgl
        try dsimp only [List.cons_append, List.nil_append]
        refine c_seq ?_
        refine c_region ?_
        refine o_val (v_lt rfl rfl) (Nat.le_of_ble_eq_true rfl) ?_
        refine o_nil ?_
        refine c_seq ?_
        refine c_cond_p rfl (fun hlt2 => ?_) (fun hlt2 => ?_)
        · have hk' : k < l.length := by omega
          obtain ⟨hkl, hks⟩ := hn _ (List.getElem_mem hk')
          have htl := touched_len l[k].2 p
          refine c_skip ?_
          refine c_seq ?_
          refine c_block ?_
          refine c_seq ?_
          refine c_region ?_
          refine o_val (v_move rfl) (Nat.le_of_ble_eq_true rfl) ?_
          refine o_val ((by first | exact v_indexAddrN Try.underlying44 ti46 rfl rfl (by repeat (first | exact Has.here | exact Has.sl_apd | exact Has.sl_own | exact Has.r_blk | apply Has.there)) (by omega) | exact v_indexAddr Try.underlying44 ti46 rfl rfl (by repeat (first | exact Has.here | exact Has.sl_apd | exact Has.sl_own | exact Has.r_blk | apply Has.there)) (by omega))) (Nat.le_of_ble_eq_true rfl) ?_
          refine o_step (s_load_shape ⟨_, Try.underlying46⟩ ti46 rfl (Nat.le_of_ble_eq_true rfl) (by repeat (first | exact Elem.sl (List.getElem?_eq_getElem (by omega)) | exact Elem.own (List.getElem?_eq_getElem (by omega)) | apply Elem.there)) (ev_open) (fun c => ?_))
          refine o_step (s_alloc ti46 (Nat.le_of_ble_eq_true rfl) (fun b14 => ?_))
          refine o_val (v_assign rfl) (Nat.le_of_ble_eq_true rfl) ?_
          refine o_step (s_store_all ti46 rfl rfl (by first | exact CellsV.lit rfl | exact CellsV.one (by first | exact OneC.lit rfl | exact OneC.sl (by repeat (first | exact Has.here | exact Has.sl_apd | exact Has.sl_own | exact Has.r_blk | apply Has.there)) )) (by repeat (first | exact OneAll.nil | (refine OneAll.cons ?_ ?_; · first | exact OneC.lit rfl | exact OneC.sl (by repeat (first | exact Has.here | exact Has.sl_apd | exact Has.sl_own | exact Has.r_blk | apply Has.there)) ) | exact OneAll.rd (by repeat (first | exact Has.here | exact Has.sl_apd | exact Has.sl_own | exact Has.r_blk | apply Has.there)))) rfl (by repeat (first | exact Pick.here | exact Pick.own_nil | apply Pick.there)) rfl (?_))
          refine o_nil ?_
          refine c_seq ?_
          refine c_seq ?_
          refine c_region ?_
          refine o_val (v_fieldAddrC 0 Try.underlying46 rfl ti3 (by decide) rfl) (Nat.le_of_ble_eq_true rfl) ?_
          refine o_val (v_load lone3 rfl (by repeat (first | exact Has.here | exact Has.sl_apd | exact Has.sl_own | exact Has.r_blk | apply Has.there)) rfl) (Nat.le_of_ble_eq_true rfl) ?_
          refine o_val (v_gt rfl rfl) (Nat.le_of_ble_eq_true rfl) ?_
          refine o_nil ?_
          refine c_cond_p rfl (fun htk => ?_) (fun htk => ?_)
          · refine c_seq ?_
            refine c_region ?_
            refine o_val (v_fieldAddrC 0 Try.underlying46 rfl ti3 (by decide) rfl) (Nat.le_of_ble_eq_true rfl) ?_
            refine o_val (v_load lone3 rfl (by repeat (first | exact Has.here | exact Has.sl_apd | exact Has.sl_own | exact Has.r_blk | apply Has.there)) rfl) (Nat.le_of_ble_eq_true rfl) ?_
            refine o_step (s_callf cl23 (take_con b10 [(7, p, q)] 7 l[k].1 (by simp; omega)) rfl (Nat.le_of_ble_eq_true rfl) (by repeat (first | exact Picks.nil | (apply Picks.cons; · repeat (first | exact Pick.keep (Sl.isDup _ _ _) | exact Pick.keep (BlkR.isDup _ _ _) | exact Pick.keep (FldCell.isDup _ _) | exact Pick.here | exact Pick.own_sl | exact Pick.apd_sl | exact Pick.r_blk | exact Pick.sl_nil | exact Pick.own_nil | exact Pick.map_itO _ | apply Pick.there)))) fun t _ => ?_)
            refine o_val (v_move rfl) (Nat.le_of_ble_eq_true rfl) ?_
            refine o_val (v_extract rfl rfl) (Nat.le_of_ble_eq_true rfl) ?_
            refine o_val (v_extract rfl rfl) (Nat.le_of_ble_eq_true rfl) ?_
            refine o_val (v_assign rfl) (Nat.le_of_ble_eq_true rfl) ?_
            refine o_val (v_assign rfl) (Nat.le_of_ble_eq_true rfl) ?_
            refine o_nil ?_
            refine c_seq ?_
            refine c_region ?_
            refine o_val (v_move rfl) (Nat.le_of_ble_eq_true rfl) ?_
            refine o_val (v_move rfl) (Nat.le_of_ble_eq_true rfl) ?_
            rw [takeG (by omega)]
            dsimp only
            refine o_mk (nts_sl (L := []) (v := t) (l := q.take l[k].1.toNat)) (by repeat (first | exact Picks.nil | (apply Picks.cons; · repeat (first | exact Pick.keep (Sl.isDup _ _ _) | exact Pick.keep (BlkR.isDup _ _ _) | exact Pick.keep (FldCell.isDup _ _) | exact Pick.here | exact Pick.own_sl | exact Pick.apd_sl | exact Pick.r_blk | exact Pick.sl_nil | exact Pick.own_nil | exact Pick.map_itO _ | apply Pick.there)))) ?_
            have htq : (q.take l[k].1.toNat).length ≤ 4 := by simp; omega
            refine o_step (s_callf cl24 (old_con t (q.take l[k].1.toNat) (by omega)) rfl (Nat.le_of_ble_eq_true rfl) (by repeat (first | exact Picks.nil | (apply Picks.cons; · repeat (first | exact Pick.keep (Sl.isDup _ _ _) | exact Pick.keep (BlkR.isDup _ _ _) | exact Pick.keep (FldCell.isDup _ _) | exact Pick.here | exact Pick.own_sl | exact Pick.apd_sl | exact Pick.r_blk | exact Pick.sl_nil | exact Pick.own_nil | exact Pick.map_itO _ | apply Pick.there)))) fun o _ => ?_)
            refine o_step (s_append Try.underlying37 ti56 rfl (by decide) rfl rfl (Nat.le_of_ble_eq_true rfl) (by repeat (first | exact Pick.here | exact Pick.own_nil | apply Pick.there)) (by repeat (first | exact Pick.keep (Sl.isDup _ _ _) | exact Pick.keep (BlkR.isDup _ _ _) | exact Pick.keep (FldCell.isDup _ _) | exact Pick.here | exact Pick.own_sl | exact Pick.apd_sl | exact Pick.r_blk | exact Pick.sl_nil | exact Pick.own_nil | exact Pick.map_itO _ | apply Pick.there)) rfl (by (first | omega | (simp only [maxLen, List.length_append, List.length_drop, List.length_take, List.length_nil, List.length_cons]; omega))) (by (first | omega | (simp only [maxLen, List.length_append, List.length_drop, List.length_take, List.length_nil, List.length_cons]; omega))) fun g2 => ?_)
            refine o_val (v_assign rfl) (Nat.le_of_ble_eq_true rfl) ?_
            refine o_nil ?_
            refine c_exit rfl ?_
            refine c_region ?_
            refine o_val ((by first | exact v_add64 rfl rfl (by omega) | exact v_add rfl rfl)) (Nat.le_of_ble_eq_true rfl) ?_
            refine o_val (v_move rfl) (Nat.le_of_ble_eq_true rfl) ?_
            refine o_nil ?_
            refine c_use (IH2 ((k + 1, av, g2, all, got ++ q.take l[k].1.toNat, q.drop l[k].1.toNat)) (by first | omega | (dsimp only; omega)) (⟨by dsimp only; omega, hJ.take _⟩)) (by repeat (first | exact trivial | refine ⟨rfl, ?_⟩)) (Picks.ent (by repeat (first | exact Picks.nil | (apply Picks.cons; · repeat (first | exact Pick.keep (Sl.isDup _ _ _) | exact Pick.keep (BlkR.isDup _ _ _) | exact Pick.keep (FldCell.isDup _ _) | exact Pick.here | exact Pick.own_sl | exact Pick.apd_sl | exact Pick.r_blk | exact Pick.sl_nil | exact Pick.own_nil | exact Pick.map_itO _ | apply Pick.there)))))
          · refine c_skip ?_
            refine c_seq ?_
            refine c_region ?_
            refine o_val (v_move rfl) (Nat.le_of_ble_eq_true rfl) ?_
            refine o_val ((by first | exact v_add64 rfl rfl (by omega) | exact v_add rfl rfl)) (Nat.le_of_ble_eq_true rfl) ?_
            refine o_val (v_fieldAddrC 1 Try.underlying46 rfl ti30 (by decide) rfl) (Nat.le_of_ble_eq_true rfl) ?_
            refine o_val (v_load lone30 rfl (by repeat (first | exact Has.here | exact Has.sl_apd | exact Has.sl_own | exact Has.r_blk | apply Has.there)) rfl) (Nat.le_of_ble_eq_true rfl) ?_
            refine o_step (s_callf cl25 (push_con b10 [(7, p, q)] (k + 1) c l[k].2 (by omega) (by simp) (by simp; exact hq4)) rfl (Nat.le_of_ble_eq_true rfl) (by repeat (first | exact Picks.nil | (apply Picks.cons; · repeat (first | exact Pick.keep (Sl.isDup _ _ _) | exact Pick.keep (BlkR.isDup _ _ _) | exact Pick.keep (FldCell.isDup _ _) | exact Pick.here | exact Pick.own_sl | exact Pick.apd_sl | exact Pick.r_blk | exact Pick.sl_nil | exact Pick.own_nil | exact Pick.map_itO _ | apply Pick.there)))) fun told _ => ?_)
            refine o_nil ?_
            refine c_seq ?_
            refine c_region ?_
            refine o_val (v_fieldAddrC 1 Try.underlying46 rfl ti30 (by decide) rfl) (Nat.le_of_ble_eq_true rfl) ?_
            refine o_val (v_load lone30 rfl (by repeat (first | exact Has.here | exact Has.sl_apd | exact Has.sl_own | exact Has.r_blk | apply Has.there)) rfl) (Nat.le_of_ble_eq_true rfl) ?_
            refine o_val (v_move rfl) (Nat.le_of_ble_eq_true rfl) ?_
            rw [pushG]
            refine o_step (s_callf cl26 (touchedS_con c l[k].2 p (by omega) (fun s hs => by have := hks s hs; omega) (by omega)) rfl (Nat.le_of_ble_eq_true rfl) (by repeat (first | exact Picks.nil | (apply Picks.cons; · repeat (first | exact Pick.keep (Sl.isDup _ _ _) | exact Pick.keep (BlkR.isDup _ _ _) | exact Pick.keep (FldCell.isDup _ _) | exact Pick.here | exact Pick.own_sl | exact Pick.apd_sl | exact Pick.r_blk | exact Pick.sl_nil | exact Pick.own_nil | exact Pick.map_itO _ | apply Pick.there)))) fun t _ => ?_)
            refine o_val (v_assign rfl) (Nat.le_of_ble_eq_true rfl) ?_
            refine o_nil ?_
            refine c_seq ?_
            refine c_region ?_
            refine o_val (v_move rfl) (Nat.le_of_ble_eq_true rfl) ?_
            refine o_val ((by first | exact v_len_form Try.underlying30 rfl | exact v_len_sl Try.underlying30 rfl (by repeat (first | exact Has.here | exact Has.sl_apd | exact Has.sl_own | exact Has.r_blk | apply Has.there)))) (Nat.le_of_ble_eq_true rfl) ?_
            refine o_val (v_gt rfl rfl) (Nat.le_of_ble_eq_true rfl) ?_
            refine o_nil ?_
            refine c_cond_p rfl (fun hpos => ?_) (fun hpos => ?_)
            · have hne : touched l[k].2 p ≠ [] := fun h => by rw [h] at hpos; simp at hpos
              rw [if_neg hne]
              refine c_region ?_
              refine o_val (v_move rfl) (Nat.le_of_ble_eq_true rfl) ?_
              refine o_val (v_move rfl) (Nat.le_of_ble_eq_true rfl) ?_
              refine o_val ((by first | exact v_add64 rfl rfl (by omega) | exact v_add rfl rfl)) (Nat.le_of_ble_eq_true rfl) ?_
              refine o_val (v_move rfl) (Nat.le_of_ble_eq_true rfl) ?_
              refine o_val (v_buildS (places := [(0, 1), (1, 1), (2, 1)]) (cells := [_, _, .bool false]) Try.underlying56 ti56 (by kernel_rfl) rfl (by repeat (first | exact PartsC.nil | (apply PartsC.one (by first | exact OneC.lit rfl | exact OneC.sl (by repeat (first | exact Has.here | exact Has.sl_apd | exact Has.sl_own | exact Has.r_blk | apply Has.there)) )) | (apply PartsC.lit rfl))) rfl) (Nat.le_of_ble_eq_true rfl) ?_
              refine o_step (s_buildSlice Try.underlying37 ti56 rfl rfl rfl (by decide) (by decide) (beside_agg1 (beside_of (z := ((k : Int) + 1, touched l[k].2 p, false)) (Lp := [Sl eStr t (touched l[k].2 p)]) (by repeat (first | exact Picks.nil | (apply Picks.cons; · repeat (first | exact Pick.keep (Sl.isDup _ _ _) | exact Pick.keep (BlkR.isDup _ _ _) | exact Pick.keep (FldCell.isDup _ _) | exact Pick.here | exact Pick.own_sl | exact Pick.apd_sl | exact Pick.r_blk | exact Pick.sl_nil | exact Pick.own_nil | exact Pick.map_itO _ | apply Pick.there)))) (fun w O h => nt_rd w O h))) rfl rfl (Nat.le_of_ble_eq_true rfl) fun v1 => ?_)
              refine o_step (s_append Try.underlying37 ti56 rfl (by decide) rfl rfl (Nat.le_of_ble_eq_true rfl) (by repeat (first | exact Pick.here | exact Pick.own_nil | apply Pick.there)) (by repeat (first | exact Pick.keep (Sl.isDup _ _ _) | exact Pick.keep (BlkR.isDup _ _ _) | exact Pick.keep (FldCell.isDup _ _) | exact Pick.here | exact Pick.own_sl | exact Pick.apd_sl | exact Pick.r_blk | exact Pick.sl_nil | exact Pick.own_nil | exact Pick.map_itO _ | apply Pick.there)) rfl (by (first | omega | (simp only [maxLen, List.length_append, List.length_drop, List.length_take, List.length_nil, List.length_cons]; omega))) (by (first | omega | (simp only [maxLen, List.length_append, List.length_drop, List.length_take, List.length_nil, List.length_cons]; omega))) fun a2 => ?_)
              refine o_val (v_assign rfl) (Nat.le_of_ble_eq_true rfl) ?_
              refine o_nil ?_
              refine c_inBlock ?_
              refine c_region ?_
              refine o_val ((by first | exact v_add64 rfl rfl (by omega) | exact v_add rfl rfl)) (Nat.le_of_ble_eq_true rfl) ?_
              refine o_val (v_move rfl) (Nat.le_of_ble_eq_true rfl) ?_
              refine o_nil ?_
              refine c_use (IH2 ((k + 1, a2, gv, all ++ [((k : Int) + 1, touched l[k].2 p, false)], got, noteW ((k : Int) + 1) (touched l[k].2 p) q)) (by first | omega | (dsimp only; omega)) (⟨by dsimp only; omega, hJ.push (by omega)⟩)) (by repeat (first | exact trivial | refine ⟨rfl, ?_⟩)) (Picks.ent (by repeat (first | exact Picks.nil | (apply Picks.cons; · repeat (first | exact Pick.keep (Sl.isDup _ _ _) | exact Pick.keep (BlkR.isDup _ _ _) | exact Pick.keep (FldCell.isDup _ _) | exact Pick.here | exact Pick.own_sl | exact Pick.apd_sl | exact Pick.r_blk | exact Pick.sl_nil | exact Pick.own_nil | exact Pick.map_itO _ | apply Pick.there)))))
            · have hemp : touched l[k].2 p = [] := List.eq_nil_of_length_eq_zero (by omega)
              rw [if_pos hemp]
              refine c_skip ?_
              refine c_inBlock ?_
              refine c_region ?_
              refine o_val ((by first | exact v_add64 rfl rfl (by omega) | exact v_add rfl rfl)) (Nat.le_of_ble_eq_true rfl) ?_
              refine o_val (v_move rfl) (Nat.le_of_ble_eq_true rfl) ?_
              refine o_nil ?_
              refine c_use (IH2 ((k + 1, av, gv, all, got, q)) (by first | omega | (dsimp only; omega)) (⟨by dsimp only; omega, hJ.none⟩)) (by repeat (first | exact trivial | refine ⟨rfl, ?_⟩)) (Picks.ent (by repeat (first | exact Picks.nil | (apply Picks.cons; · repeat (first | exact Pick.keep (Sl.isDup _ _ _) | exact Pick.keep (BlkR.isDup _ _ _) | exact Pick.keep (FldCell.isDup _ _) | exact Pick.here | exact Pick.own_sl | exact Pick.apd_sl | exact Pick.r_blk | exact Pick.sl_nil | exact Pick.own_nil | exact Pick.map_itO _ | apply Pick.there)))))
        · have hke : k = l.length := by omega
          refine c_exit rfl ?_
          refine c_seq ?_
          refine c_region ?_
          refine o_step (s_callf cl23 (take_con b10 [(7, p, q)] 7 100 (by simp; omega)) rfl (Nat.le_of_ble_eq_true rfl) (by repeat (first | exact Picks.nil | (apply Picks.cons; · repeat (first | exact Pick.keep (Sl.isDup _ _ _) | exact Pick.keep (BlkR.isDup _ _ _) | exact Pick.keep (FldCell.isDup _ _) | exact Pick.here | exact Pick.own_sl | exact Pick.apd_sl | exact Pick.r_blk | exact Pick.sl_nil | exact Pick.own_nil | exact Pick.map_itO _ | apply Pick.there)))) fun t _ => ?_)
          refine o_val (v_move rfl) (Nat.le_of_ble_eq_true rfl) ?_
          refine o_val (v_extract rfl rfl) (Nat.le_of_ble_eq_true rfl) ?_
          refine o_val (v_extract rfl rfl) (Nat.le_of_ble_eq_true rfl) ?_
          refine o_val (v_assign rfl) (Nat.le_of_ble_eq_true rfl) ?_
          refine o_val (v_assign rfl) (Nat.le_of_ble_eq_true rfl) ?_
          refine o_nil ?_
          refine c_seq ?_
          refine c_region ?_
          rw [takeG (by omega), List.take_of_length_le (by show q.length ≤ 100; omega)]
          dsimp only
          refine o_mk (nts_sl (L := []) (v := t) (l := q)) (by repeat (first | exact Picks.nil | (apply Picks.cons; · repeat (first | exact Pick.keep (Sl.isDup _ _ _) | exact Pick.keep (BlkR.isDup _ _ _) | exact Pick.keep (FldCell.isDup _ _) | exact Pick.here | exact Pick.own_sl | exact Pick.apd_sl | exact Pick.r_blk | exact Pick.sl_nil | exact Pick.own_nil | exact Pick.map_itO _ | apply Pick.there)))) ?_
          refine o_step (s_callf cl16 (alive_con) rfl (Nat.le_of_ble_eq_true rfl) (by repeat (first | exact Picks.nil | (apply Picks.cons; · repeat (first | exact Pick.keep (Sl.isDup _ _ _) | exact Pick.keep (BlkR.isDup _ _ _) | exact Pick.keep (FldCell.isDup _ _) | exact Pick.here | exact Pick.own_sl | exact Pick.apd_sl | exact Pick.r_blk | exact Pick.sl_nil | exact Pick.own_nil | exact Pick.map_itO _ | apply Pick.there)))) fun _ _ => ?_)
          refine o_val (v_move rfl) (Nat.le_of_ble_eq_true rfl) ?_
          refine o_guard rfl rfl (fun _ => ?_) (fun h_ => absurd ((show _ = true from rfl).symm.trans h_) (by decide))
          refine o_val (v_move rfl) (Nat.le_of_ble_eq_true rfl) ?_
          refine o_on rfl rfl ?_
          refine o_val (v_eq rfl rfl) (Nat.le_of_ble_eq_true rfl) ?_
          refine o_val (v_pick_t rfl rfl) (Nat.le_of_ble_eq_true rfl) ?_
          refine o_val (v_move rfl) (Nat.le_of_ble_eq_true rfl) ?_
          refine o_guard rfl rfl (fun _ => ?_) (fun h_ => absurd ((show _ = true from rfl).symm.trans h_) (by decide))
          refine o_val (v_move rfl) (Nat.le_of_ble_eq_true rfl) ?_
          refine o_on rfl rfl ?_
          refine o_val (v_move rfl) (Nat.le_of_ble_eq_true rfl) ?_
          refine o_on rfl rfl ?_
          refine o_step (s_callf cl24 (old_con t q (by omega)) rfl (Nat.le_of_ble_eq_true rfl) (by repeat (first | exact Picks.nil | (apply Picks.cons; · repeat (first | exact Pick.keep (Sl.isDup _ _ _) | exact Pick.keep (BlkR.isDup _ _ _) | exact Pick.keep (FldCell.isDup _ _) | exact Pick.here | exact Pick.own_sl | exact Pick.apd_sl | exact Pick.r_blk | exact Pick.sl_nil | exact Pick.own_nil | exact Pick.map_itO _ | apply Pick.there)))) fun o _ => ?_)
          refine o_on rfl rfl ?_
          refine o_step (s_append Try.underlying37 ti56 rfl (by decide) rfl rfl (Nat.le_of_ble_eq_true rfl) (by repeat (first | exact Pick.here | exact Pick.own_nil | apply Pick.there)) (by repeat (first | exact Pick.keep (Sl.isDup _ _ _) | exact Pick.keep (BlkR.isDup _ _ _) | exact Pick.keep (FldCell.isDup _ _) | exact Pick.here | exact Pick.own_sl | exact Pick.apd_sl | exact Pick.r_blk | exact Pick.sl_nil | exact Pick.own_nil | exact Pick.map_itO _ | apply Pick.there)) rfl (by (first | omega | (simp only [maxLen, List.length_append, List.length_drop, List.length_take, List.length_nil, List.length_cons]; omega))) (by (first | omega | (simp only [maxLen, List.length_append, List.length_drop, List.length_take, List.length_nil, List.length_cons]; omega))) fun g2 => ?_)
          refine o_on rfl rfl ?_
          refine o_val (v_move rfl) (Nat.le_of_ble_eq_true rfl) ?_
          refine o_on rfl rfl ?_
          refine o_step (s_callf cl27 (covers_con g2 av (got ++ q) all hJ.cov hJ.rise (by simp; omega) (by omega) hJ.nam) rfl (Nat.le_of_ble_eq_true rfl) (by repeat (first | exact Picks.nil | (apply Picks.cons; · repeat (first | exact Pick.keep (Sl.isDup _ _ _) | exact Pick.keep (BlkR.isDup _ _ _) | exact Pick.keep (FldCell.isDup _ _) | exact Pick.here | exact Pick.own_sl | exact Pick.apd_sl | exact Pick.r_blk | exact Pick.sl_nil | exact Pick.own_nil | exact Pick.map_itO _ | apply Pick.there)))) fun _ _ => ?_)
          refine o_val (v_pick_t rfl rfl) (Nat.le_of_ble_eq_true rfl) ?_
          refine o_val (v_assign rfl) (Nat.le_of_ble_eq_true rfl) ?_
          refine o_nil ?_
          refine c_ret1 Try.func4 rfl rfl fun w O hS => ?_
          exact ⟨(), rfl, trivial, trivial⟩
    · refine o_off rfl rfl rfl (Nat.le_of_ble_eq_true rfl) ?_
      refine o_off rfl rfl rfl (Nat.le_of_ble_eq_true rfl) ?_
      refine o_val (v_pick_t rfl rfl) (Nat.le_of_ble_eq_true rfl) ?_
      refine o_nil ?_
      refine c_cond_t rfl ?_
      refine c_seq ?_
      refine c_region ?_
      refine o_step (s_callf cl16 (alive_con) rfl (Nat.le_of_ble_eq_true rfl) (by repeat (first | exact Picks.nil | (apply Picks.cons; · repeat (first | exact Pick.keep (Sl.isDup _ _ _) | exact Pick.keep (BlkR.isDup _ _ _) | exact Pick.keep (FldCell.isDup _ _) | exact Pick.here | exact Pick.own_sl | exact Pick.apd_sl | exact Pick.r_blk | exact Pick.sl_nil | exact Pick.own_nil | exact Pick.map_itO _ | apply Pick.there)))) fun _ _ => ?_)
      refine o_val (v_assign rfl) (Nat.le_of_ble_eq_true rfl) ?_
      refine o_nil ?_
      refine c_ret1 Try.func4 rfl rfl fun w O hS => ?_
      exact ⟨(), rfl, trivial, trivial⟩
end Go.Proofs.Ytnamhhmfnokfiaa

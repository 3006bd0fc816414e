import Derived.Test.YtnamhhmfnokfiaaW4
namespace Go.Proofs.Ytnamhhmfnokfiaa
open Go Go.SL
theorem hp_empty (s : ByteArray) : hp ByteArray.empty s = true := (prefix_iff _ _).2 ⟨Nat.zero_le _, by simp⟩
theorem touched_all (names : List ByteArray) : touched names ByteArray.empty = setS names := by
  unfold touched
  rw [List.filter_eq_self]
  exact fun s _ => hp_empty s
theorem touched_all_nil {names : List ByteArray} : touched names ByteArray.empty = [] ↔ names = [] := by
  rw [touched_all]
  constructor
  · intro h
    apply List.eq_nil_iff_forall_not_mem.2
    intro s hs
    have := ((setS_spec names).2 s).2 hs
    rw [h] at this
    exact List.not_mem_nil this
  · rintro rfl
    apply List.eq_nil_iff_forall_not_mem.2
    intro s hs
    exact List.not_mem_nil (((setS_spec []).2 s).1 hs)
theorem add2 {p : ByteArray} : addW [(1, ByteArray.empty, [])] 2 p = ([(1, ByteArray.empty, []), (2, p, [])], 0) := by rfl
theorem told2 {p : ByteArray} {a b : List Nt} (names : List ByteArray) : toldW [(1, ByteArray.empty, a), (2, p, b)] names = (if names = [] then [] else [1]) ++ (if touched names p = [] then [] else [2]) := by
  unfold toldW
  by_cases h1 : names = []
  · subst h1; simp [touched_nil]
  · have h2 : touched names ByteArray.empty ≠ [] := fun h => h1 (touched_all_nil.1 h)
    by_cases h3 : touched names p = [] <;> simp [List.filter_cons, h1, h2, h3]
theorem push2 {p : ByteArray} {a b : List Nt} (ver : Int) (names : List ByteArray) : pushW [(1, ByteArray.empty, a), (2, p, b)] ver names = [(1, ByteArray.empty, if names = [] then a else noteW ver (touched names ByteArray.empty) a), (2, p, if touched names p = [] then b else noteW ver (touched names p) b)] := by
  unfold pushW
  have e : ∀ (i : Int) (q : ByteArray) (l : List Nt), stepW ver names (i, q, l) = (i, q, if touched names q = [] then l else noteW ver (touched names q) l) := fun i q l => by unfold stepW; split <;> rfl
  simp only [List.map_cons, List.map_nil, e, touched_all_nil]
theorem count_take {l : List Int} {j : Nat} (hj : j < l.length) (x : Int) : ((l.take (j + 1)).count x : Int) = (l.take j).count x + if l[j] = x then 1 else 0 := by
  rw [List.take_succ_eq_append_getElem hj, List.count_append]
  by_cases h : l[j] = x
  · rw [if_pos h, h]; simp
  · rw [if_neg h, List.count_singleton, if_neg (by simpa using h)]; simp
theorem many1 (l : List Nt) : l.take (manyW 1 l) = l.take 1 ∧ l.drop (manyW 1 l) = l.drop 1 := by
  have h : manyW 1 l = 1 ∨ l = [] := by
    cases l with
    | nil => exact .inr rfl
    | cons a l => left; unfold manyW; simp only [List.length_cons]; omega
  rcases h with h | h
  · rw [h]; exact ⟨rfl, rfl⟩
  · rw [h]; simp
theorem take2 {a p : ByteArray} {l m : List Nt} : takeW [(1, a, l), (2, p, m)] 1 1 = ([(1, a, l.drop 1), (2, p, m)], l.take 1, 0) := by
  have h1 : atW [(1, a, l), (2, p, m)] 1 = 0 := by rfl
  unfold takeW
  rw [h1]
  show (if (0 : Int) < 0 then _ else _) = _
  rw [if_neg (by omega), (many1 l).1, (many1 l).2]
  rfl
theorem get2 {a p : ByteArray} {l m : List Nt} : getW [(1, a, l), (2, p, m)] 2 = some (2, p, m) := by rfl
attribute [local irreducible] Cfg Kont StepK Val Con Qops Any Sl Own Blk BlkR Rd Pu ExA AllA Has Pick Ent Elem Beside Callable TI Lone

set_option maxRecDepth 100000 in
theorem watchNone_con (v : Value) (names : List ByteArray) (p : ByteArray) (hn : names.length ≤ 8796093021952 ∧ ∀ s ∈ names, s.size ≤ 140737488351232) (hps : p.size ≤ 140737488351232) : Con Try.prog 5 [v, .string p] [Sl eStr v names] (γ := Unit) (fun _ => .bool true) (fun _ => True) (fun _ => []) := by
  have hns : ∀ s ∈ names, s.size ≤ 140737488355328 := fun s hs => by have := hn.2 s hs; omega
  have hl := hn.1
  refine con_of Try.func5 rfl (Nat.le_of_ble_eq_true rfl) fun w0 O0 => ?_
  refine c_seq ?_
  refine c_region ?_
  refine o_val (v_assign rfl) (Nat.le_of_ble_eq_true rfl) ?_
  refine o_nil ?_
  refine c_seq ?_
  refine c_region ?_
  refine o_val (v_move rfl) (Nat.le_of_ble_eq_true rfl) ?_
  refine o_val (v_len_str Try.underlying9 rfl) (Nat.le_of_ble_eq_true rfl) ?_
  refine o_val (v_assign rfl) (Nat.le_of_ble_eq_true rfl) ?_
  refine o_nil ?_
  refine c_seq ?_
  refine c_seq ?_
  refine c_region ?_
  refine o_val (v_move rfl) (Nat.le_of_ble_eq_true rfl) ?_
  refine o_val ((by first | exact v_len_form Try.underlying30 rfl | exact v_len_sl Try.underlying30 rfl (by repeat (first | exact Has.here | exact Has.sl_apd | exact Has.sl_own | exact Has.r_blk | apply Has.there)))) (Nat.le_of_ble_eq_true rfl) ?_
  refine o_val (v_move rfl) (Nat.le_of_ble_eq_true rfl) ?_
  refine o_nil ?_
  refine c_block ?_
  refine c_loopR (γ := Nat × Int) [(0, _), (1, _), (4, _), (19, _), (20, _)] (fun g => names.length - g.1) (fun g => g.1 ≤ names.length) (fun g => [(21, .int .i64 g.1), (5, .int .i64 g.2)]) (fun _ => [Sl eStr v names]) ((0, _)) (Nat.zero_le _) (by repeat (first | exact trivial | refine ⟨rfl, ?_⟩)) (Picks.ent (by repeat (first | exact Picks.nil | (apply Picks.cons; · repeat (first | exact Pick.keep (Sl.isDup _ _ _) | exact Pick.keep (BlkR.isDup _ _ _) | exact Pick.keep (FldCell.isDup _ _) | exact Pick.here | exact Pick.own_sl | exact Pick.apd_sl | exact Pick.r_blk | exact Pick.sl_nil | exact Pick.own_nil | exact Pick.map_itO _ | apply Pick.there))))) ?_
  rintro ⟨i, n⟩ hi IH
  dsimp only at hi ⊢
  try dsimp only [List.cons_append, List.nil_append]
  refine c_seq ?_
  refine c_region ?_
  refine o_val (v_lt rfl rfl) (Nat.le_of_ble_eq_true rfl) ?_
  refine o_nil ?_
  refine c_seq ?_
  refine c_cond_p rfl (fun hlt => ?_) (fun hlt => ?_)
  · have hi' : i < names.length := by omega
    refine c_skip ?_
    refine c_seq ?_
    refine c_block ?_
    refine c_seq ?_
    refine c_region ?_
    refine o_val ((by first | exact v_indexAddrN Try.underlying30 ti9 rfl rfl (by repeat (first | exact Has.here | exact Has.sl_apd | exact Has.sl_own | exact Has.r_blk | apply Has.there)) (by omega) | exact v_indexAddr Try.underlying30 ti9 rfl rfl (by repeat (first | exact Has.here | exact Has.sl_apd | exact Has.sl_own | exact Has.r_blk | apply Has.there)) (by omega))) (Nat.le_of_ble_eq_true rfl) ?_
    refine o_val (v_load_str lone9 rfl (by repeat (first | exact Elem.sl (List.getElem?_eq_getElem (by omega)) | exact Elem.own (List.getElem?_eq_getElem (by omega)) | apply Elem.there))) (Nat.le_of_ble_eq_true rfl) ?_
    refine o_val (v_assign rfl) (Nat.le_of_ble_eq_true rfl) ?_
    refine o_nil ?_
    refine c_region ?_
    refine o_val (v_move rfl) (Nat.le_of_ble_eq_true rfl) ?_
    refine o_val (v_move rfl) (Nat.le_of_ble_eq_true rfl) ?_
    refine o_val (v_len_str Try.underlying9 rfl) (Nat.le_of_ble_eq_true rfl) ?_
    refine o_val ((by first | exact v_add64 rfl rfl (by omega) | exact v_add rfl rfl)) (Nat.le_of_ble_eq_true rfl) ?_
    refine o_val (v_assign rfl) (Nat.le_of_ble_eq_true rfl) ?_
    refine o_nil ?_
    refine c_inBlock ?_
    refine c_region ?_
    refine o_val ((by first | exact v_add64 rfl rfl (by omega) | exact v_add rfl rfl)) (Nat.le_of_ble_eq_true rfl) ?_
    refine o_val (v_move rfl) (Nat.le_of_ble_eq_true rfl) ?_
    refine o_nil ?_
    refine c_use (IH ((i + 1, _)) (by first | omega | (dsimp only; omega)) (by dsimp only; omega)) (by repeat (first | exact trivial | refine ⟨rfl, ?_⟩)) (Picks.ent (by repeat (first | exact Picks.nil | (apply Picks.cons; · repeat (first | exact Pick.keep (Sl.isDup _ _ _) | exact Pick.keep (BlkR.isDup _ _ _) | exact Pick.keep (FldCell.isDup _ _) | exact Pick.here | exact Pick.own_sl | exact Pick.apd_sl | exact Pick.r_blk | exact Pick.sl_nil | exact Pick.own_nil | exact Pick.map_itO _ | apply Pick.there)))))
  · refine c_exit rfl ?_
    refine c_seq ?_
    refine c_seq ?_
    refine c_region ?_
    refine o_val (v_move rfl) (Nat.le_of_ble_eq_true rfl) ?_
    refine o_val (v_gt rfl rfl) (Nat.le_of_ble_eq_true rfl) ?_
    refine o_val (v_move rfl) (Nat.le_of_ble_eq_true rfl) ?_
    refine o_guard_f rfl rfl (fun hgt => ?_) (fun hgt => ?_)
    · refine o_val (v_move rfl) (Nat.le_of_ble_eq_true rfl) ?_
      refine o_on rfl rfl ?_
      refine o_val ((by first | exact v_len_form Try.underlying30 rfl | exact v_len_sl Try.underlying30 rfl (by repeat (first | exact Has.here | exact Has.sl_apd | exact Has.sl_own | exact Has.r_blk | apply Has.there)))) (Nat.le_of_ble_eq_true rfl) ?_
      refine o_on rfl rfl ?_
      refine o_val (v_gt rfl rfl) (Nat.le_of_ble_eq_true rfl) ?_
      refine o_val (v_pick_f rfl rfl) (Nat.le_of_ble_eq_true rfl) ?_
      refine o_nil ?_
      refine c_cond_p rfl (fun hgt2 => ?_) (fun hgt2 => ?_)
      · refine c_seq ?_
        refine c_region ?_
        refine o_step (s_callf cl16 (alive_con) rfl (Nat.le_of_ble_eq_true rfl) (by repeat (first | exact Picks.nil | (apply Picks.cons; · repeat (first | exact Pick.keep (Sl.isDup _ _ _) | exact Pick.keep (BlkR.isDup _ _ _) | exact Pick.keep (FldCell.isDup _ _) | exact Pick.here | exact Pick.own_sl | exact Pick.apd_sl | exact Pick.r_blk | exact Pick.sl_nil | exact Pick.own_nil | exact Pick.map_itO _ | apply Pick.there)))) fun _ _ => ?_)
        refine o_val (v_assign rfl) (Nat.le_of_ble_eq_true rfl) ?_
        refine o_nil ?_
        refine c_ret1 Try.func5 rfl rfl fun w O hS => ?_
        exact ⟨(), rfl, trivial, trivial⟩
      · refine c_skip ?_
        refine c_seq ?_
        refine c_region ?_
        refine o_step (s_alloc ti28 (Nat.le_of_ble_eq_true rfl) (fun b8 => ?_))
        refine o_nil ?_
        refine c_seq ?_
        refine c_region ?_
        have hl100 : names.length ≤ 100 := by omega
        refine o_mk (hub_new (L := []) (h := b8)) (by repeat (first | exact Picks.nil | (apply Picks.cons; · repeat (first | exact Pick.keep (Sl.isDup _ _ _) | exact Pick.keep (BlkR.isDup _ _ _) | exact Pick.keep (FldCell.isDup _ _) | exact Pick.here | exact Pick.own_sl | exact Pick.apd_sl | exact Pick.r_blk | exact Pick.sl_nil | exact Pick.own_nil | exact Pick.map_itO _ | apply Pick.there)))) ?_
        refine o_step (s_callf cl22 (add_con b8 [] 1 ByteArray.empty (by decide)) rfl (Nat.le_of_ble_eq_true rfl) (by repeat (first | exact Picks.nil | (apply Picks.cons; · repeat (first | exact Pick.keep (Sl.isDup _ _ _) | exact Pick.keep (BlkR.isDup _ _ _) | exact Pick.keep (FldCell.isDup _ _) | exact Pick.here | exact Pick.own_sl | exact Pick.apd_sl | exact Pick.r_blk | exact Pick.sl_nil | exact Pick.own_nil | exact Pick.map_itO _ | apply Pick.there)))) fun _ _ => ?_)
        refine o_nil ?_
        refine c_seq ?_
        refine c_region ?_
        refine o_val (v_move rfl) (Nat.le_of_ble_eq_true rfl) ?_
        rw [show addW [] 1 ByteArray.empty = ([(1, ByteArray.empty, [])], 0) from rfl]
        refine o_step (s_callf cl22 (add_con b8 [(1, ByteArray.empty, [])] 2 p (by simp)) rfl (Nat.le_of_ble_eq_true rfl) (by repeat (first | exact Picks.nil | (apply Picks.cons; · repeat (first | exact Pick.keep (Sl.isDup _ _ _) | exact Pick.keep (BlkR.isDup _ _ _) | exact Pick.keep (FldCell.isDup _ _) | exact Pick.here | exact Pick.own_sl | exact Pick.apd_sl | exact Pick.r_blk | exact Pick.sl_nil | exact Pick.own_nil | exact Pick.map_itO _ | apply Pick.there)))) fun _ _ => ?_)
        refine o_nil ?_
        refine c_seq ?_
        refine c_region ?_
        refine o_val (v_move rfl) (Nat.le_of_ble_eq_true rfl) ?_
        rw [add2]
        refine o_step (s_callf cl25 (push_con b8 [(1, ByteArray.empty, []), (2, p, [])] 5 v names (by omega) (by simp) (by simp)) rfl (Nat.le_of_ble_eq_true rfl) (by repeat (first | exact Picks.nil | (apply Picks.cons; · repeat (first | exact Pick.keep (Sl.isDup _ _ _) | exact Pick.keep (BlkR.isDup _ _ _) | exact Pick.keep (FldCell.isDup _ _) | exact Pick.here | exact Pick.own_sl | exact Pick.apd_sl | exact Pick.r_blk | exact Pick.sl_nil | exact Pick.own_nil | exact Pick.map_itO _ | apply Pick.there)))) fun told _ => ?_)
        refine o_val (v_assign rfl) (Nat.le_of_ble_eq_true rfl) ?_
        refine o_nil ?_
        refine c_seq ?_
        refine c_region ?_
        refine o_val (v_move rfl) (Nat.le_of_ble_eq_true rfl) ?_
        refine o_val (v_move rfl) (Nat.le_of_ble_eq_true rfl) ?_
        rw [push2, told2]
        refine o_step (s_callf cl26 (touched_con v names p (by omega) hns (by omega)) rfl (Nat.le_of_ble_eq_true rfl) (by repeat (first | exact Picks.nil | (apply Picks.cons; · repeat (first | exact Pick.keep (Sl.isDup _ _ _) | exact Pick.keep (BlkR.isDup _ _ _) | exact Pick.keep (FldCell.isDup _ _) | exact Pick.here | exact Pick.own_sl | exact Pick.apd_sl | exact Pick.r_blk | exact Pick.sl_nil | exact Pick.own_nil | exact Pick.map_itO _ | apply Pick.there)))) fun t _ => ?_)
        refine o_val ((by first | exact v_len_form Try.underlying30 rfl | exact v_len_sl Try.underlying30 rfl (by repeat (first | exact Has.here | exact Has.sl_apd | exact Has.sl_own | exact Has.r_blk | apply Has.there)))) (Nat.le_of_ble_eq_true rfl) ?_
        refine o_val (v_gt rfl rfl) (Nat.le_of_ble_eq_true rfl) ?_
        refine o_val (v_assign rfl) (Nat.le_of_ble_eq_true rfl) ?_
        refine o_nil ?_
        refine c_seq ?_
        refine c_region ?_
        refine o_val (v_assign rfl) (Nat.le_of_ble_eq_true rfl) ?_
        refine o_val (v_assign rfl) (Nat.le_of_ble_eq_true rfl) ?_
        refine o_nil ?_
        refine c_seq ?_
        refine c_seq ?_
        refine c_region ?_
        refine o_val (v_move rfl) (Nat.le_of_ble_eq_true rfl) ?_
        refine o_val ((by first | exact v_len_form Try.underlying35 rfl | exact v_len_sl Try.underlying35 rfl (by repeat (first | exact Has.here | exact Has.sl_apd | exact Has.sl_own | exact Has.r_blk | apply Has.there)))) (Nat.le_of_ble_eq_true rfl) ?_
        refine o_val (v_move rfl) (Nat.le_of_ble_eq_true rfl) ?_
        refine o_nil ?_
        refine c_block ?_
        obtain ⟨T, hT⟩ : ∃ T : List Int, T = (if names = [] then [] else [1]) ++ (if touched names p = [] then [] else [2]) := ⟨_, rfl⟩
        rw [← hT]
        have hTl : T.length ≤ 2 := by rw [hT]; split <;> split <;> simp
        have hT1 : T.count 1 = if names = [] then 0 else 1 := by rw [hT]; split <;> split <;> rfl
        have hT2 : T.count 2 = if touched names p = [] then 0 else 1 := by rw [hT]; split <;> split <;> rfl
        obtain ⟨N1, hN1⟩ : ∃ N1 : List Nt, N1 = if names = [] then [] else noteW 5 (touched names ByteArray.empty) [] := ⟨_, rfl⟩
        obtain ⟨N2, hN2⟩ : ∃ N2 : List Nt, N2 = if touched names p = [] then [] else noteW 5 (touched names p) [] := ⟨_, rfl⟩
        rw [← hN1, ← hN2]
        refine c_loopR (γ := Nat) [(0, _), (4, _), (8, _), (10, _), (48, _), (49, _)] (fun j => T.length - j) (fun j => j ≤ T.length) (fun j => [(50, .int .i64 j), (11, .int .i64 ((T.take j).count 1 : Nat)), (12, .int .i64 ((T.take j).count 2 : Nat))]) (fun _ => [Own (eInt .i64) 3 told T, HubA b8 [(1, ByteArray.empty, N1), (2, p, N2)], Sl eStr v names]) (0) (Nat.zero_le _) (by repeat (first | exact trivial | refine ⟨rfl, ?_⟩)) (Picks.ent (by repeat (first | exact Picks.nil | (apply Picks.cons; · repeat (first | exact Pick.keep (Sl.isDup _ _ _) | exact Pick.keep (BlkR.isDup _ _ _) | exact Pick.keep (FldCell.isDup _ _) | exact Pick.here | exact Pick.own_sl | exact Pick.apd_sl | exact Pick.r_blk | exact Pick.sl_nil | exact Pick.own_nil | exact Pick.map_itO _ | apply Pick.there))))) ?_
        rintro j hj IH2
        have hb1 : (T.take j).count 1 ≤ 2 := Nat.le_trans List.count_le_length (by simp; omega)
        have hb2 : (T.take j).count 2 ≤ 2 := Nat.le_trans List.count_le_length (by simp; omega)
        try dsimp only [List.cons_append, List.nil_append]
        refine c_seq ?_
        refine c_region ?_
        refine o_val (v_lt rfl rfl) (Nat.le_of_ble_eq_true rfl) ?_
        refine o_nil ?_
        refine c_seq ?_
        refine c_cond_p rfl (fun hlt2 => ?_) (fun hlt2 => ?_)
        · have hj' : j < T.length := by omega
          have c1 := count_take hj' 1
          have c2 := count_take hj' 2
          refine c_skip ?_
          refine c_seq ?_
          refine c_block ?_
          refine c_seq ?_
          refine c_region ?_
          refine o_val ((by first | exact v_indexAddrN Try.underlying35 ti3 rfl rfl (by repeat (first | exact Has.here | exact Has.sl_apd | exact Has.sl_own | exact Has.r_blk | apply Has.there)) (by omega) | exact v_indexAddr Try.underlying35 ti3 rfl rfl (by repeat (first | exact Has.here | exact Has.sl_apd | exact Has.sl_own | exact Has.r_blk | apply Has.there)) (by omega))) (Nat.le_of_ble_eq_true rfl) ?_
          refine o_val (v_load_int lone3 rfl (by repeat (first | exact Elem.sl (List.getElem?_eq_getElem (by omega)) | exact Elem.own (List.getElem?_eq_getElem (by omega)) | apply Elem.there))) (Nat.le_of_ble_eq_true rfl) ?_
          refine o_val (v_assign rfl) (Nat.le_of_ble_eq_true rfl) ?_
          refine o_nil ?_
          refine c_seq ?_
          refine c_seq ?_
          refine c_region ?_
          refine o_val (v_move rfl) (Nat.le_of_ble_eq_true rfl) ?_
          refine o_val (v_eq rfl rfl) (Nat.le_of_ble_eq_true rfl) ?_
          refine o_nil ?_
          refine c_cond_p rfl (fun h1 => ?_) (fun h1 => ?_)
          · refine c_region ?_
            refine o_val (v_move rfl) (Nat.le_of_ble_eq_true rfl) ?_
            refine o_val ((by first | exact v_add64 rfl rfl (by omega) | exact v_add rfl rfl)) (Nat.le_of_ble_eq_true rfl) ?_
            refine o_val (v_assign rfl) (Nat.le_of_ble_eq_true rfl) ?_
            refine o_nil ?_
            refine c_seq ?_
            refine c_region ?_
            refine o_val (v_move rfl) (Nat.le_of_ble_eq_true rfl) ?_
            refine o_val (v_eq rfl rfl) (Nat.le_of_ble_eq_true rfl) ?_
            refine o_nil ?_
            rw [if_pos h1] at c1
            rw [if_neg (by omega), Int.add_zero] at c2
            refine c_cond_p rfl (fun h2 => ?_) (fun h2 => ?_)
            · exact absurd h2 (by omega)
            · refine c_skip ?_
              refine c_inBlock ?_
              refine c_region ?_
              refine o_val ((by first | exact v_add64 rfl rfl (by omega) | exact v_add rfl rfl)) (Nat.le_of_ble_eq_true rfl) ?_
              refine o_val (v_move rfl) (Nat.le_of_ble_eq_true rfl) ?_
              refine o_nil ?_
              rw [← c1, ← c2]
              refine c_use (IH2 (j + 1) (by first | omega | (dsimp only; omega)) (by omega)) (by repeat (first | exact trivial | refine ⟨rfl, ?_⟩)) (Picks.ent (by repeat (first | exact Picks.nil | (apply Picks.cons; · repeat (first | exact Pick.keep (Sl.isDup _ _ _) | exact Pick.keep (BlkR.isDup _ _ _) | exact Pick.keep (FldCell.isDup _ _) | exact Pick.here | exact Pick.own_sl | exact Pick.apd_sl | exact Pick.r_blk | exact Pick.sl_nil | exact Pick.own_nil | exact Pick.map_itO _ | apply Pick.there)))))
          · refine c_skip ?_
            refine c_seq ?_
            refine c_region ?_
            refine o_val (v_move rfl) (Nat.le_of_ble_eq_true rfl) ?_
            refine o_val (v_eq rfl rfl) (Nat.le_of_ble_eq_true rfl) ?_
            refine o_nil ?_
            rw [if_neg h1, Int.add_zero] at c1
            refine c_cond_p rfl (fun h2 => ?_) (fun h2 => ?_)
            · refine c_region ?_
              refine o_val (v_move rfl) (Nat.le_of_ble_eq_true rfl) ?_
              refine o_val ((by first | exact v_add64 rfl rfl (by omega) | exact v_add rfl rfl)) (Nat.le_of_ble_eq_true rfl) ?_
              refine o_val (v_assign rfl) (Nat.le_of_ble_eq_true rfl) ?_
              refine o_nil ?_
              refine c_inBlock ?_
              refine c_region ?_
              refine o_val ((by first | exact v_add64 rfl rfl (by omega) | exact v_add rfl rfl)) (Nat.le_of_ble_eq_true rfl) ?_
              refine o_val (v_move rfl) (Nat.le_of_ble_eq_true rfl) ?_
              refine o_nil ?_
              rw [if_pos h2] at c2
              rw [← c1, ← c2]
              refine c_use (IH2 (j + 1) (by first | omega | (dsimp only; omega)) (by omega)) (by repeat (first | exact trivial | refine ⟨rfl, ?_⟩)) (Picks.ent (by repeat (first | exact Picks.nil | (apply Picks.cons; · repeat (first | exact Pick.keep (Sl.isDup _ _ _) | exact Pick.keep (BlkR.isDup _ _ _) | exact Pick.keep (FldCell.isDup _ _) | exact Pick.here | exact Pick.own_sl | exact Pick.apd_sl | exact Pick.r_blk | exact Pick.sl_nil | exact Pick.own_nil | exact Pick.map_itO _ | apply Pick.there)))))
            · refine c_skip ?_
              refine c_inBlock ?_
              refine c_region ?_
              refine o_val ((by first | exact v_add64 rfl rfl (by omega) | exact v_add rfl rfl)) (Nat.le_of_ble_eq_true rfl) ?_
              refine o_val (v_move rfl) (Nat.le_of_ble_eq_true rfl) ?_
              refine o_nil ?_
              rw [if_neg h2, Int.add_zero] at c2
              rw [← c1, ← c2]
              refine c_use (IH2 (j + 1) (by first | omega | (dsimp only; omega)) (by omega)) (by repeat (first | exact trivial | refine ⟨rfl, ?_⟩)) (Picks.ent (by repeat (first | exact Picks.nil | (apply Picks.cons; · repeat (first | exact Pick.keep (Sl.isDup _ _ _) | exact Pick.keep (BlkR.isDup _ _ _) | exact Pick.keep (FldCell.isDup _ _) | exact Pick.here | exact Pick.own_sl | exact Pick.apd_sl | exact Pick.r_blk | exact Pick.sl_nil | exact Pick.own_nil | exact Pick.map_itO _ | apply Pick.there)))))
        · have hje : j = T.length := by omega
          refine c_exit rfl ?_
          refine c_seq ?_
          refine c_region ?_
          rw [hje, List.take_length, hT1, hT2]
          have hN14 : N1.length ≤ 4 := by rw [hN1]; split <;> simp [noteW]
          have hN24 : N2.length ≤ 4 := by rw [hN2]; split <;> simp [noteW]
          have hsm : ∀ x ∈ ([(1, ByteArray.empty, N1), (2, p, N2)] : List Wr), x.2.2.length ≤ 1000000 := fun x hx => by
            rcases List.mem_cons.1 hx with rfl | hx
            · show N1.length ≤ _; omega
            · rw [List.mem_singleton.1 hx]; show N2.length ≤ _; omega
          refine o_step (s_callf cl23 (take_con b8 [(1, ByteArray.empty, N1), (2, p, N2)] 1 1 hsm) rfl (Nat.le_of_ble_eq_true rfl) (by repeat (first | exact Picks.nil | (apply Picks.cons; · repeat (first | exact Pick.keep (Sl.isDup _ _ _) | exact Pick.keep (BlkR.isDup _ _ _) | exact Pick.keep (FldCell.isDup _ _) | exact Pick.here | exact Pick.own_sl | exact Pick.apd_sl | exact Pick.r_blk | exact Pick.sl_nil | exact Pick.own_nil | exact Pick.map_itO _ | apply Pick.there)))) fun l _ => ?_)
          refine o_val (v_move rfl) (Nat.le_of_ble_eq_true rfl) ?_
          refine o_val (v_extract rfl rfl) (Nat.le_of_ble_eq_true rfl) ?_
          refine o_val (v_extract rfl rfl) (Nat.le_of_ble_eq_true rfl) ?_
          refine o_val (v_assign rfl) (Nat.le_of_ble_eq_true rfl) ?_
          refine o_val (v_assign rfl) (Nat.le_of_ble_eq_true rfl) ?_
          refine o_nil ?_
          refine c_seq ?_
          refine c_region ?_
          rw [take2]
          dsimp only
          refine o_mk (nts_sl (L := []) (v := l) (l := N1.take 1)) (by repeat (first | exact Picks.nil | (apply Picks.cons; · repeat (first | exact Pick.keep (Sl.isDup _ _ _) | exact Pick.keep (BlkR.isDup _ _ _) | exact Pick.keep (FldCell.isDup _ _) | exact Pick.here | exact Pick.own_sl | exact Pick.apd_sl | exact Pick.r_blk | exact Pick.sl_nil | exact Pick.own_nil | exact Pick.map_itO _ | apply Pick.there)))) ?_
          have hA : decide (decide (((if names = [] then 0 else 1 : Nat) : Int) = 1) = decide (0 < (names.length : Int))) = true := by
            cases names <;> simp
          have hB : decide (decide (((if touched names p = [] then 0 else 1 : Nat) : Int) = 1) = decide (0 < ((touched names p).length : Int))) = true := by
            cases touched names p <;> simp
          have hC : decide ((N2.length : Int) = ((if touched names p = [] then 0 else 1 : Nat) : Int)) = true := by
            rw [hN2]; split <;> simp [noteW]
          refine o_step (s_callf cl16 (alive_con) rfl (Nat.le_of_ble_eq_true rfl) (by repeat (first | exact Picks.nil | (apply Picks.cons; · repeat (first | exact Pick.keep (Sl.isDup _ _ _) | exact Pick.keep (BlkR.isDup _ _ _) | exact Pick.keep (FldCell.isDup _ _) | exact Pick.here | exact Pick.own_sl | exact Pick.apd_sl | exact Pick.r_blk | exact Pick.sl_nil | exact Pick.own_nil | exact Pick.map_itO _ | apply Pick.there)))) fun _ _ => ?_)
          refine o_val (v_move rfl) (Nat.le_of_ble_eq_true rfl) ?_
          refine o_guard rfl rfl (fun _ => ?_) (fun h_ => absurd ((show _ = true from rfl).symm.trans h_) (by decide))
          refine o_val (v_move rfl) (Nat.le_of_ble_eq_true rfl) ?_
          refine o_on rfl rfl ?_
          refine o_val (v_eq rfl rfl) (Nat.le_of_ble_eq_true rfl) ?_
          refine o_on rfl rfl ?_
          refine o_val (v_move rfl) (Nat.le_of_ble_eq_true rfl) ?_
          refine o_on rfl rfl ?_
          refine o_val ((by first | exact v_len_form Try.underlying30 rfl | exact v_len_sl Try.underlying30 rfl (by repeat (first | exact Has.here | exact Has.sl_apd | exact Has.sl_own | exact Has.r_blk | apply Has.there)))) (Nat.le_of_ble_eq_true rfl) ?_
          refine o_on rfl rfl ?_
          refine o_val (v_gt rfl rfl) (Nat.le_of_ble_eq_true rfl) ?_
          refine o_on rfl rfl ?_
          refine o_val (v_beq Try.underlying4 rfl rfl) (Nat.le_of_ble_eq_true rfl) ?_
          refine o_val (v_pick_t rfl rfl) (Nat.le_of_ble_eq_true rfl) ?_
          refine o_val (v_move rfl) (Nat.le_of_ble_eq_true rfl) ?_
          refine o_guard rfl rfl (fun _ => ?_) (fun h_ => absurd ((show _ = true from hA).symm.trans h_) (by decide))
          refine o_val (v_move rfl) (Nat.le_of_ble_eq_true rfl) ?_
          refine o_on rfl rfl ?_
          refine o_val (v_eq rfl rfl) (Nat.le_of_ble_eq_true rfl) ?_
          refine o_on rfl rfl ?_
          refine o_val (v_move rfl) (Nat.le_of_ble_eq_true rfl) ?_
          refine o_on rfl rfl ?_
          refine o_val (v_beq Try.underlying4 rfl rfl) (Nat.le_of_ble_eq_true rfl) ?_
          refine o_val (v_pick_t rfl rfl) (Nat.le_of_ble_eq_true rfl) ?_
          refine o_val (v_move rfl) (Nat.le_of_ble_eq_true rfl) ?_
          refine o_guard rfl rfl (fun _ => ?_) (fun h_ => absurd ((show _ = true from hB).symm.trans h_) (by decide))
          refine o_step (s_callf cl20 (waiting_con b8 [(1, ByteArray.empty, N1.drop 1), (2, p, N2)] 2) rfl (Nat.le_of_ble_eq_true rfl) (by repeat (first | exact Picks.nil | (apply Picks.cons; · repeat (first | exact Pick.keep (Sl.isDup _ _ _) | exact Pick.keep (BlkR.isDup _ _ _) | exact Pick.keep (FldCell.isDup _ _) | exact Pick.here | exact Pick.own_sl | exact Pick.apd_sl | exact Pick.r_blk | exact Pick.sl_nil | exact Pick.own_nil | exact Pick.map_itO _ | apply Pick.there)))) fun _ _ => ?_)
          refine o_on rfl rfl ?_
          refine o_val (v_move rfl) (Nat.le_of_ble_eq_true rfl) ?_
          refine o_on rfl rfl ?_
          refine o_val (v_eq rfl rfl) (Nat.le_of_ble_eq_true rfl) ?_
          refine o_val (v_pick_t rfl rfl) (Nat.le_of_ble_eq_true rfl) ?_
          refine o_val (v_move rfl) (Nat.le_of_ble_eq_true rfl) ?_
          rw [get2]
          dsimp only [Option.map_some, Option.getD_some]
          refine o_guard rfl rfl (fun _ => ?_) (fun h_ => absurd ((show _ = true from hC).symm.trans h_) (by decide))
          refine o_val (v_move rfl) (Nat.le_of_ble_eq_true rfl) ?_
          refine o_on rfl rfl ?_
          refine o_val ((by first | exact v_len_form Try.underlying30 rfl | exact v_len_sl Try.underlying30 rfl (by repeat (first | exact Has.here | exact Has.sl_apd | exact Has.sl_own | exact Has.r_blk | apply Has.there)))) (Nat.le_of_ble_eq_true rfl) ?_
          refine o_on rfl rfl ?_
          refine o_val (v_eq rfl rfl) (Nat.le_of_ble_eq_true rfl) ?_
          refine o_on rfl rfl ?_
          refine o_val (v_move rfl) (Nat.le_of_ble_eq_true rfl) ?_
          refine o_guard_f rfl rfl (fun hz => ?_) (fun hz => ?_)
          · have hnn : names ≠ [] := fun h => hz (by rw [h]; rfl)
            have hN1t : N1.take 1 = [(5, touched names ByteArray.empty, false)] := by rw [hN1, if_neg hnn]; rfl
            have htl := touched_len names ByteArray.empty
            rw [hN1t]
            refine o_val (v_move rfl) (Nat.le_of_ble_eq_true rfl) ?_
            refine o_on rfl rfl ?_
            refine o_val ((by first | exact v_len_form Try.underlying49 rfl | exact v_len_sl Try.underlying49 rfl (by repeat (first | exact Has.here | exact Has.sl_apd | exact Has.sl_own | exact Has.r_blk | apply Has.there)))) (Nat.le_of_ble_eq_true rfl) ?_
            refine o_on rfl rfl ?_
            refine o_val (v_eq rfl rfl) (Nat.le_of_ble_eq_true rfl) ?_
            refine o_on rfl rfl ?_
            refine o_val (v_move rfl) (Nat.le_of_ble_eq_true rfl) ?_
            refine o_guard rfl rfl (fun _ => ?_) (fun h_ => absurd ((show _ = true from rfl).symm.trans h_) (by decide))
            refine o_val (v_move rfl) (Nat.le_of_ble_eq_true rfl) ?_
            refine o_on rfl rfl ?_
            refine o_step (s_callf cl24 (old_con l [(5, touched names ByteArray.empty, false)] (by simp)) rfl (Nat.le_of_ble_eq_true rfl) (by repeat (first | exact Picks.nil | (apply Picks.cons; · repeat (first | exact Pick.keep (Sl.isDup _ _ _) | exact Pick.keep (BlkR.isDup _ _ _) | exact Pick.keep (FldCell.isDup _ _) | exact Pick.here | exact Pick.own_sl | exact Pick.apd_sl | exact Pick.r_blk | exact Pick.sl_nil | exact Pick.own_nil | exact Pick.map_itO _ | apply Pick.there)))) fun u _ => ?_)
            refine o_on rfl rfl ?_
            refine o_val (v_move rfl) (Nat.le_of_ble_eq_true rfl) ?_
            refine o_on rfl rfl ?_
            refine o_step (s_callf cl26 (touchedS_con v names ByteArray.empty (by omega) hns (by decide)) rfl (Nat.le_of_ble_eq_true rfl) (by repeat (first | exact Picks.nil | (apply Picks.cons; · repeat (first | exact Pick.keep (Sl.isDup _ _ _) | exact Pick.keep (BlkR.isDup _ _ _) | exact Pick.keep (FldCell.isDup _ _) | exact Pick.here | exact Pick.own_sl | exact Pick.apd_sl | exact Pick.r_blk | exact Pick.sl_nil | exact Pick.own_nil | exact Pick.map_itO _ | apply Pick.there)))) fun t2 _ => ?_)
            refine o_on rfl rfl ?_
            refine o_val (v_buildS (places := [(0, 1), (1, 1), (2, 1)]) (cells := [_, _, .bool false]) Try.underlying56 ti56 (by kernel_rfl) rfl (by repeat (first | exact PartsC.nil | (apply PartsC.one (by first | exact OneC.lit rfl | exact OneC.sl (by repeat (first | exact Has.here | exact Has.sl_apd | exact Has.sl_own | exact Has.r_blk | apply Has.there)))) | (apply PartsC.lit rfl))) rfl) (Nat.le_of_ble_eq_true rfl) ?_
            refine o_on rfl rfl ?_
            refine o_step (s_buildSlice Try.underlying37 ti56 rfl rfl rfl (by decide) (by decide) (beside_agg1 (beside_of (z := (5, touched names ByteArray.empty, false)) (Lp := [Sl eStr t2 (touched names ByteArray.empty)]) (by repeat (first | exact Picks.nil | (apply Picks.cons; · repeat (first | exact Pick.keep (Sl.isDup _ _ _) | exact Pick.keep (BlkR.isDup _ _ _) | exact Pick.keep (FldCell.isDup _ _) | exact Pick.here | exact Pick.own_sl | exact Pick.apd_sl | exact Pick.r_blk | exact Pick.sl_nil | exact Pick.own_nil | exact Pick.map_itO _ | apply Pick.there)))) (fun w O h => nt_rd w O h))) rfl rfl (Nat.le_of_ble_eq_true rfl) fun v1 => ?_)
            refine o_on rfl rfl ?_
            refine o_step (s_callf cl28 (same_con u v1 [(5, touched names ByteArray.empty, false)] [(5, touched names ByteArray.empty, false)] (by simp) (by simp) (by simp; omega)) rfl (Nat.le_of_ble_eq_true rfl) (by repeat (first | exact Picks.nil | (apply Picks.cons; · repeat (first | exact Pick.keep (Sl.isDup _ _ _) | exact Pick.keep (BlkR.isDup _ _ _) | exact Pick.keep (FldCell.isDup _ _) | exact Pick.here | exact Pick.own_sl | exact Pick.apd_sl | exact Pick.r_blk | exact Pick.sl_nil | exact Pick.own_nil | exact Pick.map_itO _ | apply Pick.there)))) fun _ _ => ?_)
            refine o_on rfl rfl ?_
            refine o_val (v_pick_t rfl rfl) (Nat.le_of_ble_eq_true rfl) ?_
            refine o_on rfl rfl ?_
            refine o_val (v_pick_f rfl rfl) (Nat.le_of_ble_eq_true rfl) ?_
            refine o_val (v_pick_t rfl rfl) (Nat.le_of_ble_eq_true rfl) ?_
            refine o_val (v_assign rfl) (Nat.le_of_ble_eq_true rfl) ?_
            refine o_nil ?_
            refine c_ret1 Try.func5 rfl rfl fun w O hS => ?_
            exact ⟨(), congrArg Value.bool (decide_eq_true rfl), trivial, trivial⟩
          · refine o_off rfl rfl rfl (Nat.le_of_ble_eq_true rfl) ?_
            refine o_off rfl rfl rfl (Nat.le_of_ble_eq_true rfl) ?_
            refine o_off rfl rfl rfl (Nat.le_of_ble_eq_true rfl) ?_
            refine o_off rfl rfl rfl (Nat.le_of_ble_eq_true rfl) ?_
            refine o_offu rfl rfl (Nat.le_of_ble_eq_true rfl) ?_
            refine o_offu rfl rfl (Nat.le_of_ble_eq_true rfl) ?_
            refine o_offu rfl rfl (Nat.le_of_ble_eq_true rfl) ?_
            refine o_offu rfl rfl (Nat.le_of_ble_eq_true rfl) ?_
            refine o_offu rfl rfl (Nat.le_of_ble_eq_true rfl) ?_
            refine o_offu rfl rfl (Nat.le_of_ble_eq_true rfl) ?_
            refine o_offu rfl rfl (Nat.le_of_ble_eq_true rfl) ?_
            refine o_off rfl rfl rfl (Nat.le_of_ble_eq_true rfl) ?_
            refine o_on rfl rfl ?_
            refine o_val (v_pick_t rfl rfl) (Nat.le_of_ble_eq_true rfl) ?_
            refine o_val (v_pick_t rfl rfl) (Nat.le_of_ble_eq_true rfl) ?_
            refine o_val (v_assign rfl) (Nat.le_of_ble_eq_true rfl) ?_
            refine o_nil ?_
            refine c_ret1 Try.func5 rfl rfl fun w O hS => ?_
            exact ⟨(), rfl, trivial, trivial⟩
    · refine o_off rfl rfl rfl (Nat.le_of_ble_eq_true rfl) ?_
      refine o_off rfl rfl rfl (Nat.le_of_ble_eq_true rfl) ?_
      refine o_off rfl rfl rfl (Nat.le_of_ble_eq_true rfl) ?_
      refine o_val (v_pick_t rfl rfl) (Nat.le_of_ble_eq_true rfl) ?_
      refine o_nil ?_
      refine c_cond_t rfl ?_
      refine c_seq ?_
      refine c_region ?_
      refine o_step (s_callf cl16 (alive_con) rfl (Nat.le_of_ble_eq_true rfl) (by repeat (first | exact Picks.nil | (apply Picks.cons; · repeat (first | exact Pick.keep (Sl.isDup _ _ _) | exact Pick.keep (BlkR.isDup _ _ _) | exact Pick.keep (FldCell.isDup _ _) | exact Pick.here | exact Pick.own_sl | exact Pick.apd_sl | exact Pick.r_blk | exact Pick.sl_nil | exact Pick.own_nil | exact Pick.map_itO _ | apply Pick.there)))) fun _ _ => ?_)
      refine o_val (v_assign rfl) (Nat.le_of_ble_eq_true rfl) ?_
      refine o_nil ?_
      refine c_ret1 Try.func5 rfl rfl fun w O hS => ?_
      exact ⟨(), rfl, trivial, trivial⟩
end Go.Proofs.Ytnamhhmfnokfiaa

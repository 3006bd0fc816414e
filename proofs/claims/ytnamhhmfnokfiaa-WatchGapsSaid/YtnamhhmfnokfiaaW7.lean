import Derived.Test.YtnamhhmfnokfiaaW6
namespace Go.Proofs.Ytnamhhmfnokfiaa
open Go Go.SL

/-- What a watcher of all has behind some pushes. -/
def qAll : List (List ByteArray) → Int → List Nt → List Nt
  | [], _, q => q
  | names :: r, k, q => qAll r (k + 1) (if names = [] then q else noteW k (touched names ByteArray.empty) q)
theorem qall_len : ∀ (l : List (List ByteArray)) (k : Int) (q : List Nt), q.length ≤ 4 → (qAll l k q).length ≤ 4
  | [], _, _, h => h
  | names :: r, k, q, h => qall_len r (k + 1) _ (by
    split
    · exact h
    · unfold noteW
      split
      · simp; omega
      · simp; omega)
theorem note_names {B : Nat} {k : Int} {t : List ByteArray} {q : List Nt} (ht : t.length ≤ B) (hq : ∀ x ∈ q, x.2.1.length ≤ B) : ∀ x ∈ noteW k t q, x.2.1.length ≤ B := fun x hx => by
  unfold noteW at hx
  split at hx
  · rcases List.mem_append.1 hx with h | h
    · exact hq x h
    · rw [List.mem_singleton.1 h]; exact ht
  · rcases List.mem_append.1 hx with h | h
    · exact hq x (List.mem_of_mem_take h)
    · rw [List.mem_singleton.1 h]; exact Nat.zero_le _
theorem qall_names {B : Nat} : ∀ (l : List (List ByteArray)) (k : Int) (q : List Nt), (∀ y ∈ l, y.length ≤ B) → (∀ x ∈ q, x.2.1.length ≤ B) → ∀ x ∈ qAll l k q, x.2.1.length ≤ B
  | [], _, _, _, hq => hq
  | names :: r, k, q, hl, hq => qall_names r (k + 1) _ (fun y hy => hl y (by simp [hy])) (by
    split
    · exact hq
    · exact note_names (Nat.le_trans (touched_len names ByteArray.empty) (hl names (by simp))) hq)
theorem qall_snoc : ∀ (l : List (List ByteArray)) (k : Int) (q : List Nt) (x : List ByteArray), qAll (l ++ [x]) k q = if x = [] then qAll l k q else noteW (k + l.length) (touched x ByteArray.empty) (qAll l k q)
  | [], k, q, x => by simp [qAll]
  | y :: l, k, q, x => by
    show qAll (l ++ [x]) (k + 1) _ = _
    rw [qall_snoc l]
    have e : k + 1 + (l.length : Int) = k + ((y :: l).length : Nat) := by simp; omega
    rw [e]; rfl
theorem qall_step {ps : List (List ByteArray)} {k : Nat} (hk : k < ps.length) : (if ps[k] = [] then qAll (ps.take k) 1 [] else noteW ((k : Int) + 1) (touched ps[k] ByteArray.empty) (qAll (ps.take k) 1 [])) = qAll (ps.take (k + 1)) 1 [] := by
  rw [List.take_succ_eq_append_getElem hk, qall_snoc, show (1 : Int) + ((ps.take k).length : Nat) = (k : Int) + 1 by rw [List.length_take]; omega]
def H3 (q : List Nt) : List Wr := [(1, ByteArray.empty, q), (2, ByteArray.empty, q), (3, ByteArray.empty, q)]
theorem h3_len {q : List Nt} (hq : q.length ≤ 4) {k : Nat} (hk : 4 ≤ k) : ∀ w ∈ H3 q, w.2.2.length ≤ k := fun w hw => by
  unfold H3 at hw
  rcases List.mem_cons.1 hw with rfl | hw
  · show q.length ≤ k; omega
  rcases List.mem_cons.1 hw with rfl | hw
  · show q.length ≤ k; omega
  · rw [List.mem_singleton.1 hw]; show q.length ≤ k; omega
theorem l3_len {a b c : List Nt} (ha : a.length ≤ 4) (hb : b.length ≤ 4) (hc : c.length ≤ 4) : ∀ w ∈ ([(1, ByteArray.empty, a), (2, ByteArray.empty, b), (3, ByteArray.empty, c)] : List Wr), w.2.2.length ≤ 1000000 := fun w hw => by
  rcases List.mem_cons.1 hw with rfl | hw
  · show a.length ≤ _; omega
  rcases List.mem_cons.1 hw with rfl | hw
  · show b.length ≤ _; omega
  · rw [List.mem_singleton.1 hw]; show c.length ≤ _; omega
theorem push3 (ver : Int) (names : List ByteArray) (q : List Nt) : pushW (H3 q) ver names = H3 (if names = [] then q else noteW ver (touched names ByteArray.empty) q) := by
  unfold pushW H3
  have e : ∀ (i : Int) (l : List Nt), stepW ver names (i, ByteArray.empty, l) = (i, ByteArray.empty, if names = [] then l else noteW ver (touched names ByteArray.empty) l) := fun i l => by
    unfold stepW
    by_cases h : names = []
    · rw [if_pos (touched_all_nil.2 h), if_pos h]
    · rw [if_neg (fun h2 => h (touched_all_nil.1 h2)), if_neg h]
  simp only [List.map_cons, List.map_nil, e]
theorem add3a : addW [(1, ByteArray.empty, [])] 2 ByteArray.empty = ([(1, ByteArray.empty, []), (2, ByteArray.empty, [])], 0) := by rfl
theorem add3b : addW [(1, ByteArray.empty, []), (2, ByteArray.empty, [])] 3 ByteArray.empty = (H3 [], 0) := by rfl
theorem takeAt {H : List Wr} {id n : Int} {i : Nat} {w : Wr} (h : atW H id = i) (hw : H[i]? = some w) : takeW H id n = (H.set i (w.1, w.2.1, w.2.2.drop (manyW n w.2.2)), w.2.2.take (manyW n w.2.2), 0) := by
  unfold takeW
  rw [h, Int.toNat_natCast, hw]
  simp only
  rw [if_neg (by omega)]
theorem many_take (n : Int) (hn : 0 ≤ n) (l : List Nt) : l.take (manyW n l) = l.take n.toNat ∧ l.drop (manyW n l) = l.drop n.toNat := by
  have h : manyW n l = min n.toNat l.length := by unfold manyW; omega
  rw [h]
  constructor
  · rcases Nat.le_total n.toNat l.length with h1 | h1
    · rw [Nat.min_eq_left h1]
    · rw [Nat.min_eq_right h1, List.take_of_length_le (Nat.le_refl _), List.take_of_length_le h1]
  · rcases Nat.le_total n.toNat l.length with h1 | h1
    · rw [Nat.min_eq_left h1]
    · rw [Nat.min_eq_right h1, List.drop_of_length_le (Nat.le_refl _), List.drop_of_length_le h1]
theorem takeP1 {a b c : List Nt} {n : Int} (hn : 0 ≤ n) : takeW [(1, ByteArray.empty, a), (2, ByteArray.empty, b), (3, ByteArray.empty, c)] 1 n = ([(1, ByteArray.empty, a.drop n.toNat), (2, ByteArray.empty, b), (3, ByteArray.empty, c)], a.take n.toNat, 0) := by
  rw [takeAt (i := 0) (w := (1, ByteArray.empty, a)) (by rfl) rfl, (many_take n hn a).1, (many_take n hn a).2]; rfl
theorem takeP2 {a b c : List Nt} {n : Int} (hn : 0 ≤ n) : takeW [(1, ByteArray.empty, a), (2, ByteArray.empty, b), (3, ByteArray.empty, c)] 2 n = ([(1, ByteArray.empty, a), (2, ByteArray.empty, b.drop n.toNat), (3, ByteArray.empty, c)], b.take n.toNat, 0) := by
  rw [takeAt (i := 1) (w := (2, ByteArray.empty, b)) (by rfl) rfl, (many_take n hn b).1, (many_take n hn b).2]; rfl
theorem dropP {a b c : List Nt} : dropW [(1, ByteArray.empty, a), (2, ByteArray.empty, b), (3, ByteArray.empty, c)] 3 = ([(1, ByteArray.empty, a), (2, ByteArray.empty, b)], 0) := by rfl
theorem addP {a b : List Nt} : addW [(1, ByteArray.empty, a), (2, ByteArray.empty, b)] 3 ByteArray.empty = ([(1, ByteArray.empty, a), (2, ByteArray.empty, b), (3, ByteArray.empty, [])], 0) := by rfl
theorem getP1 {a b c : List Nt} : getW [(1, ByteArray.empty, a), (2, ByteArray.empty, b), (3, ByteArray.empty, c)] 1 = some (1, ByteArray.empty, a) := by rfl
theorem getP2 {a b c : List Nt} : getW [(1, ByteArray.empty, a), (2, ByteArray.empty, b), (3, ByteArray.empty, c)] 2 = some (2, ByteArray.empty, b) := by rfl
theorem getP3 {a b c : List Nt} : getW [(1, ByteArray.empty, a), (2, ByteArray.empty, b), (3, ByteArray.empty, c)] 3 = some (3, ByteArray.empty, c) := by rfl
theorem nts_split {v : Value} {l : List Nt} {L : List A} : Ent (NtsA v l :: L) ((ExA fun qs : List (Value × Nt) => AllA [Own eNr 60 v (qs.map rawN), Pu (qs.map (·.2) = l), AllA (qs.map noteA)]) :: L) := fun _ _ h => h
theorem notes_join {qs rs : List (Value × Nt)} {L : List A} : Ent (AllA (qs.map noteA) :: AllA (rs.map noteA) :: L) (AllA ((qs ++ rs).map noteA) :: L) := fun w O hs => by
  obtain ⟨O1, O2, s, h1, P1, P2, t, k1, k2⟩ := hs
  refine ⟨fun c => max (O1 c) (P1 c), P2, ⟨fun c => by have := s.l c; have := s.r c; have := t.l c; show max _ _ ≤ _; omega, fun c => by have := s.r c; have := t.r c; omega, fun c hc => ?_, fun c hc => ?_⟩, ?_, k2⟩
  · have hc' : 2 ≤ max (O1 c) (P1 c) := hc
    rcases Nat.lt_or_ge (O1 c) 2 with h | h
    · exact t.lr c (by omega)
    · have := s.lr c h; have := t.r c; omega
  · have h5 := t.rl c hc
    have h6 := s.rl c (by have := t.r c; omega)
    show max _ _ = 0; omega
  · show Stars ((qs ++ rs).map noteA) w _
    rw [List.map_append]
    exact Stars.app ⟨fun c => Nat.le_max_left _ _, fun c => Nat.le_max_right _ _, fun c hc => by have := s.lr c hc; have := t.l c; omega, fun c hc => s.rl c (by have := t.l c; omega)⟩ h1 k1
attribute [local irreducible] Cfg Kont StepK Val Con Qops Any Sl Own Blk BlkR Rd Pu ExA AllA Has Pick Ent Elem Beside Callable TI Lone

set_option maxRecDepth 100000 in
theorem watchParts_con (v : Value) (ps : List (List ByteArray)) (n m : Int) (hps : ps.length ≤ 8796093021952) (hn : ∀ l ∈ ps, l.length ≤ 8796093021952 ∧ ∀ s ∈ l, s.size ≤ 140737488351232) : Con Try.prog 7 [v, .int .i64 n, .int .i64 m] [Sl (eSl eStr) v ps] (γ := Unit) (fun _ => .bool true) (fun _ => True) (fun _ => []) := by
  refine con_of Try.func7 rfl (Nat.le_of_ble_eq_true rfl) fun w0 O0 => ?_
  refine c_seq ?_
  refine c_region ?_
  refine o_val (v_assign rfl) (Nat.le_of_ble_eq_true rfl) ?_
  refine o_nil ?_
  refine c_seq ?_
  refine c_region ?_
  refine o_val (v_assign rfl) (Nat.le_of_ble_eq_true rfl) ?_
  refine o_nil ?_
  refine c_seq ?_
  refine c_seq ?_
  refine c_region ?_
  refine o_val (v_move rfl) (Nat.le_of_ble_eq_true rfl) ?_
  refine o_val ((by first | exact v_len_form Try.underlying62 rfl | exact v_len_sl Try.underlying62 rfl (by repeat (first | exact Has.here | exact Has.sl_apd | exact Has.sl_own | exact Has.r_blk | apply Has.there)))) (Nat.le_of_ble_eq_true rfl) ?_
  refine o_val (v_move rfl) (Nat.le_of_ble_eq_true rfl) ?_
  refine o_nil ?_
  refine c_block ?_
  refine c_loopR (γ := Nat × Int) [(0, _), (1, _), (2, _), (6, _), (23, _), (24, _)] (fun g => ps.length - g.1) (fun g => g.1 ≤ ps.length) (fun g => [(25, .int .i64 g.1), (7, .int .i64 g.2)]) (fun _ => [Sl (eSl eStr) v ps]) ((0, 0)) (Nat.zero_le _) (by repeat (first | exact trivial | refine ⟨rfl, ?_⟩)) (Picks.ent (by repeat (first | exact Picks.nil | (apply Picks.cons; · repeat (first | exact Pick.keep (Sl.isDup _ _ _) | exact Pick.keep (BlkR.isDup _ _ _) | exact Pick.keep (FldCell.isDup _ _) | exact Pick.here | exact Pick.own_sl | exact Pick.apd_sl | exact Pick.r_blk | exact Pick.sl_nil | exact Pick.own_nil | exact Pick.map_itO _ | apply Pick.there))))) ?_
  rintro ⟨i, s⟩ hi IH
  dsimp only at hi ⊢
  try dsimp only [List.cons_append, List.nil_append]
  refine c_seq ?_
  refine c_region ?_
  refine o_val (v_lt rfl rfl) (Nat.le_of_ble_eq_true rfl) ?_
  refine o_nil ?_
  refine c_seq ?_
  refine c_cond_p rfl (fun hlt => ?_) (fun hlt => ?_)
  · have hi' : i < ps.length := by omega
    have hli := (hn _ (List.getElem_mem hi')).1
    refine c_skip ?_
    refine c_seq ?_
    refine c_block ?_
    refine c_seq ?_
    refine c_region ?_
    refine o_val ((by first | exact v_indexAddrN Try.underlying62 ti30 rfl rfl (by repeat (first | exact Has.here | exact Has.sl_apd | exact Has.sl_own | exact Has.r_blk | apply Has.there)) (by omega) | exact v_indexAddr Try.underlying62 ti30 rfl rfl (by repeat (first | exact Has.here | exact Has.sl_apd | exact Has.sl_own | exact Has.r_blk | apply Has.there)) (by omega))) (Nat.le_of_ble_eq_true rfl) ?_
    refine o_step (s_load_sl lone30 rfl (Nat.le_of_ble_eq_true rfl) (by repeat (first | exact Elem.sl (List.getElem?_eq_getElem (by omega)) | exact Elem.own (List.getElem?_eq_getElem (by omega)) | apply Elem.there)) (fun v28 => ?_))
    refine o_val (v_assign rfl) (Nat.le_of_ble_eq_true rfl) ?_
    refine o_nil ?_
    refine c_seq ?_
    refine c_region ?_
    refine o_val (v_move rfl) (Nat.le_of_ble_eq_true rfl) ?_
    refine o_val ((by first | exact v_len_form Try.underlying30 rfl | exact v_len_sl Try.underlying30 rfl (by repeat (first | exact Has.here | exact Has.sl_apd | exact Has.sl_own | exact Has.r_blk | apply Has.there)))) (Nat.le_of_ble_eq_true rfl) ?_
    refine o_val (v_move rfl) (Nat.le_of_ble_eq_true rfl) ?_
    refine o_nil ?_
    refine c_block ?_
    refine c_loopR (γ := Nat × Int) [(0, _), (1, _), (2, _), (6, _), (9, _), (23, _), (24, _), (25, _), (26, _), (27, _), (28, _), (29, _), (30, _)] (fun g => ps[i].length - g.1) (fun g => g.1 ≤ ps[i].length) (fun g => [(31, .int .i64 g.1), (7, .int .i64 g.2)]) (fun _ => [Sl eStr v28 ps[i], Sl (eSl eStr) v ps]) ((0, _)) (Nat.zero_le _) (by repeat (first | exact trivial | refine ⟨rfl, ?_⟩)) (Picks.ent (by repeat (first | exact Picks.nil | (apply Picks.cons; · repeat (first | exact Pick.keep (Sl.isDup _ _ _) | exact Pick.keep (BlkR.isDup _ _ _) | exact Pick.keep (FldCell.isDup _ _) | exact Pick.here | exact Pick.own_sl | exact Pick.apd_sl | exact Pick.r_blk | exact Pick.sl_nil | exact Pick.own_nil | exact Pick.map_itO _ | apply Pick.there))))) ?_
    rintro ⟨j, s2⟩ hj IH2
    dsimp only at hj ⊢
    try dsimp only [List.cons_append, List.nil_append]
    refine c_seq ?_
    refine c_region ?_
    refine o_val (v_lt rfl rfl) (Nat.le_of_ble_eq_true rfl) ?_
    refine o_nil ?_
    refine c_seq ?_
    refine c_cond_p rfl (fun hlt2 => ?_) (fun hlt2 => ?_)
    · have hj' : j < ps[i].length := by omega
      refine c_skip ?_
      refine c_seq ?_
      refine c_block ?_
      refine c_seq ?_
      refine c_region ?_
      refine o_val ((by first | exact v_indexAddrN Try.underlying30 ti9 rfl rfl (by repeat (first | exact Has.here | exact Has.sl_apd | exact Has.sl_own | exact Has.r_blk | apply Has.there)) (by omega) | exact v_indexAddr Try.underlying30 ti9 rfl rfl (by repeat (first | exact Has.here | exact Has.sl_apd | exact Has.sl_own | exact Has.r_blk | apply Has.there)) (by omega))) (Nat.le_of_ble_eq_true rfl) ?_
      refine o_val (v_load_str lone9 rfl (by repeat (first | exact Elem.sl (List.getElem?_eq_getElem (by omega)) | exact Elem.own (List.getElem?_eq_getElem (by omega)) | apply Elem.there))) (Nat.le_of_ble_eq_true rfl) ?_
      refine o_val (v_assign rfl) (Nat.le_of_ble_eq_true rfl) ?_
      refine o_nil ?_
      refine c_region ?_
      refine o_val (v_move rfl) (Nat.le_of_ble_eq_true rfl) ?_
      refine o_val (v_move rfl) (Nat.le_of_ble_eq_true rfl) ?_
      refine o_val (v_len_str Try.underlying9 rfl) (Nat.le_of_ble_eq_true rfl) ?_
      refine o_val ((by first | exact v_add64 rfl rfl (by omega) | exact v_add rfl rfl)) (Nat.le_of_ble_eq_true rfl) ?_
      refine o_val ((by first | exact v_add64 rfl rfl (by omega) | exact v_add rfl rfl)) (Nat.le_of_ble_eq_true rfl) ?_
      refine o_val (v_assign rfl) (Nat.le_of_ble_eq_true rfl) ?_
      refine o_nil ?_
      refine c_inBlock ?_
      refine c_region ?_
      refine o_val ((by first | exact v_add64 rfl rfl (by omega) | exact v_add rfl rfl)) (Nat.le_of_ble_eq_true rfl) ?_
      refine o_val (v_move rfl) (Nat.le_of_ble_eq_true rfl) ?_
      refine o_nil ?_
      refine c_use (IH2 ((j + 1, _)) (by first | omega | (dsimp only; omega)) (by dsimp only; omega)) (by repeat (first | exact trivial | refine ⟨rfl, ?_⟩)) (Picks.ent (by repeat (first | exact Picks.nil | (apply Picks.cons; · repeat (first | exact Pick.keep (Sl.isDup _ _ _) | exact Pick.keep (BlkR.isDup _ _ _) | exact Pick.keep (FldCell.isDup _ _) | exact Pick.here | exact Pick.own_sl | exact Pick.apd_sl | exact Pick.r_blk | exact Pick.sl_nil | exact Pick.own_nil | exact Pick.map_itO _ | apply Pick.there)))))
    · refine c_exit rfl ?_
      refine c_inBlock ?_
      refine c_region ?_
      refine o_val ((by first | exact v_add64 rfl rfl (by omega) | exact v_add rfl rfl)) (Nat.le_of_ble_eq_true rfl) ?_
      refine o_val (v_move rfl) (Nat.le_of_ble_eq_true rfl) ?_
      refine o_nil ?_
      refine c_use (IH ((i + 1, s2)) (by first | omega | (dsimp only; omega)) (by dsimp only; omega)) (by repeat (first | exact trivial | refine ⟨rfl, ?_⟩)) (Picks.ent (by repeat (first | exact Picks.nil | (apply Picks.cons; · repeat (first | exact Pick.keep (Sl.isDup _ _ _) | exact Pick.keep (BlkR.isDup _ _ _) | exact Pick.keep (FldCell.isDup _ _) | exact Pick.here | exact Pick.own_sl | exact Pick.apd_sl | exact Pick.r_blk | exact Pick.sl_nil | exact Pick.own_nil | exact Pick.map_itO _ | apply Pick.there)))))
  · refine c_exit rfl ?_
    refine c_seq ?_
    refine c_seq ?_
    refine c_region ?_
    refine o_val (v_move rfl) (Nat.le_of_ble_eq_true rfl) ?_
    refine o_val ((by first | exact v_len_form Try.underlying62 rfl | exact v_len_sl Try.underlying62 rfl (by repeat (first | exact Has.here | exact Has.sl_apd | exact Has.sl_own | exact Has.r_blk | apply Has.there)))) (Nat.le_of_ble_eq_true rfl) ?_
    refine o_val (v_gt rfl rfl) (Nat.le_of_ble_eq_true rfl) ?_
    refine o_val (v_move rfl) (Nat.le_of_ble_eq_true rfl) ?_
    refine o_guard_f rfl rfl (fun h1 => ?_) (fun h1 => ?_)
    · refine o_val (v_move rfl) (Nat.le_of_ble_eq_true rfl) ?_
      refine o_on rfl rfl ?_
      refine o_val (v_gt rfl rfl) (Nat.le_of_ble_eq_true rfl) ?_
      refine o_val (v_pick_f rfl rfl) (Nat.le_of_ble_eq_true rfl) ?_
      refine o_val (v_move rfl) (Nat.le_of_ble_eq_true rfl) ?_
      refine o_guard_f rfl rfl (fun h2 => ?_) (fun h2 => ?_)
      · refine o_val (v_move rfl) (Nat.le_of_ble_eq_true rfl) ?_
        refine o_on rfl rfl ?_
        refine o_val (v_lt rfl rfl) (Nat.le_of_ble_eq_true rfl) ?_
        refine o_val (v_pick_f rfl rfl) (Nat.le_of_ble_eq_true rfl) ?_
        refine o_val (v_move rfl) (Nat.le_of_ble_eq_true rfl) ?_
        refine o_guard_f rfl rfl (fun h3 => ?_) (fun h3 => ?_)
        · refine o_val (v_move rfl) (Nat.le_of_ble_eq_true rfl) ?_
          refine o_on rfl rfl ?_
          refine o_val (v_lt rfl rfl) (Nat.le_of_ble_eq_true rfl) ?_
          refine o_val (v_pick_f rfl rfl) (Nat.le_of_ble_eq_true rfl) ?_
          refine o_val (v_move rfl) (Nat.le_of_ble_eq_true rfl) ?_
          refine o_guard_f rfl rfl (fun h4 => ?_) (fun h4 => ?_)
          · refine o_val (v_move rfl) (Nat.le_of_ble_eq_true rfl) ?_
            refine o_on rfl rfl ?_
            refine o_val (v_gt rfl rfl) (Nat.le_of_ble_eq_true rfl) ?_
            refine o_val (v_pick_f rfl rfl) (Nat.le_of_ble_eq_true rfl) ?_
            refine o_val (v_move rfl) (Nat.le_of_ble_eq_true rfl) ?_
            refine o_guard_f rfl rfl (fun h5 => ?_) (fun h5 => ?_)
            · refine o_val (v_move rfl) (Nat.le_of_ble_eq_true rfl) ?_
              refine o_on rfl rfl ?_
              refine o_val (v_gt rfl rfl) (Nat.le_of_ble_eq_true rfl) ?_
              refine o_val (v_pick_f rfl rfl) (Nat.le_of_ble_eq_true rfl) ?_
              refine o_nil ?_
              refine c_cond_p rfl (fun h6 => ?_) (fun h6 => ?_)
              · refine c_seq ?_
                refine c_region ?_
                refine o_step (s_callf cl16 (alive_con) rfl (Nat.le_of_ble_eq_true rfl) (by repeat (first | exact Picks.nil | (apply Picks.cons; · repeat (first | exact Pick.keep (Sl.isDup _ _ _) | exact Pick.keep (BlkR.isDup _ _ _) | exact Pick.keep (FldCell.isDup _ _) | exact Pick.here | exact Pick.own_sl | exact Pick.apd_sl | exact Pick.r_blk | exact Pick.sl_nil | exact Pick.own_nil | exact Pick.map_itO _ | apply Pick.there)))) fun _ _ => ?_)
                refine o_val (v_assign rfl) (Nat.le_of_ble_eq_true rfl) ?_
                refine o_nil ?_
                refine c_ret1 Try.func7 rfl rfl fun w O hS => ?_
                exact ⟨(), rfl, trivial, trivial⟩
              · refine c_skip ?_
                refine c_seq ?_
                refine c_region ?_
                refine o_step (s_alloc ti28 (Nat.le_of_ble_eq_true rfl) (fun b12 => ?_))
                refine o_nil ?_
                refine c_seq ?_
                refine c_region ?_
                refine o_mk (hub_new (L := []) (h := b12)) (by repeat (first | exact Picks.nil | (apply Picks.cons; · repeat (first | exact Pick.keep (Sl.isDup _ _ _) | exact Pick.keep (BlkR.isDup _ _ _) | exact Pick.keep (FldCell.isDup _ _) | exact Pick.here | exact Pick.own_sl | exact Pick.apd_sl | exact Pick.r_blk | exact Pick.sl_nil | exact Pick.own_nil | exact Pick.map_itO _ | apply Pick.there)))) ?_
                refine o_step (s_callf cl22 (add_con b12 [] 1 ByteArray.empty (by decide)) rfl (Nat.le_of_ble_eq_true rfl) (by repeat (first | exact Picks.nil | (apply Picks.cons; · repeat (first | exact Pick.keep (Sl.isDup _ _ _) | exact Pick.keep (BlkR.isDup _ _ _) | exact Pick.keep (FldCell.isDup _ _) | exact Pick.here | exact Pick.own_sl | exact Pick.apd_sl | exact Pick.r_blk | exact Pick.sl_nil | exact Pick.own_nil | exact Pick.map_itO _ | apply Pick.there)))) fun _ _ => ?_)
                refine o_nil ?_
                refine c_seq ?_
                refine c_region ?_
                rw [show addW [] 1 ByteArray.empty = ([(1, ByteArray.empty, [])], 0) from rfl]
                refine o_step (s_callf cl22 (add_con b12 [(1, ByteArray.empty, [])] 2 ByteArray.empty (by decide)) rfl (Nat.le_of_ble_eq_true rfl) (by repeat (first | exact Picks.nil | (apply Picks.cons; · repeat (first | exact Pick.keep (Sl.isDup _ _ _) | exact Pick.keep (BlkR.isDup _ _ _) | exact Pick.keep (FldCell.isDup _ _) | exact Pick.here | exact Pick.own_sl | exact Pick.apd_sl | exact Pick.r_blk | exact Pick.sl_nil | exact Pick.own_nil | exact Pick.map_itO _ | apply Pick.there)))) fun _ _ => ?_)
                refine o_nil ?_
                refine c_seq ?_
                refine c_region ?_
                rw [add3a]
                refine o_step (s_callf cl22 (add_con b12 [(1, ByteArray.empty, []), (2, ByteArray.empty, [])] 3 ByteArray.empty (by decide)) rfl (Nat.le_of_ble_eq_true rfl) (by repeat (first | exact Picks.nil | (apply Picks.cons; · repeat (first | exact Pick.keep (Sl.isDup _ _ _) | exact Pick.keep (BlkR.isDup _ _ _) | exact Pick.keep (FldCell.isDup _ _) | exact Pick.here | exact Pick.own_sl | exact Pick.apd_sl | exact Pick.r_blk | exact Pick.sl_nil | exact Pick.own_nil | exact Pick.map_itO _ | apply Pick.there)))) fun _ _ => ?_)
                refine o_nil ?_
                refine c_seq ?_
                refine c_seq ?_
                refine c_region ?_
                refine o_val (v_move rfl) (Nat.le_of_ble_eq_true rfl) ?_
                refine o_val ((by first | exact v_len_form Try.underlying62 rfl | exact v_len_sl Try.underlying62 rfl (by repeat (first | exact Has.here | exact Has.sl_apd | exact Has.sl_own | exact Has.r_blk | apply Has.there)))) (Nat.le_of_ble_eq_true rfl) ?_
                refine o_val (v_move rfl) (Nat.le_of_ble_eq_true rfl) ?_
                refine o_nil ?_
                refine c_block ?_
                rw [add3b]
                refine c_loopR (γ := Nat) [(1, _), (2, _), (6, _), (12, _), (69, _), (70, _)] (fun k => ps.length - k) (fun k => k ≤ ps.length) (fun k => [(71, .int .i64 k)]) (fun k => [HubA b12 (H3 (qAll (ps.take k) 1 [])), Sl (eSl eStr) v ps]) (0) (Nat.zero_le _) (by repeat (first | exact trivial | refine ⟨rfl, ?_⟩)) (Picks.ent (by repeat (first | exact Picks.nil | (apply Picks.cons; · repeat (first | exact Pick.keep (Sl.isDup _ _ _) | exact Pick.keep (BlkR.isDup _ _ _) | exact Pick.keep (FldCell.isDup _ _) | exact Pick.here | exact Pick.own_sl | exact Pick.apd_sl | exact Pick.r_blk | exact Pick.sl_nil | exact Pick.own_nil | exact Pick.map_itO _ | apply Pick.there))))) ?_
                rintro k hk IH2
                have hq4 : (qAll (ps.take k) 1 []).length ≤ 4 := qall_len _ _ _ (by simp)
                try dsimp only [List.cons_append, List.nil_append]
                refine c_seq ?_
                refine c_region ?_
                refine o_val (v_lt rfl rfl) (Nat.le_of_ble_eq_true rfl) ?_
                refine o_nil ?_
                refine c_seq ?_
                refine c_cond_p rfl (fun hlt2 => ?_) (fun hlt2 => ?_)
                · have hk' : k < ps.length := by omega
                  have hkl := (hn _ (List.getElem_mem hk')).1
                  refine c_skip ?_
                  refine c_seq ?_
                  refine c_block ?_
                  refine c_seq ?_
                  refine c_region ?_
                  refine o_val (v_move rfl) (Nat.le_of_ble_eq_true rfl) ?_
                  refine o_val ((by first | exact v_indexAddrN Try.underlying62 ti30 rfl rfl (by repeat (first | exact Has.here | exact Has.sl_apd | exact Has.sl_own | exact Has.r_blk | apply Has.there)) (by omega) | exact v_indexAddr Try.underlying62 ti30 rfl rfl (by repeat (first | exact Has.here | exact Has.sl_apd | exact Has.sl_own | exact Has.r_blk | apply Has.there)) (by omega))) (Nat.le_of_ble_eq_true rfl) ?_
                  refine o_step (s_load_sl lone30 rfl (Nat.le_of_ble_eq_true rfl) (by repeat (first | exact Elem.sl (List.getElem?_eq_getElem (by omega)) | exact Elem.own (List.getElem?_eq_getElem (by omega)) | apply Elem.there)) (fun v75 => ?_))
                  refine o_val (v_assign rfl) (Nat.le_of_ble_eq_true rfl) ?_
                  refine o_val (v_assign rfl) (Nat.le_of_ble_eq_true rfl) ?_
                  refine o_nil ?_
                  refine c_region ?_
                  refine o_val (v_move rfl) (Nat.le_of_ble_eq_true rfl) ?_
                  refine o_val ((by first | exact v_add64 rfl rfl (by omega) | exact v_add rfl rfl)) (Nat.le_of_ble_eq_true rfl) ?_
                  refine o_val (v_move rfl) (Nat.le_of_ble_eq_true rfl) ?_
                  refine o_step (s_callf cl25 (push_con b12 (H3 (qAll (ps.take k) 1 [])) (k + 1) v75 ps[k] (by omega) (by simp [H3]) (h3_len hq4 (Nat.le_refl _))) rfl (Nat.le_of_ble_eq_true rfl) (by repeat (first | exact Picks.nil | (apply Picks.cons; · repeat (first | exact Pick.keep (Sl.isDup _ _ _) | exact Pick.keep (BlkR.isDup _ _ _) | exact Pick.keep (FldCell.isDup _ _) | exact Pick.here | exact Pick.own_sl | exact Pick.apd_sl | exact Pick.r_blk | exact Pick.sl_nil | exact Pick.own_nil | exact Pick.map_itO _ | apply Pick.there)))) fun told _ => ?_)
                  refine o_nil ?_
                  refine c_inBlock ?_
                  refine c_region ?_
                  refine o_val ((by first | exact v_add64 rfl rfl (by omega) | exact v_add rfl rfl)) (Nat.le_of_ble_eq_true rfl) ?_
                  refine o_val (v_move rfl) (Nat.le_of_ble_eq_true rfl) ?_
                  refine o_nil ?_
                  rw [push3, qall_step hk']
                  refine c_use (IH2 (k + 1) (by first | omega | (dsimp only; omega)) (by omega)) (by repeat (first | exact trivial | refine ⟨rfl, ?_⟩)) (Picks.ent (by repeat (first | exact Picks.nil | (apply Picks.cons; · repeat (first | exact Pick.keep (Sl.isDup _ _ _) | exact Pick.keep (BlkR.isDup _ _ _) | exact Pick.keep (FldCell.isDup _ _) | exact Pick.here | exact Pick.own_sl | exact Pick.apd_sl | exact Pick.r_blk | exact Pick.sl_nil | exact Pick.own_nil | exact Pick.map_itO _ | apply Pick.there)))))
                · have hke : k = ps.length := by omega
                  rw [hke, List.take_length] at hq4 ⊢
                  obtain ⟨Q, hQ⟩ : ∃ Q, Q = qAll ps 1 [] := ⟨_, rfl⟩
                  rw [← hQ] at hq4 ⊢
                  refine c_exit rfl ?_
                  refine c_seq ?_
                  refine c_region ?_
                  refine o_val (v_move rfl) (Nat.le_of_ble_eq_true rfl) ?_
                  refine o_step (s_callf cl23 (take_con b12 (H3 Q) 1 n (h3_len hq4 (by omega))) rfl (Nat.le_of_ble_eq_true rfl) (by repeat (first | exact Picks.nil | (apply Picks.cons; · repeat (first | exact Pick.keep (Sl.isDup _ _ _) | exact Pick.keep (BlkR.isDup _ _ _) | exact Pick.keep (FldCell.isDup _ _) | exact Pick.here | exact Pick.own_sl | exact Pick.apd_sl | exact Pick.r_blk | exact Pick.sl_nil | exact Pick.own_nil | exact Pick.map_itO _ | apply Pick.there)))) fun a _ => ?_)
                  refine o_val (v_move rfl) (Nat.le_of_ble_eq_true rfl) ?_
                  refine o_val (v_extract rfl rfl) (Nat.le_of_ble_eq_true rfl) ?_
                  refine o_val (v_extract rfl rfl) (Nat.le_of_ble_eq_true rfl) ?_
                  refine o_val (v_assign rfl) (Nat.le_of_ble_eq_true rfl) ?_
                  refine o_val (v_assign rfl) (Nat.le_of_ble_eq_true rfl) ?_
                  refine o_nil ?_
                  refine c_seq ?_
                  refine c_region ?_
                  refine o_val (v_move rfl) (Nat.le_of_ble_eq_true rfl) ?_
                  rw [show takeW (H3 Q) 1 n = ([(1, ByteArray.empty, Q.drop n.toNat), (2, ByteArray.empty, Q), (3, ByteArray.empty, Q)], Q.take n.toNat, 0) from takeP1 (by omega)]
                  dsimp only
                  have hd4 : (Q.drop n.toNat).length ≤ 4 := by simp; omega
                  refine o_step (s_callf cl23 (take_con b12 [(1, ByteArray.empty, Q.drop n.toNat), (2, ByteArray.empty, Q), (3, ByteArray.empty, Q)] 1 m (l3_len hd4 hq4 hq4)) rfl (Nat.le_of_ble_eq_true rfl) (by repeat (first | exact Picks.nil | (apply Picks.cons; · repeat (first | exact Pick.keep (Sl.isDup _ _ _) | exact Pick.keep (BlkR.isDup _ _ _) | exact Pick.keep (FldCell.isDup _ _) | exact Pick.here | exact Pick.own_sl | exact Pick.apd_sl | exact Pick.r_blk | exact Pick.sl_nil | exact Pick.own_nil | exact Pick.map_itO _ | apply Pick.there)))) fun b _ => ?_)
                  refine o_val (v_move rfl) (Nat.le_of_ble_eq_true rfl) ?_
                  refine o_val (v_extract rfl rfl) (Nat.le_of_ble_eq_true rfl) ?_
                  refine o_val (v_extract rfl rfl) (Nat.le_of_ble_eq_true rfl) ?_
                  refine o_val (v_assign rfl) (Nat.le_of_ble_eq_true rfl) ?_
                  refine o_val (v_assign rfl) (Nat.le_of_ble_eq_true rfl) ?_
                  refine o_nil ?_
                  refine c_seq ?_
                  refine c_region ?_
                  refine o_val (v_move rfl) (Nat.le_of_ble_eq_true rfl) ?_
                  refine o_val (v_move rfl) (Nat.le_of_ble_eq_true rfl) ?_
                  refine o_val ((by first | exact v_add64 rfl rfl (by omega) | exact v_add rfl rfl)) (Nat.le_of_ble_eq_true rfl) ?_
                  rw [takeP1 (by omega : 0 ≤ m)]
                  dsimp only
                  have hdd : (Q.drop n.toNat).drop m.toNat = Q.drop (n + m).toNat := by rw [List.drop_drop]; congr 1; omega
                  have htt : Q.take n.toNat ++ (Q.drop n.toNat).take m.toNat = Q.take (n + m).toNat := by rw [show (n + m).toNat = n.toNat + m.toNat by omega, List.take_add]
                  rw [hdd]
                  have hd5 : (Q.drop (n + m).toNat).length ≤ 4 := by simp; omega
                  refine o_step (s_callf cl23 (take_con b12 [(1, ByteArray.empty, Q.drop (n + m).toNat), (2, ByteArray.empty, Q), (3, ByteArray.empty, Q)] 2 (n + m) (l3_len hd5 hq4 hq4)) rfl (Nat.le_of_ble_eq_true rfl) (by repeat (first | exact Picks.nil | (apply Picks.cons; · repeat (first | exact Pick.keep (Sl.isDup _ _ _) | exact Pick.keep (BlkR.isDup _ _ _) | exact Pick.keep (FldCell.isDup _ _) | exact Pick.here | exact Pick.own_sl | exact Pick.apd_sl | exact Pick.r_blk | exact Pick.sl_nil | exact Pick.own_nil | exact Pick.map_itO _ | apply Pick.there)))) fun c _ => ?_)
                  refine o_val (v_move rfl) (Nat.le_of_ble_eq_true rfl) ?_
                  refine o_val (v_extract rfl rfl) (Nat.le_of_ble_eq_true rfl) ?_
                  refine o_val (v_extract rfl rfl) (Nat.le_of_ble_eq_true rfl) ?_
                  refine o_val (v_assign rfl) (Nat.le_of_ble_eq_true rfl) ?_
                  refine o_val (v_assign rfl) (Nat.le_of_ble_eq_true rfl) ?_
                  refine o_nil ?_
                  refine c_seq ?_
                  refine c_region ?_
                  rw [takeP2 (by omega : 0 ≤ n + m)]
                  dsimp only
                  refine o_step (s_callf cl29 (drop_con b12 [(1, ByteArray.empty, Q.drop (n + m).toNat), (2, ByteArray.empty, Q.drop (n + m).toNat), (3, ByteArray.empty, Q)] 3) rfl (Nat.le_of_ble_eq_true rfl) (by repeat (first | exact Picks.nil | (apply Picks.cons; · repeat (first | exact Pick.keep (Sl.isDup _ _ _) | exact Pick.keep (BlkR.isDup _ _ _) | exact Pick.keep (FldCell.isDup _ _) | exact Pick.here | exact Pick.own_sl | exact Pick.apd_sl | exact Pick.r_blk | exact Pick.sl_nil | exact Pick.own_nil | exact Pick.map_itO _ | apply Pick.there)))) fun _ _ => ?_)
                  rw [dropP]
                  refine o_step (s_callf cl22 (add_con b12 [(1, ByteArray.empty, Q.drop (n + m).toNat), (2, ByteArray.empty, Q.drop (n + m).toNat)] 3 ByteArray.empty (by simp)) rfl (Nat.le_of_ble_eq_true rfl) (by repeat (first | exact Picks.nil | (apply Picks.cons; · repeat (first | exact Pick.keep (Sl.isDup _ _ _) | exact Pick.keep (BlkR.isDup _ _ _) | exact Pick.keep (FldCell.isDup _ _) | exact Pick.here | exact Pick.own_sl | exact Pick.apd_sl | exact Pick.r_blk | exact Pick.sl_nil | exact Pick.own_nil | exact Pick.map_itO _ | apply Pick.there)))) fun _ _ => ?_)
                  refine o_val (v_assign rfl) (Nat.le_of_ble_eq_true rfl) ?_
                  refine o_val (v_assign rfl) (Nat.le_of_ble_eq_true rfl) ?_
                  refine o_nil ?_
                  refine c_seq ?_
                  rw [addP]
                  refine c_ent (L' := NtsA a (Q.take n.toNat) :: [NtsA b ((Q.drop n.toNat).take m.toNat), NtsA c (Q.take (n + m).toNat), HubA b12 [(1, ByteArray.empty, Q.drop (n + m).toNat), (2, ByteArray.empty, Q.drop (n + m).toNat), (3, ByteArray.empty, [])]]) (Picks.ent (by repeat (first | exact Picks.nil | (apply Picks.cons; · repeat (first | exact Pick.keep (Sl.isDup _ _ _) | exact Pick.keep (BlkR.isDup _ _ _) | exact Pick.keep (FldCell.isDup _ _) | exact Pick.here | exact Pick.own_sl | exact Pick.apd_sl | exact Pick.r_blk | exact Pick.sl_nil | exact Pick.own_nil | exact Pick.map_itO _ | apply Pick.there))))) (c_nts fun qa hqa => ?_)
                  refine c_ent (L' := NtsA b ((Q.drop n.toNat).take m.toNat) :: [Own eNr 60 a (qa.map rawN), AllA (qa.map noteA), NtsA c (Q.take (n + m).toNat), HubA b12 [(1, ByteArray.empty, Q.drop (n + m).toNat), (2, ByteArray.empty, Q.drop (n + m).toNat), (3, ByteArray.empty, [])]]) (Picks.ent (by repeat (first | exact Picks.nil | (apply Picks.cons; · repeat (first | exact Pick.keep (Sl.isDup _ _ _) | exact Pick.keep (BlkR.isDup _ _ _) | exact Pick.keep (FldCell.isDup _ _) | exact Pick.here | exact Pick.own_sl | exact Pick.apd_sl | exact Pick.r_blk | exact Pick.sl_nil | exact Pick.own_nil | exact Pick.map_itO _ | apply Pick.there))))) (c_nts fun qb hqb => ?_)
                  have hal : (qa.map rawN).length ≤ 4 := by rw [List.length_map, ← List.length_map (f := fun q : Value × Nt => q.2), hqa]; simp; omega
                  have hbl : (qb.map rawN).length ≤ 4 := by rw [List.length_map, ← List.length_map (f := fun q : Value × Nt => q.2), hqb]; simp; omega
                  refine c_region ?_
                  refine o_step (s_callf cl16 (alive_con) rfl (Nat.le_of_ble_eq_true rfl) (by repeat (first | exact Picks.nil | (apply Picks.cons; · repeat (first | exact Pick.keep (Sl.isDup _ _ _) | exact Pick.keep (BlkR.isDup _ _ _) | exact Pick.keep (FldCell.isDup _ _) | exact Pick.here | exact Pick.own_sl | exact Pick.apd_sl | exact Pick.r_blk | exact Pick.sl_nil | exact Pick.own_nil | exact Pick.map_itO _ | apply Pick.there)))) fun _ _ => ?_)
                  refine o_val (v_move rfl) (Nat.le_of_ble_eq_true rfl) ?_
                  refine o_guard rfl rfl (fun _ => ?_) (fun h_ => absurd ((show _ = true from rfl).symm.trans h_) (by decide))
                  refine o_val (v_move rfl) (Nat.le_of_ble_eq_true rfl) ?_
                  refine o_on rfl rfl ?_
                  refine o_val (v_move rfl) (Nat.le_of_ble_eq_true rfl) ?_
                  refine o_on rfl rfl ?_
                  refine o_step (s_append Try.underlying49 ti60 rfl (by decide) rfl rfl (Nat.le_of_ble_eq_true rfl) (by repeat (first | exact Pick.here | exact Pick.own_nil | apply Pick.there)) (by repeat (first | exact Pick.keep (Sl.isDup _ _ _) | exact Pick.keep (BlkR.isDup _ _ _) | exact Pick.keep (FldCell.isDup _ _) | exact Pick.here | exact Pick.own_sl | exact Pick.apd_sl | exact Pick.r_blk | exact Pick.sl_nil | exact Pick.own_nil | exact Pick.map_itO _ | apply Pick.there)) rfl (by (first | omega | (simp only [maxLen, List.length_append, List.length_drop, List.length_take, List.length_nil, List.length_cons]; omega))) (by (first | omega | (simp only [maxLen, List.length_append, List.length_drop, List.length_take, List.length_nil, List.length_cons]; omega))) fun ab => ?_)
                  refine o_on rfl rfl ?_
                  rw [← List.map_append]
                  refine o_mk (notes_join (L := []) (qs := qa) (rs := qb)) (by repeat (first | exact Picks.nil | (apply Picks.cons; · repeat (first | exact Pick.keep (Sl.isDup _ _ _) | exact Pick.keep (BlkR.isDup _ _ _) | exact Pick.keep (FldCell.isDup _ _) | exact Pick.here | exact Pick.own_sl | exact Pick.apd_sl | exact Pick.r_blk | exact Pick.sl_nil | exact Pick.own_nil | exact Pick.map_itO _ | apply Pick.there)))) ?_
                  refine o_mk (nts_mk (L := []) (v := ab) (qs := qa ++ qb) (l := Q.take (n + m).toNat) (by rw [List.map_append, hqa, hqb, htt])) (by repeat (first | exact Picks.nil | (apply Picks.cons; · repeat (first | exact Pick.keep (Sl.isDup _ _ _) | exact Pick.keep (BlkR.isDup _ _ _) | exact Pick.keep (FldCell.isDup _ _) | exact Pick.here | exact Pick.own_sl | exact Pick.apd_sl | exact Pick.r_blk | exact Pick.sl_nil | exact Pick.own_nil | exact Pick.map_itO _ | apply Pick.there)))) ?_
                  refine o_mk (nts_sl (L := []) (v := ab) (l := Q.take (n + m).toNat)) (by repeat (first | exact Picks.nil | (apply Picks.cons; · repeat (first | exact Pick.keep (Sl.isDup _ _ _) | exact Pick.keep (BlkR.isDup _ _ _) | exact Pick.keep (FldCell.isDup _ _) | exact Pick.here | exact Pick.own_sl | exact Pick.apd_sl | exact Pick.r_blk | exact Pick.sl_nil | exact Pick.own_nil | exact Pick.map_itO _ | apply Pick.there)))) ?_
                  have hqn : ∀ x ∈ Q.take (n + m).toNat, x.2.1.length ≤ 4611686018427387904 := fun x hx => by
                    have h1 := qall_names (B := 8796093021952) ps 1 [] (fun y hy => (hn y hy).1) (by simp) x (by rw [← hQ]; exact List.mem_of_mem_take hx)
                    omega
                  have htl4 : (Q.take (n + m).toNat).length ≤ 4 := by simp; omega
                  refine o_step (s_callf cl24 (old_con ab (Q.take (n + m).toNat) (by omega)) rfl (Nat.le_of_ble_eq_true rfl) (by repeat (first | exact Picks.nil | (apply Picks.cons; · repeat (first | exact Pick.keep (Sl.isDup _ _ _) | exact Pick.keep (BlkR.isDup _ _ _) | exact Pick.keep (FldCell.isDup _ _) | exact Pick.here | exact Pick.own_sl | exact Pick.apd_sl | exact Pick.r_blk | exact Pick.sl_nil | exact Pick.own_nil | exact Pick.map_itO _ | apply Pick.there)))) fun u1 _ => ?_)
                  refine o_on rfl rfl ?_
                  refine o_val (v_move rfl) (Nat.le_of_ble_eq_true rfl) ?_
                  refine o_on rfl rfl ?_
                  refine o_mk (nts_sl (L := []) (v := c) (l := Q.take (n + m).toNat)) (by repeat (first | exact Picks.nil | (apply Picks.cons; · repeat (first | exact Pick.keep (Sl.isDup _ _ _) | exact Pick.keep (BlkR.isDup _ _ _) | exact Pick.keep (FldCell.isDup _ _) | exact Pick.here | exact Pick.own_sl | exact Pick.apd_sl | exact Pick.r_blk | exact Pick.sl_nil | exact Pick.own_nil | exact Pick.map_itO _ | apply Pick.there)))) ?_
                  refine o_step (s_callf cl24 (old_con c (Q.take (n + m).toNat) (by omega)) rfl (Nat.le_of_ble_eq_true rfl) (by repeat (first | exact Picks.nil | (apply Picks.cons; · repeat (first | exact Pick.keep (Sl.isDup _ _ _) | exact Pick.keep (BlkR.isDup _ _ _) | exact Pick.keep (FldCell.isDup _ _) | exact Pick.here | exact Pick.own_sl | exact Pick.apd_sl | exact Pick.r_blk | exact Pick.sl_nil | exact Pick.own_nil | exact Pick.map_itO _ | apply Pick.there)))) fun u2 _ => ?_)
                  refine o_on rfl rfl ?_
                  refine o_step (s_callf cl28 (same_con u1 u2 (Q.take (n + m).toNat) (Q.take (n + m).toNat) (by omega) (by omega) hqn) rfl (Nat.le_of_ble_eq_true rfl) (by repeat (first | exact Picks.nil | (apply Picks.cons; · repeat (first | exact Pick.keep (Sl.isDup _ _ _) | exact Pick.keep (BlkR.isDup _ _ _) | exact Pick.keep (FldCell.isDup _ _) | exact Pick.here | exact Pick.own_sl | exact Pick.apd_sl | exact Pick.r_blk | exact Pick.sl_nil | exact Pick.own_nil | exact Pick.map_itO _ | apply Pick.there)))) fun _ _ => ?_)
                  refine o_val (v_pick_t rfl rfl) (Nat.le_of_ble_eq_true rfl) ?_
                  refine o_val (v_move rfl) (Nat.le_of_ble_eq_true rfl) ?_
                  refine o_guard rfl rfl (fun _ => ?_) (fun h_ => absurd ((show _ = true from (decide_eq_true rfl)).symm.trans h_) (by decide))
                  refine o_step (s_callf cl20 (waiting_con b12 [(1, ByteArray.empty, Q.drop (n + m).toNat), (2, ByteArray.empty, Q.drop (n + m).toNat), (3, ByteArray.empty, [])] 1) rfl (Nat.le_of_ble_eq_true rfl) (by repeat (first | exact Picks.nil | (apply Picks.cons; · repeat (first | exact Pick.keep (Sl.isDup _ _ _) | exact Pick.keep (BlkR.isDup _ _ _) | exact Pick.keep (FldCell.isDup _ _) | exact Pick.here | exact Pick.own_sl | exact Pick.apd_sl | exact Pick.r_blk | exact Pick.sl_nil | exact Pick.own_nil | exact Pick.map_itO _ | apply Pick.there)))) fun _ _ => ?_)
                  refine o_on rfl rfl ?_
                  refine o_step (s_callf cl20 (waiting_con b12 [(1, ByteArray.empty, Q.drop (n + m).toNat), (2, ByteArray.empty, Q.drop (n + m).toNat), (3, ByteArray.empty, [])] 2) rfl (Nat.le_of_ble_eq_true rfl) (by repeat (first | exact Picks.nil | (apply Picks.cons; · repeat (first | exact Pick.keep (Sl.isDup _ _ _) | exact Pick.keep (BlkR.isDup _ _ _) | exact Pick.keep (FldCell.isDup _ _) | exact Pick.here | exact Pick.own_sl | exact Pick.apd_sl | exact Pick.r_blk | exact Pick.sl_nil | exact Pick.own_nil | exact Pick.map_itO _ | apply Pick.there)))) fun _ _ => ?_)
                  refine o_on rfl rfl ?_
                  refine o_val (v_eq rfl rfl) (Nat.le_of_ble_eq_true rfl) ?_
                  refine o_val (v_pick_t rfl rfl) (Nat.le_of_ble_eq_true rfl) ?_
                  refine o_val (v_move rfl) (Nat.le_of_ble_eq_true rfl) ?_
                  rw [getP1, getP2]
                  dsimp only [Option.map_some, Option.getD_some]
                  refine o_guard rfl rfl (fun _ => ?_) (fun h_ => absurd ((show _ = true from (decide_eq_true rfl)).symm.trans h_) (by decide))
                  refine o_val (v_move rfl) (Nat.le_of_ble_eq_true rfl) ?_
                  refine o_on rfl rfl ?_
                  refine o_val (v_eq rfl rfl) (Nat.le_of_ble_eq_true rfl) ?_
                  refine o_val (v_pick_t rfl rfl) (Nat.le_of_ble_eq_true rfl) ?_
                  refine o_val (v_move rfl) (Nat.le_of_ble_eq_true rfl) ?_
                  refine o_guard rfl rfl (fun _ => ?_) (fun h_ => absurd ((show _ = true from rfl).symm.trans h_) (by decide))
                  refine o_val (v_move rfl) (Nat.le_of_ble_eq_true rfl) ?_
                  refine o_on rfl rfl ?_
                  refine o_val (v_eq rfl rfl) (Nat.le_of_ble_eq_true rfl) ?_
                  refine o_val (v_pick_t rfl rfl) (Nat.le_of_ble_eq_true rfl) ?_
                  refine o_val (v_move rfl) (Nat.le_of_ble_eq_true rfl) ?_
                  refine o_guard rfl rfl (fun _ => ?_) (fun h_ => absurd ((show _ = true from rfl).symm.trans h_) (by decide))
                  refine o_step (s_callf cl20 (waiting_con b12 [(1, ByteArray.empty, Q.drop (n + m).toNat), (2, ByteArray.empty, Q.drop (n + m).toNat), (3, ByteArray.empty, [])] 3) rfl (Nat.le_of_ble_eq_true rfl) (by repeat (first | exact Picks.nil | (apply Picks.cons; · repeat (first | exact Pick.keep (Sl.isDup _ _ _) | exact Pick.keep (BlkR.isDup _ _ _) | exact Pick.keep (FldCell.isDup _ _) | exact Pick.here | exact Pick.own_sl | exact Pick.apd_sl | exact Pick.r_blk | exact Pick.sl_nil | exact Pick.own_nil | exact Pick.map_itO _ | apply Pick.there)))) fun _ _ => ?_)
                  refine o_on rfl rfl ?_
                  refine o_val (v_eq rfl rfl) (Nat.le_of_ble_eq_true rfl) ?_
                  refine o_val (v_pick_t rfl rfl) (Nat.le_of_ble_eq_true rfl) ?_
                  refine o_val (v_assign rfl) (Nat.le_of_ble_eq_true rfl) ?_
                  refine o_nil ?_
                  rw [getP3]
                  dsimp only [Option.map_some, Option.getD_some]
                  refine c_ret1 Try.func7 rfl rfl fun w O hS => ?_
                  exact ⟨(), rfl, trivial, trivial⟩
            · refine o_off rfl rfl rfl (Nat.le_of_ble_eq_true rfl) ?_
              refine o_off rfl rfl rfl (Nat.le_of_ble_eq_true rfl) ?_
              refine o_val (v_pick_t rfl rfl) (Nat.le_of_ble_eq_true rfl) ?_
              refine o_nil ?_
              refine c_cond_t rfl ?_
              refine c_seq ?_
              refine c_region ?_
              refine o_step (s_callf cl16 (alive_con) rfl (Nat.le_of_ble_eq_true rfl) (by repeat (first | exact Picks.nil | (apply Picks.cons; · repeat (first | exact Pick.keep (Sl.isDup _ _ _) | exact Pick.keep (BlkR.isDup _ _ _) | exact Pick.keep (FldCell.isDup _ _) | exact Pick.here | exact Pick.own_sl | exact Pick.apd_sl | exact Pick.r_blk | exact Pick.sl_nil | exact Pick.own_nil | exact Pick.map_itO _ | apply Pick.there)))) fun _ _ => ?_)
              refine o_val (v_assign rfl) (Nat.le_of_ble_eq_true rfl) ?_
              refine o_nil ?_
              refine c_ret1 Try.func7 rfl rfl fun w O hS => ?_
              exact ⟨(), rfl, trivial, trivial⟩
          · refine o_off rfl rfl rfl (Nat.le_of_ble_eq_true rfl) ?_
            refine o_off rfl rfl rfl (Nat.le_of_ble_eq_true rfl) ?_
            refine o_val (v_pick_t rfl rfl) (Nat.le_of_ble_eq_true rfl) ?_
            refine o_val (v_move rfl) (Nat.le_of_ble_eq_true rfl) ?_
            refine o_off rfl rfl rfl (Nat.le_of_ble_eq_true rfl) ?_
            refine o_off rfl rfl rfl (Nat.le_of_ble_eq_true rfl) ?_
            refine o_val (v_pick_t rfl rfl) (Nat.le_of_ble_eq_true rfl) ?_
            refine o_nil ?_
            refine c_cond_t rfl ?_
            refine c_seq ?_
            refine c_region ?_
            refine o_step (s_callf cl16 (alive_con) rfl (Nat.le_of_ble_eq_true rfl) (by repeat (first | exact Picks.nil | (apply Picks.cons; · repeat (first | exact Pick.keep (Sl.isDup _ _ _) | exact Pick.keep (BlkR.isDup _ _ _) | exact Pick.keep (FldCell.isDup _ _) | exact Pick.here | exact Pick.own_sl | exact Pick.apd_sl | exact Pick.r_blk | exact Pick.sl_nil | exact Pick.own_nil | exact Pick.map_itO _ | apply Pick.there)))) fun _ _ => ?_)
            refine o_val (v_assign rfl) (Nat.le_of_ble_eq_true rfl) ?_
            refine o_nil ?_
            refine c_ret1 Try.func7 rfl rfl fun w O hS => ?_
            exact ⟨(), rfl, trivial, trivial⟩
        · refine o_off rfl rfl rfl (Nat.le_of_ble_eq_true rfl) ?_
          refine o_off rfl rfl rfl (Nat.le_of_ble_eq_true rfl) ?_
          refine o_val (v_pick_t rfl rfl) (Nat.le_of_ble_eq_true rfl) ?_
          refine o_val (v_move rfl) (Nat.le_of_ble_eq_true rfl) ?_
          refine o_off rfl rfl rfl (Nat.le_of_ble_eq_true rfl) ?_
          refine o_off rfl rfl rfl (Nat.le_of_ble_eq_true rfl) ?_
          refine o_val (v_pick_t rfl rfl) (Nat.le_of_ble_eq_true rfl) ?_
          refine o_val (v_move rfl) (Nat.le_of_ble_eq_true rfl) ?_
          refine o_off rfl rfl rfl (Nat.le_of_ble_eq_true rfl) ?_
          refine o_off rfl rfl rfl (Nat.le_of_ble_eq_true rfl) ?_
          refine o_val (v_pick_t rfl rfl) (Nat.le_of_ble_eq_true rfl) ?_
          refine o_nil ?_
          refine c_cond_t rfl ?_
          refine c_seq ?_
          refine c_region ?_
          refine o_step (s_callf cl16 (alive_con) rfl (Nat.le_of_ble_eq_true rfl) (by repeat (first | exact Picks.nil | (apply Picks.cons; · repeat (first | exact Pick.keep (Sl.isDup _ _ _) | exact Pick.keep (BlkR.isDup _ _ _) | exact Pick.keep (FldCell.isDup _ _) | exact Pick.here | exact Pick.own_sl | exact Pick.apd_sl | exact Pick.r_blk | exact Pick.sl_nil | exact Pick.own_nil | exact Pick.map_itO _ | apply Pick.there)))) fun _ _ => ?_)
          refine o_val (v_assign rfl) (Nat.le_of_ble_eq_true rfl) ?_
          refine o_nil ?_
          refine c_ret1 Try.func7 rfl rfl fun w O hS => ?_
          exact ⟨(), rfl, trivial, trivial⟩
      · refine o_off rfl rfl rfl (Nat.le_of_ble_eq_true rfl) ?_
        refine o_off rfl rfl rfl (Nat.le_of_ble_eq_true rfl) ?_
        refine o_val (v_pick_t rfl rfl) (Nat.le_of_ble_eq_true rfl) ?_
        refine o_val (v_move rfl) (Nat.le_of_ble_eq_true rfl) ?_
        refine o_off rfl rfl rfl (Nat.le_of_ble_eq_true rfl) ?_
        refine o_off rfl rfl rfl (Nat.le_of_ble_eq_true rfl) ?_
        refine o_val (v_pick_t rfl rfl) (Nat.le_of_ble_eq_true rfl) ?_
        refine o_val (v_move rfl) (Nat.le_of_ble_eq_true rfl) ?_
        refine o_off rfl rfl rfl (Nat.le_of_ble_eq_true rfl) ?_
        refine o_off rfl rfl rfl (Nat.le_of_ble_eq_true rfl) ?_
        refine o_val (v_pick_t rfl rfl) (Nat.le_of_ble_eq_true rfl) ?_
        refine o_val (v_move rfl) (Nat.le_of_ble_eq_true rfl) ?_
        refine o_off rfl rfl rfl (Nat.le_of_ble_eq_true rfl) ?_
        refine o_off rfl rfl rfl (Nat.le_of_ble_eq_true rfl) ?_
        refine o_val (v_pick_t rfl rfl) (Nat.le_of_ble_eq_true rfl) ?_
        refine o_nil ?_
        refine c_cond_t rfl ?_
        refine c_seq ?_
        refine c_region ?_
        refine o_step (s_callf cl16 (alive_con) rfl (Nat.le_of_ble_eq_true rfl) (by repeat (first | exact Picks.nil | (apply Picks.cons; · repeat (first | exact Pick.keep (Sl.isDup _ _ _) | exact Pick.keep (BlkR.isDup _ _ _) | exact Pick.keep (FldCell.isDup _ _) | exact Pick.here | exact Pick.own_sl | exact Pick.apd_sl | exact Pick.r_blk | exact Pick.sl_nil | exact Pick.own_nil | exact Pick.map_itO _ | apply Pick.there)))) fun _ _ => ?_)
        refine o_val (v_assign rfl) (Nat.le_of_ble_eq_true rfl) ?_
        refine o_nil ?_
        refine c_ret1 Try.func7 rfl rfl fun w O hS => ?_
        exact ⟨(), rfl, trivial, trivial⟩
    · refine o_off rfl rfl rfl (Nat.le_of_ble_eq_true rfl) ?_
      refine o_off rfl rfl rfl (Nat.le_of_ble_eq_true rfl) ?_
      refine o_val (v_pick_t rfl rfl) (Nat.le_of_ble_eq_true rfl) ?_
      refine o_val (v_move rfl) (Nat.le_of_ble_eq_true rfl) ?_
      refine o_off rfl rfl rfl (Nat.le_of_ble_eq_true rfl) ?_
      refine o_off rfl rfl rfl (Nat.le_of_ble_eq_true rfl) ?_
      refine o_val (v_pick_t rfl rfl) (Nat.le_of_ble_eq_true rfl) ?_
      refine o_val (v_move rfl) (Nat.le_of_ble_eq_true rfl) ?_
      refine o_off rfl rfl rfl (Nat.le_of_ble_eq_true rfl) ?_
      refine o_off rfl rfl rfl (Nat.le_of_ble_eq_true rfl) ?_
      refine o_val (v_pick_t rfl rfl) (Nat.le_of_ble_eq_true rfl) ?_
      refine o_val (v_move rfl) (Nat.le_of_ble_eq_true rfl) ?_
      refine o_off rfl rfl rfl (Nat.le_of_ble_eq_true rfl) ?_
      refine o_off rfl rfl rfl (Nat.le_of_ble_eq_true rfl) ?_
      refine o_val (v_pick_t rfl rfl) (Nat.le_of_ble_eq_true rfl) ?_
      refine o_val (v_move rfl) (Nat.le_of_ble_eq_true rfl) ?_
      refine o_off rfl rfl rfl (Nat.le_of_ble_eq_true rfl) ?_
      refine o_off rfl rfl rfl (Nat.le_of_ble_eq_true rfl) ?_
      refine o_val (v_pick_t rfl rfl) (Nat.le_of_ble_eq_true rfl) ?_
      refine o_nil ?_
      refine c_cond_t rfl ?_
      refine c_seq ?_
      refine c_region ?_
      refine o_step (s_callf cl16 (alive_con) rfl (Nat.le_of_ble_eq_true rfl) (by repeat (first | exact Picks.nil | (apply Picks.cons; · repeat (first | exact Pick.keep (Sl.isDup _ _ _) | exact Pick.keep (BlkR.isDup _ _ _) | exact Pick.keep (FldCell.isDup _ _) | exact Pick.here | exact Pick.own_sl | exact Pick.apd_sl | exact Pick.r_blk | exact Pick.sl_nil | exact Pick.own_nil | exact Pick.map_itO _ | apply Pick.there)))) fun _ _ => ?_)
      refine o_val (v_assign rfl) (Nat.le_of_ble_eq_true rfl) ?_
      refine o_nil ?_
      refine c_ret1 Try.func7 rfl rfl fun w O hS => ?_
      exact ⟨(), rfl, trivial, trivial⟩
end Go.Proofs.Ytnamhhmfnokfiaa

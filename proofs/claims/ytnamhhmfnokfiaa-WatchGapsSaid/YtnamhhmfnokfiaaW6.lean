import Derived.Test.YtnamhhmfnokfiaaW5
import Derived.Test.YtnamhhmfnokfiaaQV
namespace Go.Proofs.Ytnamhhmfnokfiaa
open Go Go.SL
theorem seps_map {α : Type} {f : α → A} (h : ∀ x, (f x).Sep) : ∀ l : List α, Seps (l.map f)
  | [] => Seps.nil
  | x :: l => Seps.cons (h x) (seps_map h l)
theorem note_sep (q : Value × Nt) : (noteA q).Sep := Own.sep eStr_pure
theorem nts_sep {v : Value} {l : List Nt} : (NtsA v l).Sep := ExA.sep fun qs => AllA.sep (Seps.cons (Own.sep (ePair_pure (eInt_pure _) (ePair_pure eRaw_pure eBool_pure))) (Seps.cons (Pu.sep _) (Seps.cons (AllA.sep (seps_map note_sep qs)) Seps.nil)))
theorem wr_sep (p : Nat × Wr) : (wrA p).Sep := ExA.sep fun v => AllA.sep (Seps.cons Blk.sep (Seps.cons nts_sep Seps.nil))
theorem mapO_sep {κ : Type} [DecidableEq κ] {ke : KeyEnc κ} {o : Option Nat} {m : List (κ × Value)} : (MapO ke o m).Sep := by
  cases o with
  | none => exact Pu.sep _
  | some b => exact MapA.sep
theorem hub_sep {h : Nat} {H : List Wr} : (HubA h H).Sep := ExA.sep fun o => ExA.sep fun ps => AllA.sep (Seps.cons Blk.sep (Seps.cons mapO_sep (Seps.cons (Pu.sep _) (Seps.cons (AllA.sep (seps_map wr_sep ps)) Seps.nil))))
theorem take22 {a p : ByteArray} {l m : List Nt} : takeW [(1, a, l), (2, p, m)] 2 1 = ([(1, a, l), (2, p, m.drop 1)], m.take 1, 0) := by
  have h1 : atW [(1, a, l), (2, p, m)] 2 = 1 := by rfl
  unfold takeW
  rw [h1]
  show (if (1 : Int) < 0 then _ else _) = _
  rw [if_neg (by omega), (many1 m).1, (many1 m).2]
  rfl
theorem rows_nr {w : World} {O : Perm} : ∀ {cs : List Value} {xs : List (Int × Value × Bool)}, Go.SL.Rows eNr w O cs xs → ∀ x ∈ xs, x.2.1.oneCell' = true
  | _, [], _, _, hx => (List.not_mem_nil hx).elim
  | _, y :: ys, ⟨_, _, _, h1, h2⟩, x, hx => by
    rcases List.mem_cons.1 hx with rfl | hx
    · obtain ⟨_, _, _, _, _, _, _, h3, _⟩ := h1
      exact h3.2
    · exact rows_nr h2 x hx
theorem sl_nr {w : World} {O : Perm} {v : Value} {l : List (Int × Value × Bool)} (h : (Sl eNr v l).h w O) : ∀ x ∈ l, x.2.1.oneCell' = true := by
  obtain ⟨a, cap, rfl, _, _, hz⟩ := h
  rcases hz with ⟨_, rfl⟩ | ⟨b, off, cs, _, _, hr, _⟩
  · exact fun x hx => (List.not_mem_nil hx).elim
  · exact rows_nr hr
theorem onec_nr {L : List A} {v : Value} {l : List (Int × Value × Bool)} {i : Nat} (hi : i < l.length) (h : Has L (Sl eNr v l)) : OneC L l[i].2.1 := fun w O hs => sl_nr (h w O hs) _ (List.getElem_mem hi)
theorem nr_rd {w : World} {O : Perm} {v : Value} {l : List (Int × Value × Bool)} {i : Nat} (hi : i < l.length) (h : (Sl eNr v l).h w O) : eNr.rd w O [.int .i64 l[i].1, l[i].2.1, .bool l[i].2.2] l[i] :=
  ⟨[.int .i64 l[i].1], [l[i].2.1, .bool l[i].2.2], rfl, rfl, [l[i].2.1], [.bool l[i].2.2], rfl, ⟨rfl, sl_nr h _ (List.getElem_mem hi)⟩, rfl⟩
attribute [local irreducible] Cfg Kont StepK Val Con Qops Any Sl Own Blk BlkR Rd Pu ExA AllA Has Pick Ent Elem Beside Callable TI Lone

set_option maxRecDepth 100000 in
theorem oldR_con (v : Value) (l : List (Int × Value × Bool)) (hl : l.length ≤ 100000) :
    Con Try.prog 24 [v] [Sl eNr v l] (γ := Value) (fun r => r) (fun _ => True) (fun r => [Own eNr 56 r l]) := by
  refine con_of Try.func24 rfl (Nat.le_of_ble_eq_true rfl) fun w0 O0 => ?_
  refine c_seq ?_
  refine c_region ?_
  refine o_val (v_assign rfl) (Nat.le_of_ble_eq_true rfl) ?_
  refine o_nil ?_
  refine c_seq ?_
  refine c_region ?_
  refine o_val (v_assign rfl) (Nat.le_of_ble_eq_true rfl) ?_
  refine o_nil ?_
  refine c_seq ?_
  refine c_seq ?_
  refine c_region ?_
  refine o_val (v_move rfl) (Nat.le_of_ble_eq_true rfl) ?_
  refine o_val ((by first | exact v_len_form Try.underlying49 rfl | exact v_len_sl Try.underlying49 rfl (by repeat (first | exact Has.here | exact Has.sl_apd | exact Has.sl_own | exact Has.r_blk | apply Has.there)))) (Nat.le_of_ble_eq_true rfl) ?_
  refine o_val (v_move rfl) (Nat.le_of_ble_eq_true rfl) ?_
  refine o_nil ?_
  refine c_block ?_
  refine c_ent (Ent.beside (b := Own eNr 56 (.slice none 0 0) ([] : List (Int × Value × Bool))) (fun w O _ => Own.nil eNr 56 w _)) ?_
  refine c_loopR (γ := Nat × Value) [(2, _), (6, _), (7, _)] (fun g => l.length - g.1) (fun g => g.1 ≤ l.length) (fun g => [(8, .int .i64 g.1), (3, g.2)]) (fun g => [Own eNr 56 g.2 (l.take g.1), Sl eNr v l]) ((0, .slice none 0 0)) (Nat.zero_le _) (by repeat (first | exact trivial | refine ⟨rfl, ?_⟩)) (Picks.ent (by repeat (first | exact Picks.nil | (apply Picks.cons; · repeat (first | exact Pick.keep (Sl.isDup _ _ _) | exact Pick.keep (BlkR.isDup _ _ _) | exact Pick.keep (FldCell.isDup _ _) | exact Pick.here | exact Pick.own_sl | exact Pick.apd_sl | exact Pick.r_blk | exact Pick.sl_nil | exact Pick.own_nil | exact Pick.map_itO _ | apply Pick.there))))) ?_
  rintro ⟨i, u⟩ hi IH
  dsimp only at hi ⊢
  try dsimp only [List.cons_append, List.nil_append]
  refine c_seq ?_
  refine c_region ?_
  refine o_val (v_lt rfl rfl) (Nat.le_of_ble_eq_true rfl) ?_
  refine o_nil ?_
  refine c_seq ?_
  refine c_cond_p rfl (fun hlt => ?_) (fun hlt => ?_)
  · have hi' : i < l.length := by omega
    have hil : (l.take i).length = i := by simp; omega
    refine c_skip ?_
    refine c_seq ?_
    refine c_block ?_
    refine c_seq ?_
    refine c_region ?_
    refine o_val ((by first | exact v_indexAddrN Try.underlying49 ti60 rfl rfl (by repeat (first | exact Has.here | exact Has.sl_apd | exact Has.sl_own | exact Has.r_blk | apply Has.there)) (by omega) | exact v_indexAddr Try.underlying49 ti60 rfl rfl (by repeat (first | exact Has.here | exact Has.sl_apd | exact Has.sl_own | exact Has.r_blk | apply Has.there)) (by omega))) (Nat.le_of_ble_eq_true rfl) ?_
    refine o_val (v_load_p (by repeat (first | exact PEnc.int _ | exact PEnc.str | exact PEnc.bool | exact PEnc.byte | exact PEnc.raw | apply PEnc.pair | apply PEnc.map)) ⟨_, Try.underlying60⟩ ti60 rfl (by repeat (first | exact Elem.sl (List.getElem?_eq_getElem (by omega)) | exact Elem.own (List.getElem?_eq_getElem (by omega)) | apply Elem.there))) (Nat.le_of_ble_eq_true rfl) ?_
    refine o_step (s_alloc ti60 (Nat.le_of_ble_eq_true rfl) (fun b5 => ?_))
    refine o_step (s_store_all ti60 rfl rfl (by first | exact CellsV.lit rfl | exact CellsV.one (by first | exact OneC.lit rfl | exact OneC.sl (by repeat (first | exact Has.here | exact Has.sl_apd | exact Has.sl_own | exact Has.r_blk | apply Has.there)) | exact onec_nr (v := v) hi' (by repeat (first | exact Has.here | exact Has.sl_apd | exact Has.sl_own | exact Has.r_blk | apply Has.there)) )) (by repeat (first | exact OneAll.nil | (refine OneAll.cons ?_ ?_; · first | exact OneC.lit rfl | exact OneC.sl (by repeat (first | exact Has.here | exact Has.sl_apd | exact Has.sl_own | exact Has.r_blk | apply Has.there)) | exact onec_nr (v := v) hi' (by repeat (first | exact Has.here | exact Has.sl_apd | exact Has.sl_own | exact Has.r_blk | apply Has.there)) ) | exact OneAll.rd (by repeat (first | exact Has.here | exact Has.sl_apd | exact Has.sl_own | exact Has.r_blk | apply Has.there)))) rfl (by repeat (first | exact Pick.here | exact Pick.own_nil | apply Pick.there)) rfl (?_))
    refine o_nil ?_
    refine c_region ?_
    refine o_val (v_move rfl) (Nat.le_of_ble_eq_true rfl) ?_
    refine o_val (v_load_all ⟨_, Try.underlying60⟩ ti60 rfl (by repeat (first | exact Has.here | exact Has.sl_apd | exact Has.sl_own | exact Has.r_blk | apply Has.there)) rfl) (Nat.le_of_ble_eq_true rfl) ?_
    refine o_step (s_buildSlice Try.underlying37 ti56 rfl rfl rfl (by decide) (by decide) (beside_agg1 (beside_pure (e := eNr) (a := Sl eNr v l) (z := l[i]'hi') (by repeat (first | exact eInt_pure _ | exact eStr_pure | exact eBool_pure | exact eByte_pure | exact eRaw_pure | apply ePair_pure | apply eMap_pure)) (by repeat (first | exact Has.here | exact Has.sl_apd | exact Has.sl_own | exact Has.r_blk | apply Has.there)) (fun w O h => nr_rd hi' h))) rfl rfl (Nat.le_of_ble_eq_true rfl) fun v1 => ?_)
    refine o_step (s_append Try.underlying37 ti56 rfl (by decide) rfl rfl (Nat.le_of_ble_eq_true rfl) (by repeat (first | exact Pick.here | exact Pick.own_nil | apply Pick.there)) (by repeat (first | exact Pick.keep (Sl.isDup _ _ _) | exact Pick.keep (BlkR.isDup _ _ _) | exact Pick.keep (FldCell.isDup _ _) | exact Pick.here | exact Pick.own_sl | exact Pick.apd_sl | exact Pick.r_blk | exact Pick.sl_nil | exact Pick.own_nil | exact Pick.map_itO _ | apply Pick.there)) rfl (by (first | omega | (simp only [maxLen, List.length_append, List.length_drop, List.length_take, List.length_nil, List.length_cons]; omega))) (by (first | omega | (simp only [maxLen, List.length_append, List.length_drop, List.length_take, List.length_nil, List.length_cons]; omega))) fun v2 => ?_)
    refine o_val (v_assign rfl) (Nat.le_of_ble_eq_true rfl) ?_
    refine o_nil ?_
    refine c_inBlock ?_
    refine c_region ?_
    refine o_val ((by first | exact v_add64 rfl rfl (by omega) | exact v_add rfl rfl)) (Nat.le_of_ble_eq_true rfl) ?_
    refine o_val (v_move rfl) (Nat.le_of_ble_eq_true rfl) ?_
    refine o_nil ?_
    refine c_use (IH (i + 1, v2) (by dsimp only; omega) (by dsimp only; omega)) (by repeat (first | exact trivial | refine ⟨rfl, ?_⟩)) ?_
    dsimp only
    rw [List.take_succ_eq_append_getElem hi']
    exact (Picks.ent (by repeat (first | exact Picks.nil | (apply Picks.cons; · repeat (first | exact Pick.keep (Sl.isDup _ _ _) | exact Pick.keep (BlkR.isDup _ _ _) | exact Pick.keep (FldCell.isDup _ _) | exact Pick.here | exact Pick.own_sl | exact Pick.apd_sl | exact Pick.r_blk | exact Pick.sl_nil | exact Pick.own_nil | exact Pick.map_itO _ | apply Pick.there)))))
  · have hie : i = l.length := by omega
    rw [hie, List.take_length]
    refine c_exit rfl ?_
    refine c_seq ?_
    refine c_region ?_
    refine o_val (v_move rfl) (Nat.le_of_ble_eq_true rfl) ?_
    refine o_val (v_assign rfl) (Nat.le_of_ble_eq_true rfl) ?_
    refine o_nil ?_
    refine c_ret1 Try.func24 rfl rfl fun w O hS => ?_
    exact ⟨u, rfl, trivial, Ent.get hS (Picks.ent (by repeat (first | exact Picks.nil | (apply Picks.cons; · repeat (first | exact Pick.keep (Sl.isDup _ _ _) | exact Pick.keep (BlkR.isDup _ _ _) | exact Pick.keep (FldCell.isDup _ _) | exact Pick.here | exact Pick.own_sl | exact Pick.apd_sl | exact Pick.r_blk | exact Pick.sl_nil | exact Pick.own_nil | exact Pick.map_itO _ | apply Pick.there)))))⟩

set_option maxRecDepth 100000 in
theorem watchOwn_con (v : Value) (names : List ByteArray) (hn : names.length ≤ 8796093021952 ∧ ∀ s ∈ names, s.size ≤ 140737488351232) : Con Try.prog 6 [v] [Sl eStr v names] (γ := Unit) (fun _ => .bool true) (fun _ => True) (fun _ => []) := by
  have hns : ∀ s ∈ names, s.size ≤ 140737488355328 := fun s hs => by have := hn.2 s hs; omega
  have hl := hn.1
  refine con_of Try.func6 rfl (Nat.le_of_ble_eq_true rfl) fun w0 O0 => ?_
  refine c_seq ?_
  refine c_region ?_
  refine o_val (v_assign rfl) (Nat.le_of_ble_eq_true rfl) ?_
  refine o_nil ?_
  refine c_seq ?_
  refine c_region ?_
  refine o_val (v_assign rfl) (Nat.le_of_ble_eq_true rfl) ?_
  refine o_nil ?_
  refine c_seq ?_
  refine c_seq ?_
  refine c_region ?_
  refine o_val (v_move rfl) (Nat.le_of_ble_eq_true rfl) ?_
  refine o_val ((by first | exact v_len_form Try.underlying30 rfl | exact v_len_sl Try.underlying30 rfl (by repeat (first | exact Has.here | exact Has.sl_apd | exact Has.sl_own | exact Has.r_blk | apply Has.there)))) (Nat.le_of_ble_eq_true rfl) ?_
  refine o_val (v_move rfl) (Nat.le_of_ble_eq_true rfl) ?_
  refine o_nil ?_
  refine c_block ?_
  refine c_loopR (γ := Nat × Int) [(0, _), (2, _), (14, _), (15, _)] (fun g => names.length - g.1) (fun g => g.1 ≤ names.length) (fun g => [(16, .int .i64 g.1), (3, .int .i64 g.2)]) (fun _ => [Sl eStr v names]) ((0, 0)) (Nat.zero_le _) (by repeat (first | exact trivial | refine ⟨rfl, ?_⟩)) (Picks.ent (by repeat (first | exact Picks.nil | (apply Picks.cons; · repeat (first | exact Pick.keep (Sl.isDup _ _ _) | exact Pick.keep (BlkR.isDup _ _ _) | exact Pick.keep (FldCell.isDup _ _) | exact Pick.here | exact Pick.own_sl | exact Pick.apd_sl | exact Pick.r_blk | exact Pick.sl_nil | exact Pick.own_nil | exact Pick.map_itO _ | apply Pick.there))))) ?_
  rintro ⟨i, n⟩ hi IH
  dsimp only at hi ⊢
  try dsimp only [List.cons_append, List.nil_append]
  refine c_seq ?_
  refine c_region ?_
  refine o_val (v_lt rfl rfl) (Nat.le_of_ble_eq_true rfl) ?_
  refine o_nil ?_
  refine c_seq ?_
  refine c_cond_p rfl (fun hlt => ?_) (fun hlt => ?_)
  · have hi' : i < names.length := by omega
    refine c_skip ?_
    refine c_seq ?_
    refine c_block ?_
    refine c_seq ?_
    refine c_region ?_
    refine o_val ((by first | exact v_indexAddrN Try.underlying30 ti9 rfl rfl (by repeat (first | exact Has.here | exact Has.sl_apd | exact Has.sl_own | exact Has.r_blk | apply Has.there)) (by omega) | exact v_indexAddr Try.underlying30 ti9 rfl rfl (by repeat (first | exact Has.here | exact Has.sl_apd | exact Has.sl_own | exact Has.r_blk | apply Has.there)) (by omega))) (Nat.le_of_ble_eq_true rfl) ?_
    refine o_val (v_load_str lone9 rfl (by repeat (first | exact Elem.sl (List.getElem?_eq_getElem (by omega)) | exact Elem.own (List.getElem?_eq_getElem (by omega)) | apply Elem.there))) (Nat.le_of_ble_eq_true rfl) ?_
    refine o_val (v_assign rfl) (Nat.le_of_ble_eq_true rfl) ?_
    refine o_nil ?_
    refine c_region ?_
    refine o_val (v_move rfl) (Nat.le_of_ble_eq_true rfl) ?_
    refine o_val (v_move rfl) (Nat.le_of_ble_eq_true rfl) ?_
    refine o_val (v_len_str Try.underlying9 rfl) (Nat.le_of_ble_eq_true rfl) ?_
    refine o_val ((by first | exact v_add64 rfl rfl (by omega) | exact v_add rfl rfl)) (Nat.le_of_ble_eq_true rfl) ?_
    refine o_val (v_assign rfl) (Nat.le_of_ble_eq_true rfl) ?_
    refine o_nil ?_
    refine c_inBlock ?_
    refine c_region ?_
    refine o_val ((by first | exact v_add64 rfl rfl (by omega) | exact v_add rfl rfl)) (Nat.le_of_ble_eq_true rfl) ?_
    refine o_val (v_move rfl) (Nat.le_of_ble_eq_true rfl) ?_
    refine o_nil ?_
    refine c_use (IH ((i + 1, _)) (by first | omega | (dsimp only; omega)) (by dsimp only; omega)) (by repeat (first | exact trivial | refine ⟨rfl, ?_⟩)) (Picks.ent (by repeat (first | exact Picks.nil | (apply Picks.cons; · repeat (first | exact Pick.keep (Sl.isDup _ _ _) | exact Pick.keep (BlkR.isDup _ _ _) | exact Pick.keep (FldCell.isDup _ _) | exact Pick.here | exact Pick.own_sl | exact Pick.apd_sl | exact Pick.r_blk | exact Pick.sl_nil | exact Pick.own_nil | exact Pick.map_itO _ | apply Pick.there)))))
  · refine c_exit rfl ?_
    refine c_seq ?_
    refine c_seq ?_
    refine c_region ?_
    refine o_val (v_move rfl) (Nat.le_of_ble_eq_true rfl) ?_
    refine o_val (v_gt rfl rfl) (Nat.le_of_ble_eq_true rfl) ?_
    refine o_val (v_move rfl) (Nat.le_of_ble_eq_true rfl) ?_
    refine o_guard_f rfl rfl (fun hgt => ?_) (fun hgt => ?_)
    · refine o_val (v_move rfl) (Nat.le_of_ble_eq_true rfl) ?_
      refine o_on rfl rfl ?_
      refine o_val ((by first | exact v_len_form Try.underlying30 rfl | exact v_len_sl Try.underlying30 rfl (by repeat (first | exact Has.here | exact Has.sl_apd | exact Has.sl_own | exact Has.r_blk | apply Has.there)))) (Nat.le_of_ble_eq_true rfl) ?_
      refine o_on rfl rfl ?_
      refine o_val (v_gt rfl rfl) (Nat.le_of_ble_eq_true rfl) ?_
      refine o_val (v_pick_f rfl rfl) (Nat.le_of_ble_eq_true rfl) ?_
      refine o_val (v_move rfl) (Nat.le_of_ble_eq_true rfl) ?_
      refine o_guard_f rfl rfl (fun hgt2 => ?_) (fun hgt2 => ?_)
      · refine o_val (v_move rfl) (Nat.le_of_ble_eq_true rfl) ?_
        refine o_on rfl rfl ?_
        refine o_val ((by first | exact v_len_form Try.underlying30 rfl | exact v_len_sl Try.underlying30 rfl (by repeat (first | exact Has.here | exact Has.sl_apd | exact Has.sl_own | exact Has.r_blk | apply Has.there)))) (Nat.le_of_ble_eq_true rfl) ?_
        refine o_on rfl rfl ?_
        refine o_val (v_eq rfl rfl) (Nat.le_of_ble_eq_true rfl) ?_
        refine o_val (v_pick_f rfl rfl) (Nat.le_of_ble_eq_true rfl) ?_
        refine o_nil ?_
        refine c_cond_p rfl (fun hz => ?_) (fun hz => ?_)
        · refine c_seq ?_
          refine c_region ?_
          refine o_step (s_callf cl16 (alive_con) rfl (Nat.le_of_ble_eq_true rfl) (by repeat (first | exact Picks.nil | (apply Picks.cons; · repeat (first | exact Pick.keep (Sl.isDup _ _ _) | exact Pick.keep (BlkR.isDup _ _ _) | exact Pick.keep (FldCell.isDup _ _) | exact Pick.here | exact Pick.own_sl | exact Pick.apd_sl | exact Pick.r_blk | exact Pick.sl_nil | exact Pick.own_nil | exact Pick.map_itO _ | apply Pick.there)))) fun _ _ => ?_)
          refine o_val (v_assign rfl) (Nat.le_of_ble_eq_true rfl) ?_
          refine o_nil ?_
          refine c_ret1 Try.func6 rfl rfl fun w O hS => ?_
          exact ⟨(), rfl, trivial, trivial⟩
        · refine c_skip ?_
          refine c_seq ?_
          refine c_region ?_
          refine o_step (s_alloc ti28 (Nat.le_of_ble_eq_true rfl) (fun b6 => ?_))
          refine o_nil ?_
          refine c_seq ?_
          refine c_region ?_
          have hl100 : names.length ≤ 100 := by omega
          have hnn : names ≠ [] := fun h => hz (by rw [h]; rfl)
          refine o_mk (hub_new (L := []) (h := b6)) (by repeat (first | exact Picks.nil | (apply Picks.cons; · repeat (first | exact Pick.keep (Sl.isDup _ _ _) | exact Pick.keep (BlkR.isDup _ _ _) | exact Pick.keep (FldCell.isDup _ _) | exact Pick.here | exact Pick.own_sl | exact Pick.apd_sl | exact Pick.r_blk | exact Pick.sl_nil | exact Pick.own_nil | exact Pick.map_itO _ | apply Pick.there)))) ?_
          refine o_step (s_callf cl22 (add_con b6 [] 1 ByteArray.empty (by decide)) rfl (Nat.le_of_ble_eq_true rfl) (by repeat (first | exact Picks.nil | (apply Picks.cons; · repeat (first | exact Pick.keep (Sl.isDup _ _ _) | exact Pick.keep (BlkR.isDup _ _ _) | exact Pick.keep (FldCell.isDup _ _) | exact Pick.here | exact Pick.own_sl | exact Pick.apd_sl | exact Pick.r_blk | exact Pick.sl_nil | exact Pick.own_nil | exact Pick.map_itO _ | apply Pick.there)))) fun _ _ => ?_)
          refine o_nil ?_
          refine c_seq ?_
          refine c_region ?_
          rw [show addW [] 1 ByteArray.empty = ([(1, ByteArray.empty, [])], 0) from rfl]
          refine o_step (s_callf cl22 (add_con b6 [(1, ByteArray.empty, [])] 2 ByteArray.empty (by decide)) rfl (Nat.le_of_ble_eq_true rfl) (by repeat (first | exact Picks.nil | (apply Picks.cons; · repeat (first | exact Pick.keep (Sl.isDup _ _ _) | exact Pick.keep (BlkR.isDup _ _ _) | exact Pick.keep (FldCell.isDup _ _) | exact Pick.here | exact Pick.own_sl | exact Pick.apd_sl | exact Pick.r_blk | exact Pick.sl_nil | exact Pick.own_nil | exact Pick.map_itO _ | apply Pick.there)))) fun _ _ => ?_)
          refine o_nil ?_
          refine c_seq ?_
          refine c_region ?_
          rw [add2]
          refine o_step (s_buildSlice (e := eStr) (zs := []) Try.underlying30 ti9 rfl rfl rfl (by decide) (by decide) (Beside.pure fun _ => ⟨rfl, fun _ h => by cases h⟩) rfl rfl (Nat.le_of_ble_eq_true rfl) fun c0 => ?_)
          refine o_val (v_move rfl) (Nat.le_of_ble_eq_true rfl) ?_
          refine o_step (s_append_nil Try.underlying30 ti9 rfl (by decide) rfl rfl (Nat.le_of_ble_eq_true rfl) (by repeat (first | exact Pick.here | exact Pick.own_nil | apply Pick.there)) (by repeat (first | exact Pick.keep (Sl.isDup _ _ _) | exact Pick.keep (BlkR.isDup _ _ _) | exact Pick.keep (FldCell.isDup _ _) | exact Pick.here | exact Pick.own_sl | exact Pick.apd_sl | exact Pick.r_blk | exact Pick.sl_nil | exact Pick.own_nil | exact Pick.map_itO _ | apply Pick.there)) rfl (by (first | omega | (simp only [maxLen, List.length_append, List.length_drop, List.length_take, List.length_nil, List.length_cons]; omega))) (by (first | omega | (simp only [maxLen, List.length_append, List.length_drop, List.length_take, List.length_nil, List.length_cons]; omega))) fun c => ?_)
          refine o_val (v_assign rfl) (Nat.le_of_ble_eq_true rfl) ?_
          refine o_nil ?_
          refine c_seq ?_
          refine c_region ?_
          refine o_val (v_move rfl) (Nat.le_of_ble_eq_true rfl) ?_
          refine o_step (s_callf_mix 1 cl25 (push_con b6 [(1, ByteArray.empty, []), (2, ByteArray.empty, [])] 1 c names (by omega) (by decide) (by decide)) rfl (Nat.le_of_ble_eq_true rfl) (by repeat (first | exact Picks.nil | (apply Picks.cons; · repeat (first | exact Pick.keep (Sl.isDup _ _ _) | exact Pick.keep (BlkR.isDup _ _ _) | exact Pick.keep (FldCell.isDup _ _) | exact Pick.here | exact Pick.own_sl | exact Pick.apd_sl | exact Pick.r_blk | exact Pick.sl_nil | exact Pick.own_nil | exact Pick.map_itO _ | apply Pick.there)))) (by repeat (first | exact Reads.nil | refine Reads.cons (by first | exact Sl.isDup _ _ _ | exact BlkR.isDup _ _ _ | exact Rd.isDup _ _ _ | exact Pu.isDup _ | exact FldCell.isDup _ _) (by repeat (first | exact Has.here | exact Has.sl_apd | exact Has.sl_own | exact Has.r_blk | apply Has.there)) ?_)) (fun _ => by repeat (first | exact Seps.nil | (apply Seps.cons; · first | exact Blk.sep | exact ObjA.sep | exact MapA.sep | exact Pu.sep _ | exact hub_sep | exact nts_sep | (refine Own.sep ?_; repeat (first | exact eInt_pure _ | exact eStr_pure | exact eBool_pure | exact eByte_pure | exact eRaw_pure | apply ePair_pure | apply eMap_pure))))) (fun told _ => ?_))
          refine o_nil ?_
          refine c_seq ?_
          refine c_seq ?_
          refine c_region ?_
          refine o_val (v_move rfl) (Nat.le_of_ble_eq_true rfl) ?_
          refine o_val ((by first | exact v_len_form Try.underlying30 rfl | exact v_len_sl Try.underlying30 rfl (by repeat (first | exact Has.here | exact Has.sl_apd | exact Has.sl_own | exact Has.r_blk | apply Has.there)))) (Nat.le_of_ble_eq_true rfl) ?_
          refine o_val (v_move rfl) (Nat.le_of_ble_eq_true rfl) ?_
          refine o_nil ?_
          refine c_block ?_
          have hT : touched names ByteArray.empty ≠ [] := fun h => hnn (touched_all_nil.1 h)
          have htl := touched_len names ByteArray.empty
          have hTm : ∀ s ∈ touched names ByteArray.empty, s.size ≤ 140737488351232 := fun s hs => hn.2 s (touched_mem.1 hs).1
          have e1 : pushW [(1, ByteArray.empty, []), (2, ByteArray.empty, [])] 1 names = [(1, ByteArray.empty, [(1, touched names ByteArray.empty, false)]), (2, ByteArray.empty, [(1, touched names ByteArray.empty, false)])] := by rw [push2, if_neg hnn, if_neg hT]; rfl
          rw [e1]
          obtain ⟨T, hTT⟩ : ∃ T, T = touched names ByteArray.empty := ⟨_, rfl⟩
          rw [← hTT] at hT htl hTm ⊢
          have hT0 : 0 < T.length := List.length_pos_iff.2 hT
          have hcl : ([] ++ names : List ByteArray).length = names.length := rfl
          refine c_loopR (γ := Nat × List ByteArray) [(0, _), (2, _), (6, _), (7, _), (46, _)] (fun g => names.length - g.1) (fun g => g.1 ≤ names.length ∧ g.2.length = names.length) (fun g => [(47, .int .i64 g.1)]) (fun g => [Own eStr 9 c g.2, HubA b6 [(1, ByteArray.empty, [(1, T, false)]), (2, ByteArray.empty, [(1, T, false)])], Sl eStr v names]) ((0, [] ++ names)) (⟨Nat.zero_le _, rfl⟩) (by repeat (first | exact trivial | refine ⟨rfl, ?_⟩)) (Picks.ent (by repeat (first | exact Picks.nil | (apply Picks.cons; · repeat (first | exact Pick.keep (Sl.isDup _ _ _) | exact Pick.keep (BlkR.isDup _ _ _) | exact Pick.keep (FldCell.isDup _ _) | exact Pick.here | exact Pick.own_sl | exact Pick.apd_sl | exact Pick.r_blk | exact Pick.sl_nil | exact Pick.own_nil | exact Pick.map_itO _ | apply Pick.there))))) ?_
          rintro ⟨k, zs⟩ ⟨hk, hzl⟩ IH2
          dsimp only at hk hzl ⊢
          try dsimp only [List.cons_append, List.nil_append]
          refine c_seq ?_
          refine c_region ?_
          refine o_val (v_lt rfl rfl) (Nat.le_of_ble_eq_true rfl) ?_
          refine o_nil ?_
          refine c_seq ?_
          refine c_cond_p rfl (fun hlt2 => ?_) (fun hlt2 => ?_)
          · have hk' : k < zs.length := by omega
            refine c_skip ?_
            refine c_seq ?_
            refine c_block ?_
            refine c_seq ?_
            refine c_region ?_
            refine o_val (v_move rfl) (Nat.le_of_ble_eq_true rfl) ?_
            refine o_val (v_assign rfl) (Nat.le_of_ble_eq_true rfl) ?_
            refine o_nil ?_
            refine c_region ?_
            refine o_val (v_move rfl) (Nat.le_of_ble_eq_true rfl) ?_
            refine o_val (v_move rfl) (Nat.le_of_ble_eq_true rfl) ?_
            refine o_val ((by first | exact v_indexAddrN Try.underlying30 ti9 rfl rfl (by repeat (first | exact Has.here | exact Has.sl_apd | exact Has.sl_own | exact Has.r_blk | apply Has.there)) (by omega) | exact v_indexAddr Try.underlying30 ti9 rfl rfl (by repeat (first | exact Has.here | exact Has.sl_apd | exact Has.sl_own | exact Has.r_blk | apply Has.there)) (by omega))) (Nat.le_of_ble_eq_true rfl) ?_
            refine o_step (s_store_elem (z := ⟨#[63]⟩) ti9 rfl rfl (by first | exact CellsV.lit rfl | exact CellsV.one (by first | exact OneC.lit rfl | exact OneC.sl (by repeat (first | exact Has.here | exact Has.sl_apd | exact Has.sl_own | exact Has.r_blk | apply Has.there)) )) (by repeat (first | exact Pick.here | exact Pick.own_nil | apply Pick.there)) (by exact (by first | exact Beside.rd fun _ _ => rfl | exact Beside.rd fun _ _ => ⟨_, _, rfl, rfl, rfl⟩)) (by omega) (?_))
            refine o_nil ?_
            refine c_inBlock ?_
            refine c_region ?_
            refine o_val ((by first | exact v_add64 rfl rfl (by omega) | exact v_add rfl rfl)) (Nat.le_of_ble_eq_true rfl) ?_
            refine o_val (v_move rfl) (Nat.le_of_ble_eq_true rfl) ?_
            refine o_nil ?_
            refine c_use (IH2 ((k + 1, zs.set k ⟨#[63]⟩)) (by first | omega | (dsimp only; omega)) (⟨by dsimp only; omega, by dsimp only; simp; exact hzl⟩)) (by repeat (first | exact trivial | refine ⟨rfl, ?_⟩)) (Picks.ent (by repeat (first | exact Picks.nil | (apply Picks.cons; · repeat (first | exact Pick.keep (Sl.isDup _ _ _) | exact Pick.keep (BlkR.isDup _ _ _) | exact Pick.keep (FldCell.isDup _ _) | exact Pick.here | exact Pick.own_sl | exact Pick.apd_sl | exact Pick.r_blk | exact Pick.sl_nil | exact Pick.own_nil | exact Pick.map_itO _ | apply Pick.there)))))
          · refine c_exit rfl ?_
            refine c_seq ?_
            refine c_region ?_
            refine o_step (s_callf cl23 (take_con b6 [(1, ByteArray.empty, [(1, T, false)]), (2, ByteArray.empty, [(1, T, false)])] 1 1 (by simp)) rfl (Nat.le_of_ble_eq_true rfl) (by repeat (first | exact Picks.nil | (apply Picks.cons; · repeat (first | exact Pick.keep (Sl.isDup _ _ _) | exact Pick.keep (BlkR.isDup _ _ _) | exact Pick.keep (FldCell.isDup _ _) | exact Pick.here | exact Pick.own_sl | exact Pick.apd_sl | exact Pick.r_blk | exact Pick.sl_nil | exact Pick.own_nil | exact Pick.map_itO _ | apply Pick.there)))) fun l0 _ => ?_)
            refine o_val (v_move rfl) (Nat.le_of_ble_eq_true rfl) ?_
            refine o_val (v_extract rfl rfl) (Nat.le_of_ble_eq_true rfl) ?_
            refine o_val (v_extract rfl rfl) (Nat.le_of_ble_eq_true rfl) ?_
            refine o_val (v_assign rfl) (Nat.le_of_ble_eq_true rfl) ?_
            refine o_val (v_assign rfl) (Nat.le_of_ble_eq_true rfl) ?_
            refine o_nil ?_
            refine c_seq ?_
            rw [take2]
            refine c_ent (L' := NtsA l0 [(1, T, false)] :: [HubA b6 [(1, ByteArray.empty, []), (2, ByteArray.empty, [(1, T, false)])], Sl eStr v names]) (by show Ent (NtsA l0 [(1, T, false)] :: HubA b6 [(1, ByteArray.empty, []), (2, ByteArray.empty, [(1, T, false)])] :: _) _; exact (Picks.ent (by repeat (first | exact Picks.nil | (apply Picks.cons; · repeat (first | exact Pick.keep (Sl.isDup _ _ _) | exact Pick.keep (BlkR.isDup _ _ _) | exact Pick.keep (FldCell.isDup _ _) | exact Pick.here | exact Pick.own_sl | exact Pick.apd_sl | exact Pick.r_blk | exact Pick.sl_nil | exact Pick.own_nil | exact Pick.map_itO _ | apply Pick.there)))))) (c_nts fun qs hqs => ?_)
            match qs, hqs with
            | [(x1, n1)], hqs => ?_
            simp only [List.map_cons, List.map_nil, List.cons.injEq, and_true] at hqs
            subst hqs
            refine c_region ?_
            refine o_val (v_move rfl) (Nat.le_of_ble_eq_true rfl) ?_
            refine o_step (s_callf cl26 (touchedS_con v names ByteArray.empty (by omega) hns (by decide)) rfl (Nat.le_of_ble_eq_true rfl) (by repeat (first | exact Picks.nil | (apply Picks.cons; · repeat (first | exact Pick.keep (Sl.isDup _ _ _) | exact Pick.keep (BlkR.isDup _ _ _) | exact Pick.keep (FldCell.isDup _ _) | exact Pick.here | exact Pick.own_sl | exact Pick.apd_sl | exact Pick.r_blk | exact Pick.sl_nil | exact Pick.own_nil | exact Pick.map_itO _ | apply Pick.there)))) fun t2 _ => ?_)
            refine o_val (v_buildS (places := [(0, 1), (1, 1), (2, 1)]) (cells := [_, _, .bool false]) Try.underlying56 ti56 (by kernel_rfl) rfl (by repeat (first | exact PartsC.nil | (apply PartsC.one (by first | exact OneC.lit rfl | exact OneC.sl (by repeat (first | exact Has.here | exact Has.sl_apd | exact Has.sl_own | exact Has.r_blk | apply Has.there)) )) | (apply PartsC.lit rfl))) rfl) (Nat.le_of_ble_eq_true rfl) ?_
            rw [← hTT]
            refine o_step (s_buildSlice Try.underlying37 ti56 rfl rfl rfl (by decide) (by decide) (beside_agg1 (beside_of (z := (1, T, false)) (Lp := [Sl eStr t2 T]) (by repeat (first | exact Picks.nil | (apply Picks.cons; · repeat (first | exact Pick.keep (Sl.isDup _ _ _) | exact Pick.keep (BlkR.isDup _ _ _) | exact Pick.keep (FldCell.isDup _ _) | exact Pick.here | exact Pick.own_sl | exact Pick.apd_sl | exact Pick.r_blk | exact Pick.sl_nil | exact Pick.own_nil | exact Pick.map_itO _ | apply Pick.there)))) (fun w O h => nt_rd w O h))) rfl rfl (Nat.le_of_ble_eq_true rfl) fun v1 => ?_)
            refine o_val (v_assign rfl) (Nat.le_of_ble_eq_true rfl) ?_
            refine o_nil ?_
            refine c_seq ?_
            refine c_seq ?_
            refine c_region ?_
            refine o_val (v_move rfl) (Nat.le_of_ble_eq_true rfl) ?_
            refine o_step (s_callf_keep cl24 (oldR_con l0 ([(x1, (1, T, false))].map rawN) (by simp)) rfl (Nat.le_of_ble_eq_true rfl) (by repeat (first | exact Reads.nil | refine Reads.cons (by first | exact Sl.isDup _ _ _ | exact BlkR.isDup _ _ _ | exact Rd.isDup _ _ _ | exact Pu.isDup _ | exact FldCell.isDup _ _) (by repeat (first | exact Has.here | exact Has.sl_apd | exact Has.sl_own | exact Has.r_blk | apply Has.there)) ?_)) (fun _ => by repeat (first | exact Seps.nil | (apply Seps.cons; · first | exact Blk.sep | exact ObjA.sep | exact MapA.sep | exact Pu.sep _ | exact hub_sep | exact nts_sep | (refine Own.sep ?_; repeat (first | exact eInt_pure _ | exact eStr_pure | exact eBool_pure | exact eByte_pure | exact eRaw_pure | apply ePair_pure | apply eMap_pure))))) (fun u _ => ?_))
            refine o_val (v_move rfl) (Nat.le_of_ble_eq_true rfl) ?_
            refine o_step (s_callf_keep cl28 (same_con u v1 [(1, T, false)] [(1, T, false)] (by simp) (by simp) (by simp; omega)) rfl (Nat.le_of_ble_eq_true rfl) (by repeat (first | exact Reads.nil | refine Reads.cons (by first | exact Sl.isDup _ _ _ | exact BlkR.isDup _ _ _ | exact Rd.isDup _ _ _ | exact Pu.isDup _ | exact FldCell.isDup _ _) (by repeat (first | exact Has.here | exact Has.sl_apd | exact Has.sl_own | exact Has.r_blk | exact has_notes (v := u) (qs := [(x1, (1, T, false))]) (by repeat (first | exact Has.here | exact Has.sl_apd | exact Has.sl_own | exact Has.r_blk | apply Has.there)) (by repeat (first | exact Has.here | exact Has.sl_apd | exact Has.sl_own | exact Has.r_blk | apply Has.there)) | apply Has.there)) ?_)) (fun _ => by repeat (first | exact Seps.nil | (apply Seps.cons; · first | exact Blk.sep | exact ObjA.sep | exact MapA.sep | exact Pu.sep _ | exact hub_sep | exact nts_sep | (refine Own.sep ?_; repeat (first | exact eInt_pure _ | exact eStr_pure | exact eBool_pure | exact eByte_pure | exact eRaw_pure | apply ePair_pure | apply eMap_pure))))) (fun _ _ => ?_))
            refine o_val (v_not rfl) (Nat.le_of_ble_eq_true rfl) ?_
            refine o_nil ?_
            rw [show decide ([((1 : Int), T, false)] = [((1 : Int), T, false)]) = true from decide_eq_true rfl]
            refine c_cond_f rfl ?_
            refine c_skip ?_
            refine c_seq ?_
            refine c_ent (L' := AllA ([(x1, ((1, T, false) : Nt))].map noteA) :: [Own eNr 60 l0 ([(x1, ((1, T, false) : Nt))].map rawN), HubA b6 [(1, ByteArray.empty, []), (2, ByteArray.empty, [(1, T, false)])], Sl eNt v1 [(1, T, false)], Sl eStr v names]) (Picks.ent (by repeat (first | exact Picks.nil | (apply Picks.cons; · repeat (first | exact Pick.keep (Sl.isDup _ _ _) | exact Pick.keep (BlkR.isDup _ _ _) | exact Pick.keep (FldCell.isDup _ _) | exact Pick.here | exact Pick.own_sl | exact Pick.apd_sl | exact Pick.r_blk | exact Pick.sl_nil | exact Pick.own_nil | exact Pick.map_itO _ | apply Pick.there))))) (c_all ?_)
            refine c_ent (L' := [Own eStr 9 x1 T, Own eNr 60 l0 [(1, x1, false)], HubA b6 [(1, ByteArray.empty, []), (2, ByteArray.empty, [(1, T, false)])], Sl eNt v1 [(1, T, false)], Sl eStr v names]) (by show Ent [Own eStr 9 x1 T, Own eNr 60 l0 [(1, x1, false)], HubA b6 [(1, ByteArray.empty, []), (2, ByteArray.empty, [(1, T, false)])], Sl eNt v1 [(1, T, false)], Sl eStr v names] _; exact (Picks.ent (by repeat (first | exact Picks.nil | (apply Picks.cons; · repeat (first | exact Pick.keep (Sl.isDup _ _ _) | exact Pick.keep (BlkR.isDup _ _ _) | exact Pick.keep (FldCell.isDup _ _) | exact Pick.here | exact Pick.own_sl | exact Pick.apd_sl | exact Pick.r_blk | exact Pick.sl_nil | exact Pick.own_nil | exact Pick.map_itO _ | apply Pick.there)))))) ?_
            have hZ0 : Int.toNat 0 = 0 := rfl
            have hTs : T[0].size ≤ 140737488351232 := hTm _ (List.getElem_mem hT0)
            have h63 : (⟨#[63]⟩ : ByteArray).size = 1 := rfl
            have hL1 : ([(1, x1, false)] : List (Int × Value × Bool)).length = 1 := rfl
            refine c_region ?_
            refine o_val (v_move rfl) (Nat.le_of_ble_eq_true rfl) ?_
            refine o_val ((by first | exact v_indexAddrN Try.underlying49 ti60 rfl rfl (by repeat (first | exact Has.here | exact Has.sl_apd | exact Has.sl_own | exact Has.r_blk | apply Has.there)) (by omega) | exact v_indexAddr Try.underlying49 ti60 rfl rfl (by repeat (first | exact Has.here | exact Has.sl_apd | exact Has.sl_own | exact Has.r_blk | apply Has.there)) (by omega))) (Nat.le_of_ble_eq_true rfl) ?_
            refine o_val (v_fieldAddrC 1 Try.underlying60 rfl ti30 (by decide) rfl) (Nat.le_of_ble_eq_true rfl) ?_
            refine o_val ((by first | exact v_load_cell lone30 rfl (by repeat (first | exact Has.here | exact Has.sl_apd | exact Has.sl_own | exact Has.r_blk | apply Has.there)) | exact v_load_fld lone30 rfl (by repeat (first | exact Elem.sl (List.getElem?_eq_getElem (by omega)) | exact Elem.own (List.getElem?_eq_getElem (by omega)) | apply Elem.there)) (by (try apply FldS.map); apply FldS.snd (j := 0) rfl; apply FldS.fst; (try apply FldS.map); first | exact FldS.int _ | exact FldS.str | exact FldS.bool | exact FldS.raw))) (Nat.le_of_ble_eq_true rfl) ?_
            refine o_val ((by first | exact v_indexAddrN Try.underlying30 ti9 rfl rfl (by repeat (first | exact Has.here | exact Has.sl_apd | exact Has.sl_own | exact Has.r_blk | apply Has.there)) (by omega) | exact v_indexAddr Try.underlying30 ti9 rfl rfl (by repeat (first | exact Has.here | exact Has.sl_apd | exact Has.sl_own | exact Has.r_blk | apply Has.there)) (by omega))) (Nat.le_of_ble_eq_true rfl) ?_
            refine o_val (v_load_str lone9 rfl (by repeat (first | exact Elem.sl (List.getElem?_eq_getElem (by omega)) | exact Elem.own (List.getElem?_eq_getElem (by omega)) | apply Elem.there))) (Nat.le_of_ble_eq_true rfl) ?_
            refine o_val (v_cat rfl rfl (by first | omega | (simp only [ByteArray.size_append]; omega))) (Nat.le_of_ble_eq_true rfl) ?_
            refine o_val ((by first | exact v_indexAddrN Try.underlying30 ti9 rfl rfl (by repeat (first | exact Has.here | exact Has.sl_apd | exact Has.sl_own | exact Has.r_blk | apply Has.there)) (by omega) | exact v_indexAddr Try.underlying30 ti9 rfl rfl (by repeat (first | exact Has.here | exact Has.sl_apd | exact Has.sl_own | exact Has.r_blk | apply Has.there)) (by omega))) (Nat.le_of_ble_eq_true rfl) ?_
            refine o_step (s_store_elem (z := (T[0] ++ ⟨#[63]⟩)) ti9 rfl rfl (by first | exact CellsV.lit rfl | exact CellsV.one (by first | exact OneC.lit rfl | exact OneC.sl (by repeat (first | exact Has.here | exact Has.sl_apd | exact Has.sl_own | exact Has.r_blk | apply Has.there)) )) (by repeat (first | exact Pick.here | exact Pick.own_nil | apply Pick.there)) (by exact (by first | exact Beside.rd fun _ _ => rfl | exact Beside.rd fun _ _ => ⟨_, _, rfl, rfl, rfl⟩)) (by omega) (?_))
            refine o_nil ?_
            refine c_seq ?_
            refine c_region ?_
            refine o_step (s_callf cl23 (take_con b6 [(1, ByteArray.empty, []), (2, ByteArray.empty, [(1, T, false)])] 2 1 (by simp)) rfl (Nat.le_of_ble_eq_true rfl) (by repeat (first | exact Picks.nil | (apply Picks.cons; · repeat (first | exact Pick.keep (Sl.isDup _ _ _) | exact Pick.keep (BlkR.isDup _ _ _) | exact Pick.keep (FldCell.isDup _ _) | exact Pick.here | exact Pick.own_sl | exact Pick.apd_sl | exact Pick.r_blk | exact Pick.sl_nil | exact Pick.own_nil | exact Pick.map_itO _ | apply Pick.there)))) fun m _ => ?_)
            refine o_val (v_move rfl) (Nat.le_of_ble_eq_true rfl) ?_
            refine o_val (v_extract rfl rfl) (Nat.le_of_ble_eq_true rfl) ?_
            refine o_val (v_extract rfl rfl) (Nat.le_of_ble_eq_true rfl) ?_
            refine o_val (v_assign rfl) (Nat.le_of_ble_eq_true rfl) ?_
            refine o_val (v_assign rfl) (Nat.le_of_ble_eq_true rfl) ?_
            refine o_nil ?_
            refine c_seq ?_
            refine c_region ?_
            rw [take22]
            dsimp only
            rw [show List.take 1 [((1 : Int), T, false)] = [((1 : Int), T, false)] from rfl]
            refine o_mk (nts_sl (L := []) (v := m) (l := [(1, T, false)])) (by repeat (first | exact Picks.nil | (apply Picks.cons; · repeat (first | exact Pick.keep (Sl.isDup _ _ _) | exact Pick.keep (BlkR.isDup _ _ _) | exact Pick.keep (FldCell.isDup _ _) | exact Pick.here | exact Pick.own_sl | exact Pick.apd_sl | exact Pick.r_blk | exact Pick.sl_nil | exact Pick.own_nil | exact Pick.map_itO _ | apply Pick.there)))) ?_
            refine o_step (s_callf cl16 (alive_con) rfl (Nat.le_of_ble_eq_true rfl) (by repeat (first | exact Picks.nil | (apply Picks.cons; · repeat (first | exact Pick.keep (Sl.isDup _ _ _) | exact Pick.keep (BlkR.isDup _ _ _) | exact Pick.keep (FldCell.isDup _ _) | exact Pick.here | exact Pick.own_sl | exact Pick.apd_sl | exact Pick.r_blk | exact Pick.sl_nil | exact Pick.own_nil | exact Pick.map_itO _ | apply Pick.there)))) fun _ _ => ?_)
            refine o_val (v_move rfl) (Nat.le_of_ble_eq_true rfl) ?_
            refine o_guard rfl rfl (fun _ => ?_) (fun h_ => absurd ((show _ = true from rfl).symm.trans h_) (by decide))
            refine o_val (v_move rfl) (Nat.le_of_ble_eq_true rfl) ?_
            refine o_on rfl rfl ?_
            refine o_step (s_callf cl24 (old_con m [(1, T, false)] (by simp)) rfl (Nat.le_of_ble_eq_true rfl) (by repeat (first | exact Picks.nil | (apply Picks.cons; · repeat (first | exact Pick.keep (Sl.isDup _ _ _) | exact Pick.keep (BlkR.isDup _ _ _) | exact Pick.keep (FldCell.isDup _ _) | exact Pick.here | exact Pick.own_sl | exact Pick.apd_sl | exact Pick.r_blk | exact Pick.sl_nil | exact Pick.own_nil | exact Pick.map_itO _ | apply Pick.there)))) fun u2 _ => ?_)
            refine o_on rfl rfl ?_
            refine o_val (v_move rfl) (Nat.le_of_ble_eq_true rfl) ?_
            refine o_on rfl rfl ?_
            refine o_step (s_callf cl28 (same_con u2 v1 [(1, T, false)] [(1, T, false)] (by simp) (by simp) (by simp; omega)) rfl (Nat.le_of_ble_eq_true rfl) (by repeat (first | exact Picks.nil | (apply Picks.cons; · repeat (first | exact Pick.keep (Sl.isDup _ _ _) | exact Pick.keep (BlkR.isDup _ _ _) | exact Pick.keep (FldCell.isDup _ _) | exact Pick.here | exact Pick.own_sl | exact Pick.apd_sl | exact Pick.r_blk | exact Pick.sl_nil | exact Pick.own_nil | exact Pick.map_itO _ | apply Pick.there)))) fun _ _ => ?_)
            refine o_val (v_pick_t rfl rfl) (Nat.le_of_ble_eq_true rfl) ?_
            refine o_val (v_assign rfl) (Nat.le_of_ble_eq_true rfl) ?_
            refine o_nil ?_
            refine c_ret1 Try.func6 rfl rfl fun w O hS => ?_
            exact ⟨(), congrArg Value.bool (decide_eq_true rfl), trivial, trivial⟩
      · refine o_off rfl rfl rfl (Nat.le_of_ble_eq_true rfl) ?_
        refine o_off rfl rfl rfl (Nat.le_of_ble_eq_true rfl) ?_
        refine o_off rfl rfl rfl (Nat.le_of_ble_eq_true rfl) ?_
        refine o_val (v_pick_t rfl rfl) (Nat.le_of_ble_eq_true rfl) ?_
        refine o_nil ?_
        refine c_cond_t rfl ?_
        refine c_seq ?_
        refine c_region ?_
        refine o_step (s_callf cl16 (alive_con) rfl (Nat.le_of_ble_eq_true rfl) (by repeat (first | exact Picks.nil | (apply Picks.cons; · repeat (first | exact Pick.keep (Sl.isDup _ _ _) | exact Pick.keep (BlkR.isDup _ _ _) | exact Pick.keep (FldCell.isDup _ _) | exact Pick.here | exact Pick.own_sl | exact Pick.apd_sl | exact Pick.r_blk | exact Pick.sl_nil | exact Pick.own_nil | exact Pick.map_itO _ | apply Pick.there)))) fun _ _ => ?_)
        refine o_val (v_assign rfl) (Nat.le_of_ble_eq_true rfl) ?_
        refine o_nil ?_
        refine c_ret1 Try.func6 rfl rfl fun w O hS => ?_
        exact ⟨(), rfl, trivial, trivial⟩
    · refine o_off rfl rfl rfl (Nat.le_of_ble_eq_true rfl) ?_
      refine o_off rfl rfl rfl (Nat.le_of_ble_eq_true rfl) ?_
      refine o_off rfl rfl rfl (Nat.le_of_ble_eq_true rfl) ?_
      refine o_val (v_pick_t rfl rfl) (Nat.le_of_ble_eq_true rfl) ?_
      refine o_val (v_move rfl) (Nat.le_of_ble_eq_true rfl) ?_
      refine o_off rfl rfl rfl (Nat.le_of_ble_eq_true rfl) ?_
      refine o_off rfl rfl rfl (Nat.le_of_ble_eq_true rfl) ?_
      refine o_off rfl rfl rfl (Nat.le_of_ble_eq_true rfl) ?_
      refine o_val (v_pick_t rfl rfl) (Nat.le_of_ble_eq_true rfl) ?_
      refine o_nil ?_
      refine c_cond_t rfl ?_
      refine c_seq ?_
      refine c_region ?_
      refine o_step (s_callf cl16 (alive_con) rfl (Nat.le_of_ble_eq_true rfl) (by repeat (first | exact Picks.nil | (apply Picks.cons; · repeat (first | exact Pick.keep (Sl.isDup _ _ _) | exact Pick.keep (BlkR.isDup _ _ _) | exact Pick.keep (FldCell.isDup _ _) | exact Pick.here | exact Pick.own_sl | exact Pick.apd_sl | exact Pick.r_blk | exact Pick.sl_nil | exact Pick.own_nil | exact Pick.map_itO _ | apply Pick.there)))) fun _ _ => ?_)
      refine o_val (v_assign rfl) (Nat.le_of_ble_eq_true rfl) ?_
      refine o_nil ?_
      refine c_ret1 Try.func6 rfl rfl fun w O hS => ?_
      exact ⟨(), rfl, trivial, trivial⟩
end Go.Proofs.Ytnamhhmfnokfiaa

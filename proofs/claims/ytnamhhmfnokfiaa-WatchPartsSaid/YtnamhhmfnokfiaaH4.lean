import Derived.Test.YtnamhhmfnokfiaaH3
namespace Go.Proofs.Ytnamhhmfnokfiaa
open Go Go.SL
attribute [local irreducible] Cfg Kont StepK Val Con Qops Any Sl Own Blk BlkR Rd Pu ExA AllA Has Pick Ent Elem Beside Callable TI Lone

set_option maxRecDepth 100000 in
theorem own_con (ver : Int) (nv : Value) (lost : Bool) (names : List ByteArray) (hn : names.length ≤ 8796093022207) :
    Con Try.prog 86 [.agg #[.int .i64 ver, nv, .bool lost]] [Sl eStr nv names] (γ := Value) (fun r => .agg #[.int .i64 ver, r, .bool lost]) (fun _ => True) (fun r => [Own eStr 9 r names]) := by
  refine con_of Try.func86 rfl (Nat.le_of_ble_eq_true rfl) fun w0 O0 => ?_
  refine c_seq ?_
  refine c_region ?_
  refine o_step (s_box rfl (Nat.le_of_ble_eq_true rfl) (fun b1 => ?_))
  refine o_step (s_alloc ti60 (Nat.le_of_ble_eq_true rfl) (fun b2 => ?_))
  refine o_nil ?_
  refine c_seq ?_
  refine c_region ?_
  refine o_val (v_fieldAddrC 1 Try.underlying60 rfl ti30 (by decide) rfl) (Nat.le_of_ble_eq_true rfl) ?_
  refine o_val (v_load lone30 rfl (by repeat (first | exact Has.here | exact Has.sl_apd | exact Has.sl_own | exact Has.r_blk | apply Has.there)) rfl) (Nat.le_of_ble_eq_true rfl) ?_
  refine o_step (s_callf_keep cl93 (clone_S eStr nv names rfl hn) rfl (Nat.le_of_ble_eq_true rfl) (by repeat (first | exact Reads.nil | refine Reads.cons (by first | exact Sl.isDup _ _ _ | exact BlkR.isDup _ _ _ | exact Rd.isDup _ _ _ | exact Pu.isDup _ | exact FldCell.isDup _ _) (by repeat (first | exact Has.here | exact Has.sl_apd | exact Has.sl_own | exact Has.r_blk | apply Has.there)) ?_)) (fun _ => by repeat (first | exact Seps.nil | (apply Seps.cons; · first | exact Blk.sep | exact ObjA.sep | exact MapA.sep | exact Pu.sep _ | (refine Own.sep ?_; repeat (first | exact eInt_pure _ | exact eStr_pure | exact eBool_pure | exact eByte_pure | exact eRaw_pure | apply ePair_pure | apply eMap_pure))))) (fun r5 _ => ?_))
  refine o_val (v_fieldAddrC 1 Try.underlying60 rfl ti30 (by decide) rfl) (Nat.le_of_ble_eq_true rfl) ?_
  refine o_step (s_store1 ti30 rfl rfl (by first | exact OneC.lit rfl | exact OneC.sl (by repeat (first | exact Has.here | exact Has.sl_apd | exact Has.sl_own | exact Has.r_blk | apply Has.there))) (by repeat (first | exact Pick.here | exact Pick.own_nil | apply Pick.there)) (by first | decide | exact Nat.le_of_ble_eq_true rfl | simp) (by first | (dsimp only [List.set_cons_succ, List.set_cons_zero]; first | done | exact rfl) | rfl) (?_))
  refine o_nil ?_
  refine c_seq ?_
  refine c_region ?_
  refine o_val (v_load_all ⟨_, Try.underlying60⟩ ti60 rfl (by repeat (first | exact Has.here | exact Has.sl_apd | exact Has.sl_own | exact Has.r_blk | apply Has.there)) rfl) (Nat.le_of_ble_eq_true rfl) ?_
  refine o_step (s_store_all ti60 rfl rfl (by first | exact CellsV.lit rfl | exact CellsV.one (by first | exact OneC.lit rfl | exact OneC.sl (by repeat (first | exact Has.here | exact Has.sl_apd | exact Has.sl_own | exact Has.r_blk | apply Has.there)))) (by repeat (first | exact OneAll.nil | (refine OneAll.cons ?_ ?_; · first | exact OneC.lit rfl | exact OneC.sl (by repeat (first | exact Has.here | exact Has.sl_apd | exact Has.sl_own | exact Has.r_blk | apply Has.there))) | exact OneAll.rd (by repeat (first | exact Has.here | exact Has.sl_apd | exact Has.sl_own | exact Has.r_blk | apply Has.there)))) rfl (by repeat (first | exact Pick.here | exact Pick.own_nil | apply Pick.there)) rfl (?_))
  refine o_nil ?_
  refine c_ret_cell Try.func86 rfl ⟨_, Try.underlying60⟩ ti60 rfl (by repeat (first | exact Has.here | exact Has.sl_apd | exact Has.sl_own | exact Has.r_blk | apply Has.there)) fun w O hS => ?_
  exact ⟨r5, rfl, trivial, Ent.get hS (Picks.ent (by repeat (first | exact Picks.nil | (apply Picks.cons; · repeat (first | exact Pick.keep (Sl.isDup _ _ _) | exact Pick.keep (BlkR.isDup _ _ _) | exact Pick.keep (FldCell.isDup _ _) | exact Pick.here | exact Pick.own_sl | exact Pick.apd_sl | exact Pick.r_blk | exact Pick.sl_nil | exact Pick.own_nil | exact Pick.map_itO _ | apply Pick.there)))))⟩

theorem sub_of {ps : List (Nat × Wr)} {pre : List Int} {k : Int} {v : Value} (h : (k, v) ∈ ps.map entW) : ∃ ps1 b x ps2, ps = ps1 ++ (b, x) :: ps2 ∧ x.1 = k ∧ v = .pointer (some ⟨b, 0, none⟩) := by
  obtain ⟨p, hp, he⟩ := List.mem_map.1 h
  obtain ⟨s, t, rfl⟩ := List.append_of_mem hp
  simp only [entW, Prod.mk.injEq] at he
  exact ⟨s, p.1, p.2, t, rfl, he.1, he.2.symm⟩
theorem copy_perm {ps qs : List (Nat × Wr)} {H : List Wr} (hp : (ps.map (·.2)).Perm H) (hr : Rising H) (hsub : ∀ q ∈ qs, q.2 ∈ ps.map fun p : Nat × Wr => p.2) (hn : (qs.map fun q : Nat × Wr => q.2.1).Nodup) (hall : ∀ k ∈ (ps.map entW).map (fun p : Int × Value => p.1), k ∈ qs.map fun q : Nat × Wr => q.2.1) : (qs.map fun q : Nat × Wr => q.2).Perm H := by
  have hnq : (qs.map fun q : Nat × Wr => q.2).Nodup := by
    have e : (qs.map fun q : Nat × Wr => q.2.1) = (qs.map fun q : Nat × Wr => q.2).map fun w : Wr => w.1 := by rw [List.map_map]; rfl
    rw [e] at hn
    exact List.Pairwise.of_map (fun w : Wr => w.1) (fun a b h e => h (by rw [e])) hn
  have hnH : H.Nodup := List.Pairwise.imp (fun h e => by rw [e] at h; omega) hr
  refine (List.perm_ext_iff_of_nodup hnq hnH).2 fun w => ?_
  rw [← hp.mem_iff]
  constructor
  · intro hw
    obtain ⟨q, hq, rfl⟩ := List.mem_map.1 hw
    exact hsub q hq
  · intro hw
    obtain ⟨p, hpm, rfl⟩ := List.mem_map.1 hw
    have h1 := hall p.2.1 (List.mem_map.2 ⟨entW p, List.mem_map.2 ⟨p, hpm, rfl⟩, rfl⟩)
    obtain ⟨q, hq, he⟩ := List.mem_map.1 h1
    obtain ⟨p', hp', he'⟩ := List.mem_map.1 (hsub q hq)
    have hpn := ps_nodup hp hr
    have : p' = p := nodup_inj hpn hp' hpm (by show p'.2.1 = p.2.1; rw [he', he])
    subst this
    exact List.mem_map.2 ⟨q, hq, he'.symm⟩

set_option maxRecDepth 100000 in
theorem copy_con (h : Nat) (H : List Wr) (hn : ∀ x ∈ H, x.2.2.length ≤ 1000000 ∧ ∀ n ∈ x.2.2, n.2.1.length ≤ 8796093022207) :
    Con Try.prog 48 [.pointer (some ⟨h, 0, none⟩)] [HubA h H] (γ := Nat) (fun r => .pointer (some ⟨r, 0, none⟩)) (fun _ => True) (fun r => [HubA r H, HubA h H]) := by
  refine con_of Try.func48 rfl (Nat.le_of_ble_eq_true rfl) fun w0 O0 => ?_
  refine c_hub fun o ps hp hr => ?_
  have hnps : ∀ p ∈ ps, p.2.2.2.length ≤ 1000000 ∧ ∀ n ∈ p.2.2.2, n.2.1.length ≤ 8796093022207 := fun p hpm => hn p.2 (hp.mem_iff.1 (List.mem_map.2 ⟨p, hpm, rfl⟩))
  refine c_seq ?_
  refine c_region ?_
  refine o_val (v_assign rfl) (Nat.le_of_ble_eq_true rfl) ?_
  refine o_nil ?_
  refine c_seq ?_
  refine c_region ?_
  refine o_step (s_makeMap (ke := kInt) (Nat.le_of_ble_eq_true rfl) (fun b9 => ?_))
  refine o_val (v_buildS (places := [(0, 1)]) (cells := [_]) Try.underlying28 ti28 (by kernel_rfl) rfl (by repeat (first | exact PartsC.nil | (apply PartsC.one (by first | exact OneC.lit rfl | exact OneC.sl (by repeat (first | exact Has.here | exact Has.sl_apd | exact Has.sl_own | exact Has.r_blk | apply Has.there)))) | (apply PartsC.lit rfl))) rfl) (Nat.le_of_ble_eq_true rfl) ?_
  refine o_step (s_box rfl (Nat.le_of_ble_eq_true rfl) (fun b11 => ?_))
  refine o_val (v_assign rfl) (Nat.le_of_ble_eq_true rfl) ?_
  refine o_nil ?_
  refine c_seq ?_
  refine c_seq ?_
  refine c_region ?_
  refine o_val (v_move rfl) (Nat.le_of_ble_eq_true rfl) ?_
  refine o_val (v_nilCheck rfl) (Nat.le_of_ble_eq_true rfl) ?_
  refine o_val (v_fieldAddrC 0 Try.underlying28 rfl ti26 (by decide) rfl) (Nat.le_of_ble_eq_true rfl) ?_
  refine o_val (v_load lone26 rfl (by repeat (first | exact Has.here | exact Has.sl_apd | exact Has.sl_own | exact Has.r_blk | apply Has.there)) rfl) (Nat.le_of_ble_eq_true rfl) ?_
  refine o_step (s_range_mapO kInt Try.underlying26 rfl (Nat.le_of_ble_eq_true rfl) (by repeat (first | exact Pick.keep (Sl.isDup _ _ _) | exact Pick.keep (BlkR.isDup _ _ _) | exact Pick.keep (FldCell.isDup _ _) | exact Pick.here | exact Pick.own_sl | exact Pick.apd_sl | exact Pick.r_blk | exact Pick.sl_nil | exact Pick.own_nil | exact Pick.map_itO _ | apply Pick.there)) (fun it16 => ?_))
  refine o_nil ?_
  refine c_block ?_
  refine c_ent (all_nil (f := wrA)) ?_
  refine c_loopR (γ := List (Nat × Wr)) [(2, _), (3, _), (16, _)] (fun qs => ps.length - qs.length) (fun qs => (∀ q ∈ qs, q.2 ∈ ps.map fun p : Nat × Wr => p.2) ∧ (qs.map fun q : Nat × Wr => q.2.1).Nodup) (fun _ => []) (fun qs => [MapItO kInt it16 o (ps.map entW) (qs.map fun q : Nat × Wr => q.2.1), Blk h 28 [.map o], AllA (ps.map wrA), Blk b11 28 [.map (some b9)], MapO kInt (some b9) (qs.map entW), AllA (qs.map wrA)]) ([]) (⟨by simp, by simp⟩) (by repeat (first | exact trivial | refine ⟨rfl, ?_⟩)) (Picks.ent (by repeat (first | exact Picks.nil | (apply Picks.cons; · repeat (first | exact Pick.keep (Sl.isDup _ _ _) | exact Pick.keep (BlkR.isDup _ _ _) | exact Pick.keep (FldCell.isDup _ _) | exact Pick.here | exact Pick.own_sl | exact Pick.apd_sl | exact Pick.r_blk | exact Pick.sl_nil | exact Pick.own_nil | exact Pick.map_itO _ | apply Pick.there))))) ?_
  rintro qs ⟨hsub, hnd⟩ IH
  try dsimp only [List.cons_append, List.nil_append]
  refine c_seq ?_
  refine c_region ?_
  refine o_step (s_nextO kInt rfl (Nat.le_of_ble_eq_true rfl) (by repeat (first | exact Pick.keep (Sl.isDup _ _ _) | exact Pick.keep (BlkR.isDup _ _ _) | exact Pick.keep (FldCell.isDup _ _) | exact Pick.here | exact Pick.own_sl | exact Pick.apd_sl | exact Pick.r_blk | exact Pick.sl_nil | exact Pick.own_nil | exact Pick.map_itO _ | apply Pick.there)) (fun k v hk hn => ?_) (fun hall => ?_))
  · obtain ⟨ps1, b, x, ps2, rfl, rfl, rfl⟩ := sub_of (pre := []) hk
    have hxm : ∀ q : Nat × Wr, q = (b, x) → q ∈ ps1 ++ (b, x) :: ps2 := fun q h => by rw [h]; simp
    obtain ⟨hx1, hx2⟩ := hnps _ (hxm _ rfl)
    have hx1' : x.2.2.length ≤ 1000000 := hx1
    refine o_val (v_extract rfl rfl) (Nat.le_of_ble_eq_true rfl) ?_
    refine o_nil ?_
    refine c_seq ?_
    refine c_cond_t rfl ?_
    refine c_skip ?_
    refine c_block ?_
    refine c_seq ?_
    refine c_ent (L' := AllA ((ps1 ++ (b, x) :: ps2).map wrA) :: [MapItO kInt it16 o ((ps1 ++ (b, x) :: ps2).map entW) ((qs.map fun q : Nat × Wr => q.2.1) ++ [x.1]), Blk h 28 [.map o], Blk b11 28 [.map (some b9)], MapO kInt (some b9) (qs.map entW), AllA (qs.map wrA)]) (Picks.ent (by repeat (first | exact Picks.nil | (apply Picks.cons; · repeat (first | exact Pick.keep (Sl.isDup _ _ _) | exact Pick.keep (BlkR.isDup _ _ _) | exact Pick.keep (FldCell.isDup _ _) | exact Pick.here | exact Pick.own_sl | exact Pick.apd_sl | exact Pick.r_blk | exact Pick.sl_nil | exact Pick.own_nil | exact Pick.map_itO _ | apply Pick.there))))) (c_pull (c_wr fun v => c_swap (c_nts fun ns hns => ?_)))
    have hnl : (ns.map rawN).length = ns.length := by simp
    have hnl2 : ns.length = x.2.2.length := by rw [← hns]; simp
    refine c_region ?_
    refine o_val (v_entryO kInt rfl hk (by repeat (first | exact Has.here | exact Has.sl_apd | exact Has.sl_own | exact Has.r_blk | apply Has.there))) (Nat.le_of_ble_eq_true rfl) ?_
    refine o_val (v_extract rfl rfl) (Nat.le_of_ble_eq_true rfl) ?_
    refine o_val (v_extract rfl rfl) (Nat.le_of_ble_eq_true rfl) ?_
    refine o_val (v_assign rfl) (Nat.le_of_ble_eq_true rfl) ?_
    refine o_val (v_assign rfl) (Nat.le_of_ble_eq_true rfl) ?_
    refine o_nil ?_
    refine c_seq ?_
    refine c_region ?_
    refine o_val (v_move rfl) (Nat.le_of_ble_eq_true rfl) ?_
    refine o_val (v_nilCheck rfl) (Nat.le_of_ble_eq_true rfl) ?_
    refine o_val (v_fieldAddrC 0 Try.underlying114 rfl ti9 (by decide) rfl) (Nat.le_of_ble_eq_true rfl) ?_
    refine o_val (v_load lone9 rfl (by repeat (first | exact Has.here | exact Has.sl_apd | exact Has.sl_own | exact Has.r_blk | apply Has.there)) rfl) (Nat.le_of_ble_eq_true rfl) ?_
    refine o_val (v_buildS (places := [(0, 1), (1, 1)]) (cells := [_, .slice none 0 0]) Try.underlying114 ti114 (by kernel_rfl) rfl (by repeat (first | exact PartsC.nil | (apply PartsC.one (by first | exact OneC.lit rfl | exact OneC.sl (by repeat (first | exact Has.here | exact Has.sl_apd | exact Has.sl_own | exact Has.r_blk | apply Has.there)))) | (apply PartsC.lit rfl))) rfl) (Nat.le_of_ble_eq_true rfl) ?_
    refine o_step (s_box rfl (Nat.le_of_ble_eq_true rfl) (fun b27 => ?_))
    refine o_val (v_assign rfl) (Nat.le_of_ble_eq_true rfl) ?_
    refine o_nil ?_
    refine c_seq ?_
    refine c_seq ?_
    refine c_region ?_
    refine o_val (v_move rfl) (Nat.le_of_ble_eq_true rfl) ?_
    refine o_val (v_nilCheck rfl) (Nat.le_of_ble_eq_true rfl) ?_
    refine o_val (v_fieldAddrC 1 Try.underlying114 rfl ti49 (by decide) rfl) (Nat.le_of_ble_eq_true rfl) ?_
    refine o_val (v_load lone49 rfl (by repeat (first | exact Has.here | exact Has.sl_apd | exact Has.sl_own | exact Has.r_blk | apply Has.there)) rfl) (Nat.le_of_ble_eq_true rfl) ?_
    refine o_val ((by first | exact v_len_form Try.underlying49 rfl | exact v_len_sl Try.underlying49 rfl (by repeat (first | exact Has.here | exact Has.sl_apd | exact Has.sl_own | exact Has.r_blk | apply Has.there)))) (Nat.le_of_ble_eq_true rfl) ?_
    refine o_val (v_move rfl) (Nat.le_of_ble_eq_true rfl) ?_
    refine o_nil ?_
    refine c_block ?_
    refine c_ent (all_nil (f := noteA)) ?_
    refine c_loopR (γ := Value × List (Value × Nt)) [(2, _), (3, _), (4, _), (5, _), (6, _), (16, _), (17, _), (18, _), (19, _), (20, _), (21, _), (22, _), (23, _), (24, _), (25, _), (26, _), (27, _), (28, _), (29, _), (30, _), (31, _), (32, _)] (fun g => ns.length - g.2.length) (fun g => g.2.length ≤ ns.length ∧ g.2.map (·.2) = (ns.map (·.2)).take g.2.length) (fun g => [(33, .int .i64 g.2.length)]) (fun g => [Own eNr 60 g.1 (g.2.map rawN), AllA (g.2.map noteA), Blk b27 114 [.string x.2.1, g.1], Own eNr 60 v (ns.map rawN), AllA (ns.map noteA), Blk b 114 [.string x.2.1, v], AllA ((ps1 ++ ps2).map wrA), MapItO kInt it16 o ((ps1 ++ (b, x) :: ps2).map entW) ((qs.map fun q : Nat × Wr => q.2.1) ++ [x.1]), Blk h 28 [.map o], Blk b11 28 [.map (some b9)], MapO kInt (some b9) (qs.map entW), AllA (qs.map wrA)]) ((.slice none 0 0, [])) (⟨Nat.zero_le _, rfl⟩) (by repeat (first | exact trivial | refine ⟨rfl, ?_⟩)) (Picks.ent (by repeat (first | exact Picks.nil | (apply Picks.cons; · repeat (first | exact Pick.keep (Sl.isDup _ _ _) | exact Pick.keep (BlkR.isDup _ _ _) | exact Pick.keep (FldCell.isDup _ _) | exact Pick.here | exact Pick.own_sl | exact Pick.apd_sl | exact Pick.r_blk | exact Pick.sl_nil | exact Pick.own_nil | exact Pick.map_itO _ | apply Pick.there))))) ?_
    rintro ⟨u, ms⟩ ⟨hml, hms⟩ IH2
    · dsimp only at hml hms ⊢
      try dsimp only [List.cons_append, List.nil_append]
      refine c_seq ?_
      refine c_region ?_
      refine o_val (v_lt rfl rfl) (Nat.le_of_ble_eq_true rfl) ?_
      refine o_nil ?_
      refine c_seq ?_
      refine c_cond_p rfl (fun hlt => ?_) (fun hlt => ?_)
      · have hlt' : ms.length < ns.length := by omega
        have hnn : ns[ms.length].2.2.1.length ≤ 8796093022207 := hx2 _ (by show ns[ms.length].2 ∈ x.2.2; rw [← hns]; exact List.mem_map.2 ⟨_, List.getElem_mem hlt', rfl⟩)
        refine c_skip ?_
        refine c_seq ?_
        refine c_block ?_
        refine c_seq ?_
        refine c_region ?_
        refine o_val ((by first | exact v_indexAddrN Try.underlying49 ti60 rfl rfl (by repeat (first | exact Has.here | exact Has.sl_apd | exact Has.sl_own | exact Has.r_blk | exact has_note (by repeat (first | exact Has.here | exact Has.sl_apd | exact Has.sl_own | exact Has.r_blk | apply Has.there)) hlt' | apply Has.there)) (by omega) | exact v_indexAddr Try.underlying49 ti60 rfl rfl (by repeat (first | exact Has.here | exact Has.sl_apd | exact Has.sl_own | exact Has.r_blk | exact has_note (by repeat (first | exact Has.here | exact Has.sl_apd | exact Has.sl_own | exact Has.r_blk | apply Has.there)) hlt' | apply Has.there)) (by omega))) (Nat.le_of_ble_eq_true rfl) ?_
        refine o_val (v_load_p (by repeat (first | exact PEnc.int _ | exact PEnc.str | exact PEnc.bool | exact PEnc.byte | exact PEnc.raw | apply PEnc.pair | apply PEnc.map)) ⟨_, Try.underlying60⟩ ti60 rfl (by repeat (first | exact Elem.sl (List.getElem?_eq_getElem (by omega)) | exact Elem.own (List.getElem?_eq_getElem (by omega)) | apply Elem.there))) (Nat.le_of_ble_eq_true rfl) ?_
        refine o_step (s_alloc ti60 (Nat.le_of_ble_eq_true rfl) (fun b8 => ?_))
        rw [List.getElem_map]
        dsimp only [rawN, List.cons_append, List.nil_append]
        refine o_step (s_store_all ti60 rfl rfl (by first | exact CellsV.lit rfl | exact CellsV.one (by first | exact OneC.lit rfl | exact OneC.sl (by repeat (first | exact Has.here | exact Has.sl_apd | exact Has.sl_own | exact Has.r_blk | exact has_note (by repeat (first | exact Has.here | exact Has.sl_apd | exact Has.sl_own | exact Has.r_blk | apply Has.there)) hlt' | apply Has.there)))) (by repeat (first | exact OneAll.nil | (refine OneAll.cons ?_ ?_; · first | exact OneC.lit rfl | exact OneC.sl (by repeat (first | exact Has.here | exact Has.sl_apd | exact Has.sl_own | exact Has.r_blk | exact has_note (by repeat (first | exact Has.here | exact Has.sl_apd | exact Has.sl_own | exact Has.r_blk | apply Has.there)) hlt' | apply Has.there))) | exact OneAll.rd (by repeat (first | exact Has.here | exact Has.sl_apd | exact Has.sl_own | exact Has.r_blk | exact has_note (by repeat (first | exact Has.here | exact Has.sl_apd | exact Has.sl_own | exact Has.r_blk | apply Has.there)) hlt' | apply Has.there)))) rfl (by repeat (first | exact Pick.here | exact Pick.own_nil | apply Pick.there)) rfl (?_))
        refine o_nil ?_
        refine c_heldk 11 [BlkR b27 114 [.string x.2.1, u], BlkR b8 60 [.int .i64 ns[ms.length].2.1, ns[ms.length].1, .bool ns[ms.length].2.2.2]] rfl ?_
        refine k_take 0 rfl (by kernel_rfl) (by kernel_rfl) (by kernel_rfl) rfl (by kernel_rfl) (v_move rfl) (Picks.ent (by repeat (first | exact Picks.nil | (apply Picks.cons; · repeat (first | exact Pick.keep (Sl.isDup _ _ _) | exact Pick.keep (BlkR.isDup _ _ _) | exact Pick.keep (FldCell.isDup _ _) | exact Pick.here | exact Pick.own_sl | exact Pick.apd_sl | exact Pick.r_blk | exact Pick.sl_nil | exact Pick.own_nil | exact Pick.map_itO _ | apply Pick.there))))) (Nat.le_of_ble_eq_true rfl) ?_
        refine k_take 1 rfl (by kernel_rfl) (by kernel_rfl) (by kernel_rfl) rfl (by kernel_rfl) (v_move rfl) (Picks.ent (by repeat (first | exact Picks.nil | (apply Picks.cons; · repeat (first | exact Pick.keep (Sl.isDup _ _ _) | exact Pick.keep (BlkR.isDup _ _ _) | exact Pick.keep (FldCell.isDup _ _) | exact Pick.here | exact Pick.own_sl | exact Pick.apd_sl | exact Pick.r_blk | exact Pick.sl_nil | exact Pick.own_nil | exact Pick.map_itO _ | apply Pick.there))))) (Nat.le_of_ble_eq_true rfl) ?_
        refine k_take 2 rfl (by kernel_rfl) (by kernel_rfl) (by kernel_rfl) rfl (by kernel_rfl) (v_nilCheck rfl) (Picks.ent (by repeat (first | exact Picks.nil | (apply Picks.cons; · repeat (first | exact Pick.keep (Sl.isDup _ _ _) | exact Pick.keep (BlkR.isDup _ _ _) | exact Pick.keep (FldCell.isDup _ _) | exact Pick.here | exact Pick.own_sl | exact Pick.apd_sl | exact Pick.r_blk | exact Pick.sl_nil | exact Pick.own_nil | exact Pick.map_itO _ | apply Pick.there))))) (Nat.le_of_ble_eq_true rfl) ?_
        refine k_take 3 rfl (by kernel_rfl) (by kernel_rfl) (by kernel_rfl) rfl (by kernel_rfl) (v_fieldAddrC 1 Try.underlying114 rfl ti49 (by decide) rfl) (Picks.ent (by repeat (first | exact Picks.nil | (apply Picks.cons; · repeat (first | exact Pick.keep (Sl.isDup _ _ _) | exact Pick.keep (BlkR.isDup _ _ _) | exact Pick.keep (FldCell.isDup _ _) | exact Pick.here | exact Pick.own_sl | exact Pick.apd_sl | exact Pick.r_blk | exact Pick.sl_nil | exact Pick.own_nil | exact Pick.map_itO _ | apply Pick.there))))) (Nat.le_of_ble_eq_true rfl) ?_
        refine k_take 4 rfl (by kernel_rfl) (by kernel_rfl) (by kernel_rfl) rfl (by kernel_rfl) (v_load lone49 rfl (by repeat (first | exact Has.here | exact Has.sl_apd | exact Has.sl_own | exact Has.r_blk | exact has_note (by repeat (first | exact Has.here | exact Has.sl_apd | exact Has.sl_own | exact Has.r_blk | apply Has.there)) hlt' | apply Has.there)) rfl) (Picks.ent (by repeat (first | exact Picks.nil | (apply Picks.cons; · repeat (first | exact Pick.keep (Sl.isDup _ _ _) | exact Pick.keep (BlkR.isDup _ _ _) | exact Pick.keep (FldCell.isDup _ _) | exact Pick.here | exact Pick.own_sl | exact Pick.apd_sl | exact Pick.r_blk | exact Pick.sl_nil | exact Pick.own_nil | exact Pick.map_itO _ | apply Pick.there))))) (Nat.le_of_ble_eq_true rfl) ?_
        refine k_take 5 rfl (by kernel_rfl) (by kernel_rfl) (by kernel_rfl) rfl (by kernel_rfl) (v_load_all ⟨_, Try.underlying60⟩ ti60 rfl (by repeat (first | exact Has.here | exact Has.sl_apd | exact Has.sl_own | exact Has.r_blk | exact has_note (by repeat (first | exact Has.here | exact Has.sl_apd | exact Has.sl_own | exact Has.r_blk | apply Has.there)) hlt' | apply Has.there)) rfl) (Picks.ent (by repeat (first | exact Picks.nil | (apply Picks.cons; · repeat (first | exact Pick.keep (Sl.isDup _ _ _) | exact Pick.keep (BlkR.isDup _ _ _) | exact Pick.keep (FldCell.isDup _ _) | exact Pick.here | exact Pick.own_sl | exact Pick.apd_sl | exact Pick.r_blk | exact Pick.sl_nil | exact Pick.own_nil | exact Pick.map_itO _ | apply Pick.there))))) (Nat.le_of_ble_eq_true rfl) ?_
        refine k_one 6 rfl (by kernel_rfl) fun hc_ => (s_callf_keep cl86 (own_con ns[ms.length].2.1 ns[ms.length].1 ns[ms.length].2.2.2 ns[ms.length].2.2.1 hnn) rfl (Nat.le_of_ble_eq_true rfl) (by repeat (first | exact Reads.nil | refine Reads.cons (by first | exact Sl.isDup _ _ _ | exact BlkR.isDup _ _ _ | exact Rd.isDup _ _ _ | exact Pu.isDup _ | exact FldCell.isDup _ _) (by repeat (first | exact Has.here | exact Has.sl_apd | exact Has.sl_own | exact Has.r_blk | exact has_note (by repeat (first | exact Has.here | exact Has.sl_apd | exact Has.sl_own | exact Has.r_blk | apply Has.there)) hlt' | apply Has.there)) ?_)) (fun _ => by repeat (first | exact Seps.nil | (apply Seps.cons; · first | exact Blk.sep | exact ObjA.sep | exact MapA.sep | exact Pu.sep _ | (refine Own.sep ?_; repeat (first | exact eInt_pure _ | exact eStr_pure | exact eBool_pure | exact eByte_pure | exact eRaw_pure | apply ePair_pure | apply eMap_pure))))) (fun r43 _ => k_on hc_ (Picks.ent (by repeat (first | exact Picks.nil | (apply Picks.cons; · repeat (first | exact Pick.keep (Sl.isDup _ _ _) | exact Pick.keep (BlkR.isDup _ _ _) | exact Pick.keep (FldCell.isDup _ _) | exact Pick.here | exact Pick.own_sl | exact Pick.apd_sl | exact Pick.r_blk | exact Pick.sl_nil | exact Pick.own_nil | exact Pick.map_itO _ | apply Pick.there))))) ?_))
        refine k_one 7 rfl (by kernel_rfl) fun hc_ => (s_buildSlice Try.underlying49 ti60 rfl rfl rfl (by decide) (by decide) (beside_agg1 (beside_pure (e := eNr) (a := Own eStr 9 r43 ns[ms.length].2.2.1) (z := (ns[ms.length].2.1, r43, ns[ms.length].2.2.2)) (by repeat (first | exact eInt_pure _ | exact eStr_pure | exact eBool_pure | exact eByte_pure | exact eRaw_pure | apply ePair_pure | apply eMap_pure)) (by repeat (first | exact Has.here | exact Has.sl_apd | exact Has.sl_own | exact Has.r_blk | apply Has.there)) (fun w O h => raw_rd h))) rfl rfl (Nat.le_of_ble_eq_true rfl) (fun v1 => k_on hc_ (Picks.ent (by repeat (first | exact Picks.nil | (apply Picks.cons; · repeat (first | exact Pick.keep (Sl.isDup _ _ _) | exact Pick.keep (BlkR.isDup _ _ _) | exact Pick.keep (FldCell.isDup _ _) | exact Pick.here | exact Pick.own_sl | exact Pick.apd_sl | exact Pick.r_blk | exact Pick.sl_nil | exact Pick.own_nil | exact Pick.map_itO _ | apply Pick.there))))) ?_))
        have hrl : (ms.map rawN).length = ms.length := by simp
        refine k_one 8 rfl (by kernel_rfl) fun hc_ => (s_append Try.underlying49 ti60 rfl (by decide) rfl rfl (Nat.le_of_ble_eq_true rfl) (by repeat (first | exact Pick.here | exact Pick.own_nil | apply Pick.there)) (by repeat (first | exact Pick.keep (Sl.isDup _ _ _) | exact Pick.keep (BlkR.isDup _ _ _) | exact Pick.keep (FldCell.isDup _ _) | exact Pick.here | exact Pick.own_sl | exact Pick.apd_sl | exact Pick.r_blk | exact Pick.sl_nil | exact Pick.own_nil | exact Pick.map_itO _ | apply Pick.there)) rfl (by (first | omega | (simp only [maxLen, List.length_append, List.length_drop, List.length_take, List.length_nil, List.length_cons]; omega))) (by (first | omega | (simp only [maxLen, List.length_append, List.length_drop, List.length_take, List.length_nil, List.length_cons]; omega))) (fun v2 => k_on hc_ (Picks.ent (by repeat (first | exact Picks.nil | (apply Picks.cons; · repeat (first | exact Pick.keep (Sl.isDup _ _ _) | exact Pick.keep (BlkR.isDup _ _ _) | exact Pick.keep (FldCell.isDup _ _) | exact Pick.here | exact Pick.own_sl | exact Pick.apd_sl | exact Pick.r_blk | exact Pick.sl_nil | exact Pick.own_nil | exact Pick.map_itO _ | apply Pick.there))))) ?_))
        refine k_take 9 rfl (by kernel_rfl) (by kernel_rfl) (by kernel_rfl) rfl (by kernel_rfl) (v_nilCheck rfl) (Picks.ent (by repeat (first | exact Picks.nil | (apply Picks.cons; · repeat (first | exact Pick.keep (Sl.isDup _ _ _) | exact Pick.keep (BlkR.isDup _ _ _) | exact Pick.keep (FldCell.isDup _ _) | exact Pick.here | exact Pick.own_sl | exact Pick.apd_sl | exact Pick.r_blk | exact Pick.sl_nil | exact Pick.own_nil | exact Pick.map_itO _ | apply Pick.there))))) (Nat.le_of_ble_eq_true rfl) ?_
        refine k_take 10 rfl (by kernel_rfl) (by kernel_rfl) (by kernel_rfl) rfl (by kernel_rfl) (v_fieldAddrC 1 Try.underlying114 rfl ti49 (by decide) rfl) (Picks.ent (by repeat (first | exact Picks.nil | (apply Picks.cons; · repeat (first | exact Pick.keep (Sl.isDup _ _ _) | exact Pick.keep (BlkR.isDup _ _ _) | exact Pick.keep (FldCell.isDup _ _) | exact Pick.here | exact Pick.own_sl | exact Pick.apd_sl | exact Pick.r_blk | exact Pick.sl_nil | exact Pick.own_nil | exact Pick.map_itO _ | apply Pick.there))))) (Nat.le_of_ble_eq_true rfl) ?_
        refine k_one 11 rfl (by kernel_rfl) fun hc_ => (s_store1 ti49 rfl rfl (by first | exact OneC.lit rfl | exact OneC.sl (by repeat (first | exact Has.here | exact Has.sl_apd | exact Has.sl_own | exact Has.r_blk | exact has_note (by repeat (first | exact Has.here | exact Has.sl_apd | exact Has.sl_own | exact Has.r_blk | apply Has.there)) hlt' | apply Has.there))) (by repeat (first | exact Pick.here | exact Pick.own_nil | apply Pick.there)) (by first | decide | exact Nat.le_of_ble_eq_true rfl | simp) (by first | (dsimp only [List.set_cons_succ, List.set_cons_zero]; first | done | exact rfl) | rfl) (k_last hc_ (by kernel_rfl) ?_))
        refine k_done (by kernel_rfl) ?_ _
        refine c_inBlock ?_
        refine c_region ?_
        refine o_val ((by first | exact v_add64 rfl rfl (by omega) | exact v_add rfl rfl)) (Nat.le_of_ble_eq_true rfl) ?_
        refine o_val (v_move rfl) (Nat.le_of_ble_eq_true rfl) ?_
        refine o_nil ?_
        have hq : (ns[ms.length].2.1, r43, ns[ms.length].2.2.2) = rawN (r43, ns[ms.length].2) := rfl
        rw [hq, ← List.map_singleton (f := rawN), ← List.map_append]
        refine c_use (IH2 (v2, ms ++ [(r43, ns[ms.length].2)]) (by simp; omega) ⟨by simp; omega, ?_⟩) (by simp only [List.length_append, List.length_singleton]; exact (by repeat (first | exact trivial | refine ⟨rfl, ?_⟩))) ?_
        · simp only [List.length_append, List.length_singleton, List.map_append, hms, List.map_cons, List.map_nil]
          rw [List.take_succ_eq_append_getElem (by simp; omega)]
          simp
        · refine Ent.trans (Ent.trans (b := noteA (r43, ns[ms.length].2) :: AllA (ms.map noteA) :: [Own eNr 60 v2 ((ms ++ [(r43, ns[ms.length].2)]).map rawN), Blk b27 114 [.string x.2.1, v2], Own eNr 60 v (ns.map rawN), AllA (ns.map noteA), Blk b 114 [.string x.2.1, v], AllA ((ps1 ++ ps2).map wrA), MapItO kInt it16 o ((ps1 ++ (b, x) :: ps2).map entW) ((qs.map fun q : Nat × Wr => q.2.1) ++ [x.1]), Blk h 28 [.map o], Blk b11 28 [.map (some b9)], MapO kInt (some b9) (qs.map entW), AllA (qs.map wrA)]) (Picks.ent (by repeat (first | exact Picks.nil | (apply Picks.cons; · repeat (first | exact Pick.keep (Sl.isDup _ _ _) | exact Pick.keep (BlkR.isDup _ _ _) | exact Pick.keep (FldCell.isDup _ _) | exact Pick.here | exact Pick.own_sl | exact Pick.apd_sl | exact Pick.r_blk | exact Pick.sl_nil | exact Pick.own_nil | exact Pick.map_itO _ | apply Pick.there))))) note_snoc) (Picks.ent (by repeat (first | exact Picks.nil | (apply Picks.cons; · repeat (first | exact Pick.keep (Sl.isDup _ _ _) | exact Pick.keep (BlkR.isDup _ _ _) | exact Pick.keep (FldCell.isDup _ _) | exact Pick.here | exact Pick.own_sl | exact Pick.apd_sl | exact Pick.r_blk | exact Pick.sl_nil | exact Pick.own_nil | exact Pick.map_itO _ | apply Pick.there)))))
      · have hml' : ms.length = ns.length := by omega
        have hms' : ms.map (·.2) = x.2.2 := by rw [hms, hml', ← hns, List.take_of_length_le (by simp)]
        refine c_exit rfl ?_
        refine c_region ?_
        refine o_val (v_move rfl) (Nat.le_of_ble_eq_true rfl) ?_
        refine o_val (v_nilCheck rfl) (Nat.le_of_ble_eq_true rfl) ?_
        refine o_val (v_fieldAddrC 0 Try.underlying28 rfl ti26 (by decide) rfl) (Nat.le_of_ble_eq_true rfl) ?_
        refine o_val (v_load lone26 rfl (by repeat (first | exact Has.here | exact Has.sl_apd | exact Has.sl_own | exact Has.r_blk | apply Has.there)) rfl) (Nat.le_of_ble_eq_true rfl) ?_
        refine o_val (v_move rfl) (Nat.le_of_ble_eq_true rfl) ?_
        refine o_val (v_move rfl) (Nat.le_of_ble_eq_true rfl) ?_
        refine o_step (s_mapUpdate kInt Try.underlying26 Try.underlying3 kInt_sc rfl rfl rfl (by repeat (first | exact Pick.keep (Sl.isDup _ _ _) | exact Pick.keep (BlkR.isDup _ _ _) | exact Pick.keep (FldCell.isDup _ _) | exact Pick.here | exact Pick.own_sl | exact Pick.apd_sl | exact Pick.r_blk | exact Pick.sl_nil | exact Pick.own_nil | exact Pick.map_itO _ | apply Pick.there)) (?_))
        refine o_nil ?_
        refine c_inBlock ?_
        rw [upd_new (w := x) (b := b27) (fun p hpm e => hn (List.mem_map.2 ⟨p, hpm, e⟩)) rfl]
        refine c_mk (nts_mk (L := []) (v := u) hms') (by repeat (first | exact Picks.nil | (apply Picks.cons; · repeat (first | exact Pick.keep (Sl.isDup _ _ _) | exact Pick.keep (BlkR.isDup _ _ _) | exact Pick.keep (FldCell.isDup _ _) | exact Pick.here | exact Pick.own_sl | exact Pick.apd_sl | exact Pick.r_blk | exact Pick.sl_nil | exact Pick.own_nil | exact Pick.map_itO _ | apply Pick.there)))) ?_
        refine c_mk (wr_mk (L := []) (b := b27) (w := x)) (by repeat (first | exact Picks.nil | (apply Picks.cons; · repeat (first | exact Pick.keep (Sl.isDup _ _ _) | exact Pick.keep (BlkR.isDup _ _ _) | exact Pick.keep (FldCell.isDup _ _) | exact Pick.here | exact Pick.own_sl | exact Pick.apd_sl | exact Pick.r_blk | exact Pick.sl_nil | exact Pick.own_nil | exact Pick.map_itO _ | apply Pick.there)))) ?_
        refine c_mk (nts_mk (L := []) (v := v) hns) (by repeat (first | exact Picks.nil | (apply Picks.cons; · repeat (first | exact Pick.keep (Sl.isDup _ _ _) | exact Pick.keep (BlkR.isDup _ _ _) | exact Pick.keep (FldCell.isDup _ _) | exact Pick.here | exact Pick.own_sl | exact Pick.apd_sl | exact Pick.r_blk | exact Pick.sl_nil | exact Pick.own_nil | exact Pick.map_itO _ | apply Pick.there)))) ?_
        refine c_mk (wr_mk (L := []) (b := b) (w := x)) (by repeat (first | exact Picks.nil | (apply Picks.cons; · repeat (first | exact Pick.keep (Sl.isDup _ _ _) | exact Pick.keep (BlkR.isDup _ _ _) | exact Pick.keep (FldCell.isDup _ _) | exact Pick.here | exact Pick.own_sl | exact Pick.apd_sl | exact Pick.r_blk | exact Pick.sl_nil | exact Pick.own_nil | exact Pick.map_itO _ | apply Pick.there)))) ?_
        refine c_mk (push_wr (L := []) (ps1 := ps1) (ps2 := ps2) (b := b)) (by repeat (first | exact Picks.nil | (apply Picks.cons; · repeat (first | exact Pick.keep (Sl.isDup _ _ _) | exact Pick.keep (BlkR.isDup _ _ _) | exact Pick.keep (FldCell.isDup _ _) | exact Pick.here | exact Pick.own_sl | exact Pick.apd_sl | exact Pick.r_blk | exact Pick.sl_nil | exact Pick.own_nil | exact Pick.map_itO _ | apply Pick.there)))) ?_
        refine c_mk (snoc_wr (L := []) (ps := qs) (p := (b27, x))) (by repeat (first | exact Picks.nil | (apply Picks.cons; · repeat (first | exact Pick.keep (Sl.isDup _ _ _) | exact Pick.keep (BlkR.isDup _ _ _) | exact Pick.keep (FldCell.isDup _ _) | exact Pick.here | exact Pick.own_sl | exact Pick.apd_sl | exact Pick.r_blk | exact Pick.sl_nil | exact Pick.own_nil | exact Pick.map_itO _ | apply Pick.there)))) ?_
        have hnd' : ((qs ++ [(b27, x)]).map fun q : Nat × Wr => q.2.1).Nodup := by
          rw [List.map_append]
          exact List.nodup_append.2 ⟨hnd, by simp, fun a ha c hc e => hn (by rw [show c = x.1 by simpa using hc] at e; rw [← e]; exact ha)⟩
        have hsub' : ∀ q ∈ qs ++ [(b27, x)], q.2 ∈ (ps1 ++ (b, x) :: ps2).map fun p : Nat × Wr => p.2 := fun q hq => by
          rcases List.mem_append.1 hq with hq | hq
          · exact hsub q hq
          · rw [List.mem_singleton.1 hq]; simp
        have hlen := nodup_le (l := (qs ++ [(b27, x)]).map fun q : Nat × Wr => q.2.1) (r := ((ps1 ++ (b, x) :: ps2).map fun p : Nat × Wr => p.2).map fun w : Wr => w.1) hnd' fun y hy => by
          obtain ⟨q, hq, rfl⟩ := List.mem_map.1 hy
          exact List.mem_map.2 ⟨q.2, hsub' q hq, rfl⟩
        simp only [List.length_map, List.length_append, List.length_singleton] at hlen
        refine c_use (IH (qs ++ [(b27, x)]) (by simp only [List.length_append, List.length_singleton] at hlen ⊢; omega) ⟨hsub', hnd'⟩) (by repeat (first | exact trivial | refine ⟨rfl, ?_⟩)) ?_
        rw [show (qs ++ [(b27, x)]).map (fun q : Nat × Wr => q.2.1) = qs.map (fun q : Nat × Wr => q.2.1) ++ [x.1] by simp]
        exact (Picks.ent (by repeat (first | exact Picks.nil | (apply Picks.cons; · repeat (first | exact Pick.keep (Sl.isDup _ _ _) | exact Pick.keep (BlkR.isDup _ _ _) | exact Pick.keep (FldCell.isDup _ _) | exact Pick.here | exact Pick.own_sl | exact Pick.apd_sl | exact Pick.r_blk | exact Pick.sl_nil | exact Pick.own_nil | exact Pick.map_itO _ | apply Pick.there)))))
  · refine o_val (v_extract rfl rfl) (Nat.le_of_ble_eq_true rfl) ?_
    refine o_nil ?_
    refine c_seq ?_
    refine c_cond_f rfl ?_
    refine c_exit rfl ?_
    refine c_seq ?_
    refine c_region ?_
    refine o_val (v_move rfl) (Nat.le_of_ble_eq_true rfl) ?_
    refine o_val (v_assign rfl) (Nat.le_of_ble_eq_true rfl) ?_
    refine o_nil ?_
    refine c_ret1 Try.func48 rfl rfl fun w O hS => ?_
    have hperm := copy_perm hp hr hsub hnd hall
    replace hS := stars_mk (hub_mk (L := []) (h := h) hp hr) (by repeat (first | exact Picks.nil | (apply Picks.cons; · repeat (first | exact Pick.keep (Sl.isDup _ _ _) | exact Pick.keep (BlkR.isDup _ _ _) | exact Pick.keep (FldCell.isDup _ _) | exact Pick.here | exact Pick.own_sl | exact Pick.apd_sl | exact Pick.r_blk | exact Pick.sl_nil | exact Pick.own_nil | exact Pick.map_itO _ | apply Pick.there)))) hS
    replace hS := stars_mk (hub_mk (L := []) (h := b11) (ps := qs) hperm hr) (by repeat (first | exact Picks.nil | (apply Picks.cons; · repeat (first | exact Pick.keep (Sl.isDup _ _ _) | exact Pick.keep (BlkR.isDup _ _ _) | exact Pick.keep (FldCell.isDup _ _) | exact Pick.here | exact Pick.own_sl | exact Pick.apd_sl | exact Pick.r_blk | exact Pick.sl_nil | exact Pick.own_nil | exact Pick.map_itO _ | apply Pick.there)))) hS
    exact ⟨b11, rfl, trivial, Ent.get hS (Picks.ent (by repeat (first | exact Picks.nil | (apply Picks.cons; · repeat (first | exact Pick.keep (Sl.isDup _ _ _) | exact Pick.keep (BlkR.isDup _ _ _) | exact Pick.keep (FldCell.isDup _ _) | exact Pick.here | exact Pick.own_sl | exact Pick.apd_sl | exact Pick.r_blk | exact Pick.sl_nil | exact Pick.own_nil | exact Pick.map_itO _ | apply Pick.there)))))⟩
end Go.Proofs.Ytnamhhmfnokfiaa

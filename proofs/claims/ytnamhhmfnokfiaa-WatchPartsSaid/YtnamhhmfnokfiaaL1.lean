import Derived.Test.YtnamhhmfnokfiaaLS
namespace Go.Proofs.Ytnamhhmfnokfiaa
open Go Go.SL
attribute [local irreducible] Cfg Kont StepK Val Con Qops Any Sl Own Blk BlkR Rd Pu ExA AllA Has Pick Ent Elem Beside Callable TI Lone

theorem nxL_take {α : Type} {xs : List α} {i : Nat} (h : i < xs.length) : nxL xs (xs.take i) xs[i] := by
  unfold nxL
  rw [← List.take_succ_eq_append_getElem h]
  exact List.take_prefix _ _
theorem nxL_len {α : Type} {xs pre : List α} {x : α} (h : nxL xs pre x) : pre.length < xs.length := by
  have := h.length_le
  simp at this; omega
def nxK {κ : Type} (m : List (κ × Value)) (pre : List κ) (x : κ) : Prop := x ∈ m.map (fun p : κ × Value => p.1) ∧ x ∉ pre ∧ pre.Nodup ∧ ∀ y ∈ pre, y ∈ m.map fun p : κ × Value => p.1
def finK {κ : Type} (m : List (κ × Value)) (pre : List κ) : Prop := pre.Nodup ∧ (∀ y ∈ pre, y ∈ m.map fun p : κ × Value => p.1) ∧ ∀ y ∈ m.map (fun p : κ × Value => p.1), y ∈ pre
theorem ent_swap_it {κ : Type} [DecidableEq κ] {ke : KeyEnc κ} {it c : Nat} {o : Option Nat} {m : List (κ × Value)} {pre : List κ} {T : TypeId} {cs : List Value} {L : List A} : Ent (MapItO ke it o m pre :: BlkR c T cs :: L) (BlkR c T cs :: MapO ke o m :: L) :=
  Ent.trans (Pick.map_itO ke).ent (Ent.perm (List.Perm.swap _ _ _))
theorem nodup_le {κ : Type} [DecidableEq κ] : ∀ {l r : List κ}, l.Nodup → (∀ x ∈ l, x ∈ r) → l.length ≤ r.length
  | [], _, _, _ => Nat.zero_le _
  | x :: l, r, h, hs => by
    have h' := List.nodup_cons.1 h
    have hx := hs x (by simp)
    have := nodup_le (r := r.erase x) h'.2 fun y hy => (List.mem_erase_of_ne (fun e => h'.1 (by rw [← e]; exact hy))).2 (hs y (by simp [hy]))
    rw [List.length_erase_of_mem hx] at this
    have := List.length_pos_of_mem hx
    simp only [List.length_cons]; omega
theorem nxK_len {κ : Type} [DecidableEq κ] {m : List (κ × Value)} {pre : List κ} {x : κ} (h : nxK m pre x) : pre.length ≤ m.length := by
  have := nodup_le h.2.2.1 h.2.2.2; simpa using this
theorem finK_len {κ : Type} [DecidableEq κ] {m : List (κ × Value)} {pre : List κ} (h : finK m pre) : pre.length ≤ m.length := by
  have := nodup_le h.1 h.2.1; simpa using this

set_option maxRecDepth 100000 in
theorem appendSeq_I {g : FuncId} {caps : List Value} {Lg : List A} {nx : List Int → Int → Prop} {fin : List Int → Prop} (cl : Callable Try.prog g) (it : Iter Try.prog g caps Lg nx fin (fun x => [.int .i64 x])) (hb : ∀ pre x, nx pre x → pre.length ≤ 8796093022207) :
    Con Try.prog 114 [.slice none 0 0, .func (.func g) #[] caps.toArray] Lg (γ := Value × List Int) (fun r => r.1) (fun r => fin r.2) (fun r => Own (eInt .i64) 3 r.1 r.2 :: Lg) := by
  refine con_of Try.func114 rfl (Nat.le_of_ble_eq_true rfl) fun w0 O0 => ?_
  refine c_seq ?_
  refine c_region ?_
  refine o_step (s_box rfl (Nat.le_of_ble_eq_true rfl) (fun b2 => ?_))
  refine o_val (v_assign rfl) (Nat.le_of_ble_eq_true rfl) ?_
  refine o_nil ?_
  refine c_seq ?_
  refine c_seq ?_
  refine c_region ?_
  refine o_val (v_move rfl) (Nat.le_of_ble_eq_true rfl) ?_
  refine o_nil ?_
  refine c_block ?_
  refine c_ent (Ent.beside (b := Own (eInt .i64) 3 (.slice none 0 0) ([] : List Int)) (fun w O _ => Own.nil (eInt .i64) 3 w _)) ?_
  refine c_rangeFunc (fun pre => [ExA fun u : Value => AllA [Blk b2 35 [u], Own (eInt .i64) 3 u pre]]) (fun _ => [Pu False]) ([]) (it) cl rfl (by refine Ent.trans ?_ Ent.last; exact Pick.ent (Pick.ex (Value.slice none 0 0) (Pick.all (by repeat (first | exact Picks.nil | (apply Picks.cons; · repeat (first | exact Pick.keep (Sl.isDup _ _ _) | exact Pick.keep (BlkR.isDup _ _ _) | exact Pick.keep (FldCell.isDup _ _) | exact Pick.here | exact Pick.own_sl | exact Pick.apd_sl | exact Pick.r_blk | exact Pick.sl_nil | exact Pick.own_nil | exact Pick.map_itO _ | apply Pick.there))))))) rfl (fun _ => rfl) (fun l r pre x w1 O1 hr hx => ?_) (fun D pre hfin => ?_) (fun D j => ?_)
  · refine c_ent (Ent.perm (List.Perm.swap _ _ _)) ?_
    refine c_ex fun u => c_all ?_
    have hlen := hb pre x hx
    refine c_region ?_
    refine o_val (v_assign rfl) (Nat.le_of_ble_eq_true rfl) ?_
    refine o_nil ?_
    refine c_beginRound (by repeat (first | exact Pick.keep (Sl.isDup _ _ _) | exact Pick.keep (BlkR.isDup _ _ _) | exact Pick.keep (FldCell.isDup _ _) | exact Pick.here | exact Pick.own_sl | exact Pick.apd_sl | exact Pick.r_blk | exact Pick.sl_nil | exact Pick.own_nil | exact Pick.map_itO _ | apply Pick.there)) ‹_› ?_
    refine c_block ?_
    refine c_region ?_
    refine o_val (v_load lone35 rfl (by repeat (first | exact Has.here | exact Has.sl_apd | exact Has.sl_own | exact Has.r_blk | apply Has.there)) rfl) (Nat.le_of_ble_eq_true rfl) ?_
    refine o_val (v_move rfl) (Nat.le_of_ble_eq_true rfl) ?_
    refine o_step (s_buildSlice Try.underlying35 ti3 rfl rfl rfl (by decide) (by decide) (beside_int .i64 [x]) rfl rfl (Nat.le_of_ble_eq_true rfl) fun v1 => ?_)
    refine o_step (s_append Try.underlying35 ti3 rfl (by decide) rfl rfl (Nat.le_of_ble_eq_true rfl) (by repeat (first | exact Pick.here | exact Pick.own_nil | apply Pick.there)) (by repeat (first | exact Pick.keep (Sl.isDup _ _ _) | exact Pick.keep (BlkR.isDup _ _ _) | exact Pick.keep (FldCell.isDup _ _) | exact Pick.here | exact Pick.own_sl | exact Pick.apd_sl | exact Pick.r_blk | exact Pick.sl_nil | exact Pick.own_nil | exact Pick.map_itO _ | apply Pick.there)) rfl (by (first | omega | (simp only [maxLen, List.length_append, List.length_drop, List.length_take, List.length_nil, List.length_cons]; omega))) (by (first | omega | (simp only [maxLen, List.length_append, List.length_drop, List.length_take, List.length_nil, List.length_cons]; omega))) fun v2 => ?_)
    refine o_step (s_store1 ti35 rfl rfl (by first | exact OneC.lit rfl | exact OneC.sl (by repeat (first | exact Has.here | exact Has.sl_apd | exact Has.sl_own | exact Has.r_blk | apply Has.there))) (by repeat (first | exact Pick.here | exact Pick.own_nil | apply Pick.there)) (by first | decide | exact Nat.le_of_ble_eq_true rfl | simp) (by first | (dsimp only [List.set_cons_succ, List.set_cons_zero]; first | done | exact rfl) | rfl) (?_))
    refine o_nil ?_
    refine c_inBlock ?_
    refine c_roundEnd fun w O hS => ?_
    exact .inl ⟨rfl, Ent.get hS (Picks.ent (Picks.cons (by repeat (first | exact Pick.keep (Sl.isDup _ _ _) | exact Pick.keep (BlkR.isDup _ _ _) | exact Pick.keep (FldCell.isDup _ _) | exact Pick.here | exact Pick.own_sl | exact Pick.apd_sl | exact Pick.r_blk | exact Pick.sl_nil | exact Pick.own_nil | exact Pick.map_itO _ | apply Pick.there)) (Picks.cons (Pick.ex v2 (Pick.all (by repeat (first | exact Picks.nil | (apply Picks.cons; · repeat (first | exact Pick.keep (Sl.isDup _ _ _) | exact Pick.keep (BlkR.isDup _ _ _) | exact Pick.keep (FldCell.isDup _ _) | exact Pick.here | exact Pick.own_sl | exact Pick.apd_sl | exact Pick.r_blk | exact Pick.sl_nil | exact Pick.own_nil | exact Pick.map_itO _ | apply Pick.there)))))) Picks.nil)))⟩
  · skip
    refine c_ent (L' := (ExA fun u : Value => AllA [Blk b2 35 [u], Own (eInt .i64) 3 u pre]) :: ObjA D (.deferred (some [])) :: Lg) (Ent.perm (by
      rw [List.append_nil]
      exact List.Perm.trans (List.Perm.cons _ (List.perm_append_singleton _ _)) (List.Perm.swap _ _ _))) ?_
    refine c_ex fun u => c_all ?_
    refine c_inBlock ?_
    refine c_seq ?_
    refine c_region ?_
    refine o_val (v_load lone35 rfl (by repeat (first | exact Has.here | exact Has.sl_apd | exact Has.sl_own | exact Has.r_blk | apply Has.there)) rfl) (Nat.le_of_ble_eq_true rfl) ?_
    refine o_val (v_assign rfl) (Nat.le_of_ble_eq_true rfl) ?_
    refine o_nil ?_
    refine c_retm1 Try.func114 rfl rfl (by repeat (first | exact Pick.keep (Sl.isDup _ _ _) | exact Pick.keep (BlkR.isDup _ _ _) | exact Pick.keep (FldCell.isDup _ _) | exact Pick.here | exact Pick.own_sl | exact Pick.apd_sl | exact Pick.r_blk | exact Pick.sl_nil | exact Pick.own_nil | exact Pick.map_itO _ | apply Pick.there)) fun w O hS => ?_
    exact ⟨(u, pre), rfl, hfin, Ent.get hS Ent.drop⟩
  · skip
    exact c_never (Has.mem (by simp))
set_option maxRecDepth 100000 in
theorem collect_I {g : FuncId} {caps : List Value} {Lg : List A} {nx : List Int → Int → Prop} {fin : List Int → Prop} (cl : Callable Try.prog g) (it : Iter Try.prog g caps Lg nx fin (fun x => [.int .i64 x])) (hb : ∀ pre x, nx pre x → pre.length ≤ 8796093022207) :
    Con Try.prog 87 [.func (.func g) #[] caps.toArray] Lg (γ := Value × List Int) (fun r => r.1) (fun r => fin r.2) (fun r => Own (eInt .i64) 3 r.1 r.2 :: Lg) := by
  refine con_of Try.func87 rfl (Nat.le_of_ble_eq_true rfl) fun w0 O0 => ?_
  refine c_seq ?_
  refine c_region ?_
  refine o_val (v_assign rfl) (Nat.le_of_ble_eq_true rfl) ?_
  refine o_nil ?_
  refine c_seq ?_
  refine c_region ?_
  refine o_val (v_move rfl) (Nat.le_of_ble_eq_true rfl) ?_
  refine o_step (s_callf cl114 (appendSeq_I cl it hb) rfl (Nat.le_of_ble_eq_true rfl) (picks_self Lg) fun r hr => ?_)
  refine o_val (v_assign rfl) (Nat.le_of_ble_eq_true rfl) ?_
  refine o_nil ?_
  refine c_ret1 Try.func87 rfl rfl fun w O hS => ?_
  exact ⟨r, rfl, hr, by rw [List.append_nil] at hS; exact hS⟩
set_option maxRecDepth 100000 in
theorem sorted_I {g : FuncId} {caps : List Value} {Lg : List A} {nx : List Int → Int → Prop} {fin : List Int → Prop} (cl : Callable Try.prog g) (it : Iter Try.prog g caps Lg nx fin (fun x => [.int .i64 x])) (hb : ∀ pre x, nx pre x → pre.length ≤ 8796093022207) (hf : ∀ pre, fin pre → pre.length < 4611686018427387904) :
    Con Try.prog 53 [.func (.func g) #[] caps.toArray] Lg (γ := Value × List Int) (fun r => r.1) (fun r => ∃ pre, fin pre ∧ r.2 = sortI pre) (fun r => Own (eInt .i64) 3 r.1 r.2 :: Lg) := by
  refine con_of Try.func53 rfl (Nat.le_of_ble_eq_true rfl) fun w0 O0 => ?_
  refine c_seq ?_
  refine c_region ?_
  refine o_val (v_assign rfl) (Nat.le_of_ble_eq_true rfl) ?_
  refine o_nil ?_
  refine c_seq ?_
  refine c_region ?_
  refine o_val (v_move rfl) (Nat.le_of_ble_eq_true rfl) ?_
  refine o_step (s_callf cl87 (collect_I cl it hb) rfl (Nat.le_of_ble_eq_true rfl) (picks_self Lg) fun r hr => ?_)
  refine o_val (v_assign rfl) (Nat.le_of_ble_eq_true rfl) ?_
  refine o_nil ?_
  refine c_seq ?_
  refine c_region ?_
  refine o_val (v_move rfl) (Nat.le_of_ble_eq_true rfl) ?_
  refine o_step (s_callf cl79 (sort_int r.1 r.2 (hf _ hr)) rfl (Nat.le_of_ble_eq_true rfl) (by repeat (first | exact Picks.nil | (apply Picks.cons; · repeat (first | exact Pick.keep (Sl.isDup _ _ _) | exact Pick.keep (BlkR.isDup _ _ _) | exact Pick.keep (FldCell.isDup _ _) | exact Pick.here | exact Pick.own_sl | exact Pick.apd_sl | exact Pick.r_blk | exact Pick.sl_nil | exact Pick.own_nil | exact Pick.map_itO _ | apply Pick.there)))) fun _ _ => ?_)
  refine o_nil ?_
  refine c_seq ?_
  refine c_region ?_
  refine o_val (v_move rfl) (Nat.le_of_ble_eq_true rfl) ?_
  refine o_val (v_assign rfl) (Nat.le_of_ble_eq_true rfl) ?_
  refine o_nil ?_
  refine c_ret1 Try.func53 rfl rfl fun w O hS => ?_
  exact ⟨(r.1, sortI r.2), rfl, ⟨r.2, hr, rfl⟩, by simpa using hS⟩
set_option maxRecDepth 100000 in
theorem appendSeq_S {g : FuncId} {caps : List Value} {Lg : List A} {nx : List ByteArray → ByteArray → Prop} {fin : List ByteArray → Prop} (cl : Callable Try.prog g) (it : Iter Try.prog g caps Lg nx fin (fun x => [.string x])) (hb : ∀ pre x, nx pre x → pre.length ≤ 8796093022207) :
    Con Try.prog 118 [.slice none 0 0, .func (.func g) #[] caps.toArray] Lg (γ := Value × List ByteArray) (fun r => r.1) (fun r => fin r.2) (fun r => Own eStr 9 r.1 r.2 :: Lg) := by
  refine con_of Try.func118 rfl (Nat.le_of_ble_eq_true rfl) fun w0 O0 => ?_
  refine c_seq ?_
  refine c_region ?_
  refine o_step (s_box rfl (Nat.le_of_ble_eq_true rfl) (fun b2 => ?_))
  refine o_val (v_assign rfl) (Nat.le_of_ble_eq_true rfl) ?_
  refine o_nil ?_
  refine c_seq ?_
  refine c_seq ?_
  refine c_region ?_
  refine o_val (v_move rfl) (Nat.le_of_ble_eq_true rfl) ?_
  refine o_nil ?_
  refine c_block ?_
  refine c_ent (Ent.beside (b := Own eStr 9 (.slice none 0 0) ([] : List ByteArray)) (fun w O _ => Own.nil eStr 9 w _)) ?_
  refine c_rangeFunc (fun pre => [ExA fun u : Value => AllA [Blk b2 30 [u], Own eStr 9 u pre]]) (fun _ => [Pu False]) ([]) (it) cl rfl (by refine Ent.trans ?_ Ent.last; exact Pick.ent (Pick.ex (Value.slice none 0 0) (Pick.all (by repeat (first | exact Picks.nil | (apply Picks.cons; · repeat (first | exact Pick.keep (Sl.isDup _ _ _) | exact Pick.keep (BlkR.isDup _ _ _) | exact Pick.keep (FldCell.isDup _ _) | exact Pick.here | exact Pick.own_sl | exact Pick.apd_sl | exact Pick.r_blk | exact Pick.sl_nil | exact Pick.own_nil | exact Pick.map_itO _ | apply Pick.there))))))) rfl (fun _ => rfl) (fun l r pre x w1 O1 hr hx => ?_) (fun D pre hfin => ?_) (fun D j => ?_)
  · refine c_ent (Ent.perm (List.Perm.swap _ _ _)) ?_
    refine c_ex fun u => c_all ?_
    have hlen := hb pre x hx
    refine c_region ?_
    refine o_val (v_assign rfl) (Nat.le_of_ble_eq_true rfl) ?_
    refine o_nil ?_
    refine c_beginRound (by repeat (first | exact Pick.keep (Sl.isDup _ _ _) | exact Pick.keep (BlkR.isDup _ _ _) | exact Pick.keep (FldCell.isDup _ _) | exact Pick.here | exact Pick.own_sl | exact Pick.apd_sl | exact Pick.r_blk | exact Pick.sl_nil | exact Pick.own_nil | exact Pick.map_itO _ | apply Pick.there)) ‹_› ?_
    refine c_block ?_
    refine c_region ?_
    refine o_val (v_load lone30 rfl (by repeat (first | exact Has.here | exact Has.sl_apd | exact Has.sl_own | exact Has.r_blk | apply Has.there)) rfl) (Nat.le_of_ble_eq_true rfl) ?_
    refine o_val (v_move rfl) (Nat.le_of_ble_eq_true rfl) ?_
    refine o_step (s_buildSlice Try.underlying30 ti9 rfl rfl rfl (by decide) (by decide) (beside_str [x]) rfl rfl (Nat.le_of_ble_eq_true rfl) fun v1 => ?_)
    refine o_step (s_append Try.underlying30 ti9 rfl (by decide) rfl rfl (Nat.le_of_ble_eq_true rfl) (by repeat (first | exact Pick.here | exact Pick.own_nil | apply Pick.there)) (by repeat (first | exact Pick.keep (Sl.isDup _ _ _) | exact Pick.keep (BlkR.isDup _ _ _) | exact Pick.keep (FldCell.isDup _ _) | exact Pick.here | exact Pick.own_sl | exact Pick.apd_sl | exact Pick.r_blk | exact Pick.sl_nil | exact Pick.own_nil | exact Pick.map_itO _ | apply Pick.there)) rfl (by (first | omega | (simp only [maxLen, List.length_append, List.length_drop, List.length_take, List.length_nil, List.length_cons]; omega))) (by (first | omega | (simp only [maxLen, List.length_append, List.length_drop, List.length_take, List.length_nil, List.length_cons]; omega))) fun v2 => ?_)
    refine o_step (s_store1 ti30 rfl rfl (by first | exact OneC.lit rfl | exact OneC.sl (by repeat (first | exact Has.here | exact Has.sl_apd | exact Has.sl_own | exact Has.r_blk | apply Has.there))) (by repeat (first | exact Pick.here | exact Pick.own_nil | apply Pick.there)) (by first | decide | exact Nat.le_of_ble_eq_true rfl | simp) (by first | (dsimp only [List.set_cons_succ, List.set_cons_zero]; first | done | exact rfl) | rfl) (?_))
    refine o_nil ?_
    refine c_inBlock ?_
    refine c_roundEnd fun w O hS => ?_
    exact .inl ⟨rfl, Ent.get hS (Picks.ent (Picks.cons (by repeat (first | exact Pick.keep (Sl.isDup _ _ _) | exact Pick.keep (BlkR.isDup _ _ _) | exact Pick.keep (FldCell.isDup _ _) | exact Pick.here | exact Pick.own_sl | exact Pick.apd_sl | exact Pick.r_blk | exact Pick.sl_nil | exact Pick.own_nil | exact Pick.map_itO _ | apply Pick.there)) (Picks.cons (Pick.ex v2 (Pick.all (by repeat (first | exact Picks.nil | (apply Picks.cons; · repeat (first | exact Pick.keep (Sl.isDup _ _ _) | exact Pick.keep (BlkR.isDup _ _ _) | exact Pick.keep (FldCell.isDup _ _) | exact Pick.here | exact Pick.own_sl | exact Pick.apd_sl | exact Pick.r_blk | exact Pick.sl_nil | exact Pick.own_nil | exact Pick.map_itO _ | apply Pick.there)))))) Picks.nil)))⟩
  · skip
    refine c_ent (L' := (ExA fun u : Value => AllA [Blk b2 30 [u], Own eStr 9 u pre]) :: ObjA D (.deferred (some [])) :: Lg) (Ent.perm (by
      rw [List.append_nil]
      exact List.Perm.trans (List.Perm.cons _ (List.perm_append_singleton _ _)) (List.Perm.swap _ _ _))) ?_
    refine c_ex fun u => c_all ?_
    refine c_inBlock ?_
    refine c_seq ?_
    refine c_region ?_
    refine o_val (v_load lone30 rfl (by repeat (first | exact Has.here | exact Has.sl_apd | exact Has.sl_own | exact Has.r_blk | apply Has.there)) rfl) (Nat.le_of_ble_eq_true rfl) ?_
    refine o_val (v_assign rfl) (Nat.le_of_ble_eq_true rfl) ?_
    refine o_nil ?_
    refine c_retm1 Try.func118 rfl rfl (by repeat (first | exact Pick.keep (Sl.isDup _ _ _) | exact Pick.keep (BlkR.isDup _ _ _) | exact Pick.keep (FldCell.isDup _ _) | exact Pick.here | exact Pick.own_sl | exact Pick.apd_sl | exact Pick.r_blk | exact Pick.sl_nil | exact Pick.own_nil | exact Pick.map_itO _ | apply Pick.there)) fun w O hS => ?_
    exact ⟨(u, pre), rfl, hfin, Ent.get hS Ent.drop⟩
  · skip
    exact c_never (Has.mem (by simp))
set_option maxRecDepth 100000 in
theorem collect_S {g : FuncId} {caps : List Value} {Lg : List A} {nx : List ByteArray → ByteArray → Prop} {fin : List ByteArray → Prop} (cl : Callable Try.prog g) (it : Iter Try.prog g caps Lg nx fin (fun x => [.string x])) (hb : ∀ pre x, nx pre x → pre.length ≤ 8796093022207) :
    Con Try.prog 107 [.func (.func g) #[] caps.toArray] Lg (γ := Value × List ByteArray) (fun r => r.1) (fun r => fin r.2) (fun r => Own eStr 9 r.1 r.2 :: Lg) := by
  refine con_of Try.func107 rfl (Nat.le_of_ble_eq_true rfl) fun w0 O0 => ?_
  refine c_seq ?_
  refine c_region ?_
  refine o_val (v_assign rfl) (Nat.le_of_ble_eq_true rfl) ?_
  refine o_nil ?_
  refine c_seq ?_
  refine c_region ?_
  refine o_val (v_move rfl) (Nat.le_of_ble_eq_true rfl) ?_
  refine o_step (s_callf cl118 (appendSeq_S cl it hb) rfl (Nat.le_of_ble_eq_true rfl) (picks_self Lg) fun r hr => ?_)
  refine o_val (v_assign rfl) (Nat.le_of_ble_eq_true rfl) ?_
  refine o_nil ?_
  refine c_ret1 Try.func107 rfl rfl fun w O hS => ?_
  exact ⟨r, rfl, hr, by rw [List.append_nil] at hS; exact hS⟩
set_option maxRecDepth 100000 in
theorem sorted_S {g : FuncId} {caps : List Value} {Lg : List A} {nx : List ByteArray → ByteArray → Prop} {fin : List ByteArray → Prop} (cl : Callable Try.prog g) (it : Iter Try.prog g caps Lg nx fin (fun x => [.string x])) (hb : ∀ pre x, nx pre x → pre.length ≤ 8796093022207) (hf : ∀ pre, fin pre → pre.length < 4611686018427387904) :
    Con Try.prog 75 [.func (.func g) #[] caps.toArray] Lg (γ := Value × List ByteArray) (fun r => r.1) (fun r => ∃ pre, fin pre ∧ r.2 = sortS pre) (fun r => Own eStr 9 r.1 r.2 :: Lg) := by
  refine con_of Try.func75 rfl (Nat.le_of_ble_eq_true rfl) fun w0 O0 => ?_
  refine c_seq ?_
  refine c_region ?_
  refine o_val (v_assign rfl) (Nat.le_of_ble_eq_true rfl) ?_
  refine o_nil ?_
  refine c_seq ?_
  refine c_region ?_
  refine o_val (v_move rfl) (Nat.le_of_ble_eq_true rfl) ?_
  refine o_step (s_callf cl107 (collect_S cl it hb) rfl (Nat.le_of_ble_eq_true rfl) (picks_self Lg) fun r hr => ?_)
  refine o_val (v_assign rfl) (Nat.le_of_ble_eq_true rfl) ?_
  refine o_nil ?_
  refine c_seq ?_
  refine c_region ?_
  refine o_val (v_move rfl) (Nat.le_of_ble_eq_true rfl) ?_
  refine o_step (s_callf cl108 (sort_str r.1 r.2 (hf _ hr)) rfl (Nat.le_of_ble_eq_true rfl) (by repeat (first | exact Picks.nil | (apply Picks.cons; · repeat (first | exact Pick.keep (Sl.isDup _ _ _) | exact Pick.keep (BlkR.isDup _ _ _) | exact Pick.keep (FldCell.isDup _ _) | exact Pick.here | exact Pick.own_sl | exact Pick.apd_sl | exact Pick.r_blk | exact Pick.sl_nil | exact Pick.own_nil | exact Pick.map_itO _ | apply Pick.there)))) fun _ _ => ?_)
  refine o_nil ?_
  refine c_seq ?_
  refine c_region ?_
  refine o_val (v_move rfl) (Nat.le_of_ble_eq_true rfl) ?_
  refine o_val (v_assign rfl) (Nat.le_of_ble_eq_true rfl) ?_
  refine o_nil ?_
  refine c_ret1 Try.func75 rfl rfl fun w O hS => ?_
  exact ⟨(r.1, sortS r.2), rfl, ⟨r.2, hr, rfl⟩, by simpa using hS⟩

set_option maxRecDepth 100000 in
theorem values_iter (c : Nat) (v : Value) (xs : List ByteArray) (hx : xs.length ≤ 9223372036854775807) : Iter Try.prog 115 [.pointer (some ⟨c, 0, none⟩)] [BlkR c 30 [v], Sl eStr v xs] (nxL xs) (finL xs) (fun s => [.string s]) := by
  intro l I Z hy
  refine con_of Try.func115 rfl (Nat.le_of_ble_eq_true rfl) fun w0 O0 => ?_
  refine c_seq ?_
  refine c_region ?_
  refine o_val (v_load lone30 rfl (by repeat (first | exact Has.here | exact Has.sl_apd | exact Has.sl_own | exact Has.r_blk | apply Has.there)) rfl) (Nat.le_of_ble_eq_true rfl) ?_
  refine o_val ((by first | exact v_len_form Try.underlying30 rfl | exact v_len_sl Try.underlying30 rfl (by repeat (first | exact Has.here | exact Has.sl_apd | exact Has.sl_own | exact Has.r_blk | apply Has.there)))) (Nat.le_of_ble_eq_true rfl) ?_
  refine o_val (v_move rfl) (Nat.le_of_ble_eq_true rfl) ?_
  refine o_nil ?_
  refine c_block ?_
  refine c_loop (γ := Nat) (fun i => xs.length - i) (fun i => i ≤ xs.length) (fun i => [(7, .int .i64 i), (6, .int .i64 xs.length), (5, v), (0, .func (.yield l) #[] #[])]) (fun i => BlkR c 30 [v] :: Sl eStr v xs :: I (xs.take i)) 0 (Nat.zero_le _) ⟨rfl, rfl, rfl, rfl, trivial⟩ (Ent.refl _) ?_
  intro i hi IH
  try dsimp only [List.cons_append, List.nil_append]
  refine c_seq ?_
  refine c_region ?_
  refine o_val (v_lt rfl rfl) (Nat.le_of_ble_eq_true rfl) ?_
  refine o_nil ?_
  refine c_seq ?_
  refine c_cond_p rfl (fun hlt => ?_) (fun hlt => ?_)
  · refine c_skip ?_
    refine c_seq ?_
    refine c_block ?_
    refine c_seq ?_
    refine c_region ?_
    refine o_val ((by first | exact v_indexAddrN Try.underlying30 ti9 rfl rfl (by repeat (first | exact Has.here | exact Has.sl_apd | exact Has.sl_own | exact Has.r_blk | apply Has.there)) (by omega) | exact v_indexAddr Try.underlying30 ti9 rfl rfl (by repeat (first | exact Has.here | exact Has.sl_apd | exact Has.sl_own | exact Has.r_blk | apply Has.there)) (by omega))) (Nat.le_of_ble_eq_true rfl) ?_
    refine o_val (v_load_str lone9 rfl (by repeat (first | exact Elem.sl (List.getElem?_eq_getElem (by omega)) | exact Elem.own (List.getElem?_eq_getElem (by omega)) | apply Elem.there))) (Nat.le_of_ble_eq_true rfl) ?_
    refine o_val (v_assign rfl) (Nat.le_of_ble_eq_true rfl) ?_
    refine o_nil ?_
    refine c_seq ?_
    refine c_region ?_
    refine o_val (v_move rfl) (Nat.le_of_ble_eq_true rfl) ?_
    refine o_val (v_move rfl) (Nat.le_of_ble_eq_true rfl) ?_
    refine o_yield (hy (xs.take i) (xs[i]'(by omega)) (nxL_take (by omega))) (Lr := [BlkR c 30 [v], Sl eStr v xs]) rfl rfl (Nat.le_of_ble_eq_true rfl) (by exact Ent.perm (List.perm_append_comm (l₁ := [BlkR c 30 [v], Sl eStr v xs]))) ?_ ?_
    · refine o_val (v_not rfl) (Nat.le_of_ble_eq_true rfl) ?_
      refine o_nil ?_
      refine c_cond_f rfl ?_
      refine c_skip ?_
      refine c_inBlock ?_
      refine c_region ?_
      refine o_val ((by first | exact v_add64 rfl rfl (by omega) | exact v_add rfl rfl)) (Nat.le_of_ble_eq_true rfl) ?_
      refine o_val (v_move rfl) (Nat.le_of_ble_eq_true rfl) ?_
      refine o_nil ?_
      refine c_use (IH (i + 1) (by omega) (by omega)) ⟨rfl, rfl, rfl, rfl, trivial⟩ ?_
      rw [List.take_succ_eq_append_getElem (by omega)]
      exact Ent.perm (List.perm_append_comm (l₂ := [BlkR c 30 [v], Sl eStr v xs]))
    · refine o_val (v_not rfl) (Nat.le_of_ble_eq_true rfl) ?_
      refine o_nil ?_
      refine c_cond_t rfl ?_
      refine c_ret0 Try.func115 rfl fun w O hS => ?_
      refine ⟨none, rfl, (fun _ h => by cases h), Ent.get hS ?_⟩
      exact Ent.perm (List.perm_append_comm (l₂ := [BlkR c 30 [v], Sl eStr v xs]))
  · refine c_exit rfl ?_
    refine c_end0 Try.func115 rfl fun w O hS => ?_
    rw [List.take_of_length_le (by omega)] at hS
    exact ⟨some xs, rfl, (fun pre h => by cases h; rfl), hS⟩

set_option maxRecDepth 100000 in
theorem keysIter_W (c : Nat) (o : Option Nat) (m : List (Int × Value)) : Iter Try.prog 88 [.pointer (some ⟨c, 0, none⟩)] [BlkR c 26 [.map o], MapO kInt o m] (nxK m) (finK m) (fun s => [.int .i64 s]) := by
  intro l I Z hy
  refine con_of Try.func88 rfl (Nat.le_of_ble_eq_true rfl) fun w0 O0 => ?_
  refine c_seq ?_
  refine c_region ?_
  refine o_val (v_load lone26 rfl (by repeat (first | exact Has.here | exact Has.sl_apd | exact Has.sl_own | exact Has.r_blk | apply Has.there)) rfl) (Nat.le_of_ble_eq_true rfl) ?_
  refine o_step (s_range_mapO kInt Try.underlying26 rfl (Nat.le_of_ble_eq_true rfl) (by repeat (first | exact Pick.keep (Sl.isDup _ _ _) | exact Pick.keep (BlkR.isDup _ _ _) | exact Pick.keep (FldCell.isDup _ _) | exact Pick.here | exact Pick.own_sl | exact Pick.apd_sl | exact Pick.r_blk | exact Pick.sl_nil | exact Pick.own_nil | exact Pick.map_itO _ | apply Pick.there)) (fun it5 => ?_))
  refine o_nil ?_
  refine c_block ?_
  refine c_loop (γ := List Int) (fun pre => m.length - pre.length) (fun pre => pre.Nodup ∧ ∀ y ∈ pre, y ∈ m.map fun p : Int × Value => p.1) (fun _ => [(5, .pointer (some ⟨it5, 0, none⟩)), (0, .func (.yield l) #[] #[])]) (fun pre => MapItO kInt it5 o m pre :: BlkR c 26 [.map o] :: I pre) [] ⟨by simp, by simp⟩ ⟨rfl, rfl, trivial⟩ (Ent.refl _) ?_
  intro pre ⟨hnd, hsub⟩ IH
  try dsimp only [List.cons_append, List.nil_append]
  refine c_seq ?_
  refine c_region ?_
  refine o_step (s_nextO kInt rfl (Nat.le_of_ble_eq_true rfl) (by repeat (first | exact Pick.keep (Sl.isDup _ _ _) | exact Pick.keep (BlkR.isDup _ _ _) | exact Pick.keep (FldCell.isDup _ _) | exact Pick.here | exact Pick.own_sl | exact Pick.apd_sl | exact Pick.r_blk | exact Pick.sl_nil | exact Pick.own_nil | exact Pick.map_itO _ | apply Pick.there)) (fun k v hk hn => ?_) (fun hall => ?_))
  · have hkm : k ∈ m.map fun p : Int × Value => p.1 := List.mem_map.2 ⟨_, hk, rfl⟩
    have hnd' : (pre ++ [k]).Nodup := List.nodup_append.2 ⟨hnd, by simp, fun a ha b hb e => hn (by rw [List.mem_singleton.1 hb] at e; rw [← e]; exact ha)⟩
    have hsub' : ∀ y ∈ pre ++ [k], y ∈ m.map fun p : Int × Value => p.1 := fun y hy => by
      rcases List.mem_append.1 hy with h | h
      · exact hsub y h
      · rw [List.mem_singleton.1 h]; exact hkm
    have hlen := nodup_le hnd' hsub'
    simp only [List.length_append, List.length_singleton, List.length_map] at hlen
    refine o_val (v_extract rfl rfl) (Nat.le_of_ble_eq_true rfl) ?_
    refine o_nil ?_
    refine c_seq ?_
    refine c_cond_t rfl ?_
    refine c_skip ?_
    refine c_block ?_
    refine c_seq ?_
    refine c_region ?_
    refine o_val (v_entryO kInt rfl hk (by repeat (first | exact Has.here | exact Has.sl_apd | exact Has.sl_own | exact Has.r_blk | apply Has.there))) (Nat.le_of_ble_eq_true rfl) ?_
    refine o_val (v_extract rfl rfl) (Nat.le_of_ble_eq_true rfl) ?_
    refine o_val (v_assign rfl) (Nat.le_of_ble_eq_true rfl) ?_
    refine o_nil ?_
    refine c_seq ?_
    refine c_region ?_
    refine o_val (v_move rfl) (Nat.le_of_ble_eq_true rfl) ?_
    refine o_val (v_move rfl) (Nat.le_of_ble_eq_true rfl) ?_
    refine o_yield (hy pre k ⟨hkm, hn, hnd, hsub⟩) (Lr := [MapItO kInt it5 o m (pre ++ [k]), BlkR c 26 [.map o]]) rfl rfl (Nat.le_of_ble_eq_true rfl) (by exact Ent.perm (List.perm_append_comm (l₁ := [MapItO kInt it5 o m (pre ++ [k]), BlkR c 26 [.map o]]))) ?_ ?_
    · refine o_val (v_not rfl) (Nat.le_of_ble_eq_true rfl) ?_
      refine o_nil ?_
      refine c_cond_f rfl ?_
      refine c_skip ?_
      refine c_inBlock ?_
      refine c_use (IH (pre ++ [k]) (by simp only [List.length_append, List.length_singleton]; omega) ⟨hnd', hsub'⟩) ⟨rfl, rfl, trivial⟩ ?_
      exact Ent.perm (List.perm_append_comm (l₂ := [MapItO kInt it5 o m (pre ++ [k]), BlkR c 26 [.map o]]))
    · refine o_val (v_not rfl) (Nat.le_of_ble_eq_true rfl) ?_
      refine o_nil ?_
      refine c_cond_t rfl ?_
      refine c_ret0 Try.func88 rfl fun w O hS => ?_
      refine ⟨none, rfl, (fun _ h => by cases h), Ent.get (Ent.get hS (Ent.perm (List.perm_append_comm (l₂ := [MapItO kInt it5 o m (pre ++ [k]), BlkR c 26 [.map o]])))) ?_⟩
      exact (ent_swap_it : Ent (MapItO kInt it5 o m (pre ++ [k]) :: BlkR c 26 [.map o] :: Z) (BlkR c 26 [.map o] :: MapO kInt o m :: Z))
  · refine o_val (v_extract rfl rfl) (Nat.le_of_ble_eq_true rfl) ?_
    refine o_nil ?_
    refine c_seq ?_
    refine c_cond_f rfl ?_
    refine c_exit rfl ?_
    refine c_end0 Try.func88 rfl fun w O hS => ?_
    exact ⟨some pre, rfl, (fun q h => by cases h; exact ⟨hnd, hsub, hall⟩), Ent.get hS (ent_swap_it : Ent (MapItO kInt it5 o m pre :: BlkR c 26 [.map o] :: I pre) (BlkR c 26 [.map o] :: MapO kInt o m :: I pre))⟩
set_option maxRecDepth 100000 in
theorem keys_W (o : Option Nat) : Con Try.prog 54 [.map o] [] (γ := Nat) (fun c => .func (.func 88) #[] #[.pointer (some ⟨c, 0, none⟩)]) (fun _ => True) (fun c => [Blk c 26 [.map o]]) := by
  refine con_of Try.func54 rfl (Nat.le_of_ble_eq_true rfl) fun w0 O0 => ?_
  refine c_seq ?_
  refine c_region ?_
  refine o_step (s_box rfl (Nat.le_of_ble_eq_true rfl) (fun b1 => ?_))
  refine o_val (v_assign rfl) (Nat.le_of_ble_eq_true rfl) ?_
  refine o_nil ?_
  refine c_seq ?_
  refine c_region ?_
  refine o_val (v_makeFunc rfl rfl) (Nat.le_of_ble_eq_true rfl) ?_
  refine o_val (v_assign rfl) (Nat.le_of_ble_eq_true rfl) ?_
  refine o_nil ?_
  refine c_ret1 Try.func54 rfl rfl fun w O hS => ?_
  exact ⟨b1, rfl, trivial, hS⟩
set_option maxRecDepth 100000 in
theorem keysIter_II (c : Nat) (o : Option Nat) (m : List (Int × Value)) : Iter Try.prog 101 [.pointer (some ⟨c, 0, none⟩)] [BlkR c 97 [.map o], MapO kInt o m] (nxK m) (finK m) (fun s => [.int .i64 s]) := by
  intro l I Z hy
  refine con_of Try.func101 rfl (Nat.le_of_ble_eq_true rfl) fun w0 O0 => ?_
  refine c_seq ?_
  refine c_region ?_
  refine o_val (v_load lone97 rfl (by repeat (first | exact Has.here | exact Has.sl_apd | exact Has.sl_own | exact Has.r_blk | apply Has.there)) rfl) (Nat.le_of_ble_eq_true rfl) ?_
  refine o_step (s_range_mapO kInt Try.underlying97 rfl (Nat.le_of_ble_eq_true rfl) (by repeat (first | exact Pick.keep (Sl.isDup _ _ _) | exact Pick.keep (BlkR.isDup _ _ _) | exact Pick.keep (FldCell.isDup _ _) | exact Pick.here | exact Pick.own_sl | exact Pick.apd_sl | exact Pick.r_blk | exact Pick.sl_nil | exact Pick.own_nil | exact Pick.map_itO _ | apply Pick.there)) (fun it5 => ?_))
  refine o_nil ?_
  refine c_block ?_
  refine c_loop (γ := List Int) (fun pre => m.length - pre.length) (fun pre => pre.Nodup ∧ ∀ y ∈ pre, y ∈ m.map fun p : Int × Value => p.1) (fun _ => [(5, .pointer (some ⟨it5, 0, none⟩)), (0, .func (.yield l) #[] #[])]) (fun pre => MapItO kInt it5 o m pre :: BlkR c 97 [.map o] :: I pre) [] ⟨by simp, by simp⟩ ⟨rfl, rfl, trivial⟩ (Ent.refl _) ?_
  intro pre ⟨hnd, hsub⟩ IH
  try dsimp only [List.cons_append, List.nil_append]
  refine c_seq ?_
  refine c_region ?_
  refine o_step (s_nextO kInt rfl (Nat.le_of_ble_eq_true rfl) (by repeat (first | exact Pick.keep (Sl.isDup _ _ _) | exact Pick.keep (BlkR.isDup _ _ _) | exact Pick.keep (FldCell.isDup _ _) | exact Pick.here | exact Pick.own_sl | exact Pick.apd_sl | exact Pick.r_blk | exact Pick.sl_nil | exact Pick.own_nil | exact Pick.map_itO _ | apply Pick.there)) (fun k v hk hn => ?_) (fun hall => ?_))
  · have hkm : k ∈ m.map fun p : Int × Value => p.1 := List.mem_map.2 ⟨_, hk, rfl⟩
    have hnd' : (pre ++ [k]).Nodup := List.nodup_append.2 ⟨hnd, by simp, fun a ha b hb e => hn (by rw [List.mem_singleton.1 hb] at e; rw [← e]; exact ha)⟩
    have hsub' : ∀ y ∈ pre ++ [k], y ∈ m.map fun p : Int × Value => p.1 := fun y hy => by
      rcases List.mem_append.1 hy with h | h
      · exact hsub y h
      · rw [List.mem_singleton.1 h]; exact hkm
    have hlen := nodup_le hnd' hsub'
    simp only [List.length_append, List.length_singleton, List.length_map] at hlen
    refine o_val (v_extract rfl rfl) (Nat.le_of_ble_eq_true rfl) ?_
    refine o_nil ?_
    refine c_seq ?_
    refine c_cond_t rfl ?_
    refine c_skip ?_
    refine c_block ?_
    refine c_seq ?_
    refine c_region ?_
    refine o_val (v_entryO kInt rfl hk (by repeat (first | exact Has.here | exact Has.sl_apd | exact Has.sl_own | exact Has.r_blk | apply Has.there))) (Nat.le_of_ble_eq_true rfl) ?_
    refine o_val (v_extract rfl rfl) (Nat.le_of_ble_eq_true rfl) ?_
    refine o_val (v_assign rfl) (Nat.le_of_ble_eq_true rfl) ?_
    refine o_nil ?_
    refine c_seq ?_
    refine c_region ?_
    refine o_val (v_move rfl) (Nat.le_of_ble_eq_true rfl) ?_
    refine o_val (v_move rfl) (Nat.le_of_ble_eq_true rfl) ?_
    refine o_yield (hy pre k ⟨hkm, hn, hnd, hsub⟩) (Lr := [MapItO kInt it5 o m (pre ++ [k]), BlkR c 97 [.map o]]) rfl rfl (Nat.le_of_ble_eq_true rfl) (by exact Ent.perm (List.perm_append_comm (l₁ := [MapItO kInt it5 o m (pre ++ [k]), BlkR c 97 [.map o]]))) ?_ ?_
    · refine o_val (v_not rfl) (Nat.le_of_ble_eq_true rfl) ?_
      refine o_nil ?_
      refine c_cond_f rfl ?_
      refine c_skip ?_
      refine c_inBlock ?_
      refine c_use (IH (pre ++ [k]) (by simp only [List.length_append, List.length_singleton]; omega) ⟨hnd', hsub'⟩) ⟨rfl, rfl, trivial⟩ ?_
      exact Ent.perm (List.perm_append_comm (l₂ := [MapItO kInt it5 o m (pre ++ [k]), BlkR c 97 [.map o]]))
    · refine o_val (v_not rfl) (Nat.le_of_ble_eq_true rfl) ?_
      refine o_nil ?_
      refine c_cond_t rfl ?_
      refine c_ret0 Try.func101 rfl fun w O hS => ?_
      refine ⟨none, rfl, (fun _ h => by cases h), Ent.get (Ent.get hS (Ent.perm (List.perm_append_comm (l₂ := [MapItO kInt it5 o m (pre ++ [k]), BlkR c 97 [.map o]])))) ?_⟩
      exact (ent_swap_it : Ent (MapItO kInt it5 o m (pre ++ [k]) :: BlkR c 97 [.map o] :: Z) (BlkR c 97 [.map o] :: MapO kInt o m :: Z))
  · refine o_val (v_extract rfl rfl) (Nat.le_of_ble_eq_true rfl) ?_
    refine o_nil ?_
    refine c_seq ?_
    refine c_cond_f rfl ?_
    refine c_exit rfl ?_
    refine c_end0 Try.func101 rfl fun w O hS => ?_
    exact ⟨some pre, rfl, (fun q h => by cases h; exact ⟨hnd, hsub, hall⟩), Ent.get hS (ent_swap_it : Ent (MapItO kInt it5 o m pre :: BlkR c 97 [.map o] :: I pre) (BlkR c 97 [.map o] :: MapO kInt o m :: I pre))⟩
set_option maxRecDepth 100000 in
theorem keys_II (o : Option Nat) : Con Try.prog 67 [.map o] [] (γ := Nat) (fun c => .func (.func 101) #[] #[.pointer (some ⟨c, 0, none⟩)]) (fun _ => True) (fun c => [Blk c 97 [.map o]]) := by
  refine con_of Try.func67 rfl (Nat.le_of_ble_eq_true rfl) fun w0 O0 => ?_
  refine c_seq ?_
  refine c_region ?_
  refine o_step (s_box rfl (Nat.le_of_ble_eq_true rfl) (fun b1 => ?_))
  refine o_val (v_assign rfl) (Nat.le_of_ble_eq_true rfl) ?_
  refine o_nil ?_
  refine c_seq ?_
  refine c_region ?_
  refine o_val (v_makeFunc rfl rfl) (Nat.le_of_ble_eq_true rfl) ?_
  refine o_val (v_assign rfl) (Nat.le_of_ble_eq_true rfl) ?_
  refine o_nil ?_
  refine c_ret1 Try.func67 rfl rfl fun w O hS => ?_
  exact ⟨b1, rfl, trivial, hS⟩
set_option maxRecDepth 100000 in
theorem keysIter_G (c : Nat) (o : Option Nat) (m : List (Int × Value)) : Iter Try.prog 103 [.pointer (some ⟨c, 0, none⟩)] [BlkR c 73 [.map o], MapO kInt o m] (nxK m) (finK m) (fun s => [.int .i64 s]) := by
  intro l I Z hy
  refine con_of Try.func103 rfl (Nat.le_of_ble_eq_true rfl) fun w0 O0 => ?_
  refine c_seq ?_
  refine c_region ?_
  refine o_val (v_load lone73 rfl (by repeat (first | exact Has.here | exact Has.sl_apd | exact Has.sl_own | exact Has.r_blk | apply Has.there)) rfl) (Nat.le_of_ble_eq_true rfl) ?_
  refine o_step (s_range_mapO kInt Try.underlying73 rfl (Nat.le_of_ble_eq_true rfl) (by repeat (first | exact Pick.keep (Sl.isDup _ _ _) | exact Pick.keep (BlkR.isDup _ _ _) | exact Pick.keep (FldCell.isDup _ _) | exact Pick.here | exact Pick.own_sl | exact Pick.apd_sl | exact Pick.r_blk | exact Pick.sl_nil | exact Pick.own_nil | exact Pick.map_itO _ | apply Pick.there)) (fun it5 => ?_))
  refine o_nil ?_
  refine c_block ?_
  refine c_loop (γ := List Int) (fun pre => m.length - pre.length) (fun pre => pre.Nodup ∧ ∀ y ∈ pre, y ∈ m.map fun p : Int × Value => p.1) (fun _ => [(5, .pointer (some ⟨it5, 0, none⟩)), (0, .func (.yield l) #[] #[])]) (fun pre => MapItO kInt it5 o m pre :: BlkR c 73 [.map o] :: I pre) [] ⟨by simp, by simp⟩ ⟨rfl, rfl, trivial⟩ (Ent.refl _) ?_
  intro pre ⟨hnd, hsub⟩ IH
  try dsimp only [List.cons_append, List.nil_append]
  refine c_seq ?_
  refine c_region ?_
  refine o_step (s_nextO kInt rfl (Nat.le_of_ble_eq_true rfl) (by repeat (first | exact Pick.keep (Sl.isDup _ _ _) | exact Pick.keep (BlkR.isDup _ _ _) | exact Pick.keep (FldCell.isDup _ _) | exact Pick.here | exact Pick.own_sl | exact Pick.apd_sl | exact Pick.r_blk | exact Pick.sl_nil | exact Pick.own_nil | exact Pick.map_itO _ | apply Pick.there)) (fun k v hk hn => ?_) (fun hall => ?_))
  · have hkm : k ∈ m.map fun p : Int × Value => p.1 := List.mem_map.2 ⟨_, hk, rfl⟩
    have hnd' : (pre ++ [k]).Nodup := List.nodup_append.2 ⟨hnd, by simp, fun a ha b hb e => hn (by rw [List.mem_singleton.1 hb] at e; rw [← e]; exact ha)⟩
    have hsub' : ∀ y ∈ pre ++ [k], y ∈ m.map fun p : Int × Value => p.1 := fun y hy => by
      rcases List.mem_append.1 hy with h | h
      · exact hsub y h
      · rw [List.mem_singleton.1 h]; exact hkm
    have hlen := nodup_le hnd' hsub'
    simp only [List.length_append, List.length_singleton, List.length_map] at hlen
    refine o_val (v_extract rfl rfl) (Nat.le_of_ble_eq_true rfl) ?_
    refine o_nil ?_
    refine c_seq ?_
    refine c_cond_t rfl ?_
    refine c_skip ?_
    refine c_block ?_
    refine c_seq ?_
    refine c_region ?_
    refine o_val (v_entryO kInt rfl hk (by repeat (first | exact Has.here | exact Has.sl_apd | exact Has.sl_own | exact Has.r_blk | apply Has.there))) (Nat.le_of_ble_eq_true rfl) ?_
    refine o_val (v_extract rfl rfl) (Nat.le_of_ble_eq_true rfl) ?_
    refine o_val (v_assign rfl) (Nat.le_of_ble_eq_true rfl) ?_
    refine o_nil ?_
    refine c_seq ?_
    refine c_region ?_
    refine o_val (v_move rfl) (Nat.le_of_ble_eq_true rfl) ?_
    refine o_val (v_move rfl) (Nat.le_of_ble_eq_true rfl) ?_
    refine o_yield (hy pre k ⟨hkm, hn, hnd, hsub⟩) (Lr := [MapItO kInt it5 o m (pre ++ [k]), BlkR c 73 [.map o]]) rfl rfl (Nat.le_of_ble_eq_true rfl) (by exact Ent.perm (List.perm_append_comm (l₁ := [MapItO kInt it5 o m (pre ++ [k]), BlkR c 73 [.map o]]))) ?_ ?_
    · refine o_val (v_not rfl) (Nat.le_of_ble_eq_true rfl) ?_
      refine o_nil ?_
      refine c_cond_f rfl ?_
      refine c_skip ?_
      refine c_inBlock ?_
      refine c_use (IH (pre ++ [k]) (by simp only [List.length_append, List.length_singleton]; omega) ⟨hnd', hsub'⟩) ⟨rfl, rfl, trivial⟩ ?_
      exact Ent.perm (List.perm_append_comm (l₂ := [MapItO kInt it5 o m (pre ++ [k]), BlkR c 73 [.map o]]))
    · refine o_val (v_not rfl) (Nat.le_of_ble_eq_true rfl) ?_
      refine o_nil ?_
      refine c_cond_t rfl ?_
      refine c_ret0 Try.func103 rfl fun w O hS => ?_
      refine ⟨none, rfl, (fun _ h => by cases h), Ent.get (Ent.get hS (Ent.perm (List.perm_append_comm (l₂ := [MapItO kInt it5 o m (pre ++ [k]), BlkR c 73 [.map o]])))) ?_⟩
      exact (ent_swap_it : Ent (MapItO kInt it5 o m (pre ++ [k]) :: BlkR c 73 [.map o] :: Z) (BlkR c 73 [.map o] :: MapO kInt o m :: Z))
  · refine o_val (v_extract rfl rfl) (Nat.le_of_ble_eq_true rfl) ?_
    refine o_nil ?_
    refine c_seq ?_
    refine c_cond_f rfl ?_
    refine c_exit rfl ?_
    refine c_end0 Try.func103 rfl fun w O hS => ?_
    exact ⟨some pre, rfl, (fun q h => by cases h; exact ⟨hnd, hsub, hall⟩), Ent.get hS (ent_swap_it : Ent (MapItO kInt it5 o m pre :: BlkR c 73 [.map o] :: I pre) (BlkR c 73 [.map o] :: MapO kInt o m :: I pre))⟩
set_option maxRecDepth 100000 in
theorem keys_G (o : Option Nat) : Con Try.prog 69 [.map o] [] (γ := Nat) (fun c => .func (.func 103) #[] #[.pointer (some ⟨c, 0, none⟩)]) (fun _ => True) (fun c => [Blk c 73 [.map o]]) := by
  refine con_of Try.func69 rfl (Nat.le_of_ble_eq_true rfl) fun w0 O0 => ?_
  refine c_seq ?_
  refine c_region ?_
  refine o_step (s_box rfl (Nat.le_of_ble_eq_true rfl) (fun b1 => ?_))
  refine o_val (v_assign rfl) (Nat.le_of_ble_eq_true rfl) ?_
  refine o_nil ?_
  refine c_seq ?_
  refine c_region ?_
  refine o_val (v_makeFunc rfl rfl) (Nat.le_of_ble_eq_true rfl) ?_
  refine o_val (v_assign rfl) (Nat.le_of_ble_eq_true rfl) ?_
  refine o_nil ?_
  refine c_ret1 Try.func69 rfl rfl fun w O hS => ?_
  exact ⟨b1, rfl, trivial, hS⟩
set_option maxRecDepth 100000 in
theorem keysIter_P (c : Nat) (o : Option Nat) (m : List (ByteArray × Value)) : Iter Try.prog 109 [.pointer (some ⟨c, 0, none⟩)] [BlkR c 72 [.map o], MapO kStr o m] (nxK m) (finK m) (fun s => [.string s]) := by
  intro l I Z hy
  refine con_of Try.func109 rfl (Nat.le_of_ble_eq_true rfl) fun w0 O0 => ?_
  refine c_seq ?_
  refine c_region ?_
  refine o_val (v_load lone72 rfl (by repeat (first | exact Has.here | exact Has.sl_apd | exact Has.sl_own | exact Has.r_blk | apply Has.there)) rfl) (Nat.le_of_ble_eq_true rfl) ?_
  refine o_step (s_range_mapO kStr Try.underlying72 rfl (Nat.le_of_ble_eq_true rfl) (by repeat (first | exact Pick.keep (Sl.isDup _ _ _) | exact Pick.keep (BlkR.isDup _ _ _) | exact Pick.keep (FldCell.isDup _ _) | exact Pick.here | exact Pick.own_sl | exact Pick.apd_sl | exact Pick.r_blk | exact Pick.sl_nil | exact Pick.own_nil | exact Pick.map_itO _ | apply Pick.there)) (fun it5 => ?_))
  refine o_nil ?_
  refine c_block ?_
  refine c_loop (γ := List ByteArray) (fun pre => m.length - pre.length) (fun pre => pre.Nodup ∧ ∀ y ∈ pre, y ∈ m.map fun p : ByteArray × Value => p.1) (fun _ => [(5, .pointer (some ⟨it5, 0, none⟩)), (0, .func (.yield l) #[] #[])]) (fun pre => MapItO kStr it5 o m pre :: BlkR c 72 [.map o] :: I pre) [] ⟨by simp, by simp⟩ ⟨rfl, rfl, trivial⟩ (Ent.refl _) ?_
  intro pre ⟨hnd, hsub⟩ IH
  try dsimp only [List.cons_append, List.nil_append]
  refine c_seq ?_
  refine c_region ?_
  refine o_step (s_nextO kStr rfl (Nat.le_of_ble_eq_true rfl) (by repeat (first | exact Pick.keep (Sl.isDup _ _ _) | exact Pick.keep (BlkR.isDup _ _ _) | exact Pick.keep (FldCell.isDup _ _) | exact Pick.here | exact Pick.own_sl | exact Pick.apd_sl | exact Pick.r_blk | exact Pick.sl_nil | exact Pick.own_nil | exact Pick.map_itO _ | apply Pick.there)) (fun k v hk hn => ?_) (fun hall => ?_))
  · have hkm : k ∈ m.map fun p : ByteArray × Value => p.1 := List.mem_map.2 ⟨_, hk, rfl⟩
    have hnd' : (pre ++ [k]).Nodup := List.nodup_append.2 ⟨hnd, by simp, fun a ha b hb e => hn (by rw [List.mem_singleton.1 hb] at e; rw [← e]; exact ha)⟩
    have hsub' : ∀ y ∈ pre ++ [k], y ∈ m.map fun p : ByteArray × Value => p.1 := fun y hy => by
      rcases List.mem_append.1 hy with h | h
      · exact hsub y h
      · rw [List.mem_singleton.1 h]; exact hkm
    have hlen := nodup_le hnd' hsub'
    simp only [List.length_append, List.length_singleton, List.length_map] at hlen
    refine o_val (v_extract rfl rfl) (Nat.le_of_ble_eq_true rfl) ?_
    refine o_nil ?_
    refine c_seq ?_
    refine c_cond_t rfl ?_
    refine c_skip ?_
    refine c_block ?_
    refine c_seq ?_
    refine c_region ?_
    refine o_val (v_entryO kStr rfl hk (by repeat (first | exact Has.here | exact Has.sl_apd | exact Has.sl_own | exact Has.r_blk | apply Has.there))) (Nat.le_of_ble_eq_true rfl) ?_
    refine o_val (v_extract rfl rfl) (Nat.le_of_ble_eq_true rfl) ?_
    refine o_val (v_assign rfl) (Nat.le_of_ble_eq_true rfl) ?_
    refine o_nil ?_
    refine c_seq ?_
    refine c_region ?_
    refine o_val (v_move rfl) (Nat.le_of_ble_eq_true rfl) ?_
    refine o_val (v_move rfl) (Nat.le_of_ble_eq_true rfl) ?_
    refine o_yield (hy pre k ⟨hkm, hn, hnd, hsub⟩) (Lr := [MapItO kStr it5 o m (pre ++ [k]), BlkR c 72 [.map o]]) rfl rfl (Nat.le_of_ble_eq_true rfl) (by exact Ent.perm (List.perm_append_comm (l₁ := [MapItO kStr it5 o m (pre ++ [k]), BlkR c 72 [.map o]]))) ?_ ?_
    · refine o_val (v_not rfl) (Nat.le_of_ble_eq_true rfl) ?_
      refine o_nil ?_
      refine c_cond_f rfl ?_
      refine c_skip ?_
      refine c_inBlock ?_
      refine c_use (IH (pre ++ [k]) (by simp only [List.length_append, List.length_singleton]; omega) ⟨hnd', hsub'⟩) ⟨rfl, rfl, trivial⟩ ?_
      exact Ent.perm (List.perm_append_comm (l₂ := [MapItO kStr it5 o m (pre ++ [k]), BlkR c 72 [.map o]]))
    · refine o_val (v_not rfl) (Nat.le_of_ble_eq_true rfl) ?_
      refine o_nil ?_
      refine c_cond_t rfl ?_
      refine c_ret0 Try.func109 rfl fun w O hS => ?_
      refine ⟨none, rfl, (fun _ h => by cases h), Ent.get (Ent.get hS (Ent.perm (List.perm_append_comm (l₂ := [MapItO kStr it5 o m (pre ++ [k]), BlkR c 72 [.map o]])))) ?_⟩
      exact (ent_swap_it : Ent (MapItO kStr it5 o m (pre ++ [k]) :: BlkR c 72 [.map o] :: Z) (BlkR c 72 [.map o] :: MapO kStr o m :: Z))
  · refine o_val (v_extract rfl rfl) (Nat.le_of_ble_eq_true rfl) ?_
    refine o_nil ?_
    refine c_seq ?_
    refine c_cond_f rfl ?_
    refine c_exit rfl ?_
    refine c_end0 Try.func109 rfl fun w O hS => ?_
    exact ⟨some pre, rfl, (fun q h => by cases h; exact ⟨hnd, hsub, hall⟩), Ent.get hS (ent_swap_it : Ent (MapItO kStr it5 o m pre :: BlkR c 72 [.map o] :: I pre) (BlkR c 72 [.map o] :: MapO kStr o m :: I pre))⟩
set_option maxRecDepth 100000 in
theorem keys_P (o : Option Nat) : Con Try.prog 76 [.map o] [] (γ := Nat) (fun c => .func (.func 109) #[] #[.pointer (some ⟨c, 0, none⟩)]) (fun _ => True) (fun c => [Blk c 72 [.map o]]) := by
  refine con_of Try.func76 rfl (Nat.le_of_ble_eq_true rfl) fun w0 O0 => ?_
  refine c_seq ?_
  refine c_region ?_
  refine o_step (s_box rfl (Nat.le_of_ble_eq_true rfl) (fun b1 => ?_))
  refine o_val (v_assign rfl) (Nat.le_of_ble_eq_true rfl) ?_
  refine o_nil ?_
  refine c_seq ?_
  refine c_region ?_
  refine o_val (v_makeFunc rfl rfl) (Nat.le_of_ble_eq_true rfl) ?_
  refine o_val (v_assign rfl) (Nat.le_of_ble_eq_true rfl) ?_
  refine o_nil ?_
  refine c_ret1 Try.func76 rfl rfl fun w O hS => ?_
  exact ⟨b1, rfl, trivial, hS⟩
set_option maxRecDepth 100000 in
theorem values_con (v : Value) (xs : List ByteArray) : Con Try.prog 90 [v] [Sl eStr v xs] (γ := Nat) (fun c => .func (.func 115) #[] #[.pointer (some ⟨c, 0, none⟩)]) (fun _ => True) (fun c => [Blk c 30 [v], Sl eStr v xs]) := by
  refine Con.form (v := v) (xs := xs) (by repeat (first | exact Has.here | exact Has.sl_apd | exact Has.sl_own | exact Has.r_blk | apply Has.there)) ?_
  rintro a0 c0 rfl hc0 -
  refine con_of Try.func90 rfl (Nat.le_of_ble_eq_true rfl) fun w0 O0 => ?_
  refine c_seq ?_
  refine c_region ?_
  refine o_step (s_box rfl (Nat.le_of_ble_eq_true rfl) (fun b1 => ?_))
  refine o_val (v_assign rfl) (Nat.le_of_ble_eq_true rfl) ?_
  refine o_nil ?_
  refine c_seq ?_
  refine c_region ?_
  refine o_val (v_makeFunc rfl rfl) (Nat.le_of_ble_eq_true rfl) ?_
  refine o_val (v_assign rfl) (Nat.le_of_ble_eq_true rfl) ?_
  refine o_nil ?_
  refine c_ret1 Try.func90 rfl rfl fun w O hS => ?_
  exact ⟨b1, rfl, trivial, hS⟩

set_option maxRecDepth 100000 in
theorem clone_N {α : Type} (e : Enc α) (v : Value) (xs : List α) (hn : e.n = 3) (hx : xs.length ≤ 2932031007402) :
    Con Try.prog 55 [v] [Sl e v xs] (γ := Value) (fun r => r) (fun _ => True) (fun r => [Own e 60 r xs]) := by
  refine Con.form (v := v) (xs := xs) (by repeat (first | exact Has.here | exact Has.sl_apd | exact Has.sl_own | exact Has.r_blk | apply Has.there)) ?_
  rintro a0 c0 rfl hc0 -
  refine con_of Try.func55 rfl (Nat.le_of_ble_eq_true rfl) fun w0 O0 => ?_
  refine c_seq ?_
  refine c_region ?_
  refine o_val (v_assign rfl) (Nat.le_of_ble_eq_true rfl) ?_
  refine o_nil ?_
  refine c_seq ?_
  refine c_seq ?_
  refine c_region ?_
  refine o_val (v_move rfl) (Nat.le_of_ble_eq_true rfl) ?_
  refine o_val (v_eq_sl_nil Try.underlying49 rfl rfl) (Nat.le_of_ble_eq_true rfl) ?_
  refine o_nil ?_
  refine c_cond rfl (fun h => ?_) (fun h => ?_)
  · refine c_seq ?_
    refine c_region ?_
    refine o_val (v_assign rfl) (Nat.le_of_ble_eq_true rfl) ?_
    refine o_nil ?_
    refine c_ret1 Try.func55 rfl rfl fun w O hS => ?_
    have : xs = [] := by
      cases a0 with
      | none => obtain ⟨_, _, _, h1, _⟩ := hS; exact Sl.none_nil h1
      | some _ => cases h
    subst this
    exact ⟨.slice none 0 0, rfl, trivial, stars_own_nil⟩
  · refine c_skip ?_
    refine c_seq ?_
    refine c_region ?_
    refine o_step (s_buildSlice (e := e) (zs := []) Try.underlying49 ti60 rfl rfl rfl (by decide) (by decide) (Beside.pure fun _ => ⟨rfl, fun _ h => by cases h⟩) rfl hn (Nat.le_of_ble_eq_true rfl) fun v1 => ?_)
    refine o_val (v_move rfl) (Nat.le_of_ble_eq_true rfl) ?_
    refine o_step (s_append Try.underlying49 ti60 rfl (by decide) rfl rfl (Nat.le_of_ble_eq_true rfl) (by repeat (first | exact Pick.here | exact Pick.own_nil | apply Pick.there)) (by repeat (first | exact Pick.keep (Sl.isDup _ _ _) | exact Pick.keep (BlkR.isDup _ _ _) | exact Pick.keep (FldCell.isDup _ _) | exact Pick.here | exact Pick.own_sl | exact Pick.apd_sl | exact Pick.r_blk | exact Pick.sl_nil | exact Pick.own_nil | exact Pick.map_itO _ | apply Pick.there)) hn (by simp only [List.length_nil]; omega) (by simp only [maxLen, List.length_nil]; omega) fun v2 => ?_)
    refine o_val (v_assign rfl) (Nat.le_of_ble_eq_true rfl) ?_
    refine o_nil ?_
    refine c_ret1 Try.func55 rfl rfl fun w O hS => ?_
    exact ⟨v2, rfl, trivial, Ent.get hS (Picks.ent (by repeat (first | exact Picks.nil | (apply Picks.cons; · repeat (first | exact Pick.keep (Sl.isDup _ _ _) | exact Pick.keep (BlkR.isDup _ _ _) | exact Pick.keep (FldCell.isDup _ _) | exact Pick.here | exact Pick.own_sl | exact Pick.apd_sl | exact Pick.r_blk | exact Pick.sl_nil | exact Pick.own_nil | exact Pick.map_itO _ | apply Pick.there)))))⟩
set_option maxRecDepth 100000 in
theorem clone_S {α : Type} (e : Enc α) (v : Value) (xs : List α) (hn : e.n = 1) (hx : xs.length ≤ 8796093022207) :
    Con Try.prog 93 [v] [Sl e v xs] (γ := Value) (fun r => r) (fun _ => True) (fun r => [Own e 9 r xs]) := by
  refine Con.form (v := v) (xs := xs) (by repeat (first | exact Has.here | exact Has.sl_apd | exact Has.sl_own | exact Has.r_blk | apply Has.there)) ?_
  rintro a0 c0 rfl hc0 -
  refine con_of Try.func93 rfl (Nat.le_of_ble_eq_true rfl) fun w0 O0 => ?_
  refine c_seq ?_
  refine c_region ?_
  refine o_val (v_assign rfl) (Nat.le_of_ble_eq_true rfl) ?_
  refine o_nil ?_
  refine c_seq ?_
  refine c_seq ?_
  refine c_region ?_
  refine o_val (v_move rfl) (Nat.le_of_ble_eq_true rfl) ?_
  refine o_val (v_eq_sl_nil Try.underlying30 rfl rfl) (Nat.le_of_ble_eq_true rfl) ?_
  refine o_nil ?_
  refine c_cond rfl (fun h => ?_) (fun h => ?_)
  · refine c_seq ?_
    refine c_region ?_
    refine o_val (v_assign rfl) (Nat.le_of_ble_eq_true rfl) ?_
    refine o_nil ?_
    refine c_ret1 Try.func93 rfl rfl fun w O hS => ?_
    have : xs = [] := by
      cases a0 with
      | none => obtain ⟨_, _, _, h1, _⟩ := hS; exact Sl.none_nil h1
      | some _ => cases h
    subst this
    exact ⟨.slice none 0 0, rfl, trivial, stars_own_nil⟩
  · refine c_skip ?_
    refine c_seq ?_
    refine c_region ?_
    refine o_step (s_buildSlice (e := e) (zs := []) Try.underlying30 ti9 rfl rfl rfl (by decide) (by decide) (Beside.pure fun _ => ⟨rfl, fun _ h => by cases h⟩) rfl hn (Nat.le_of_ble_eq_true rfl) fun v1 => ?_)
    refine o_val (v_move rfl) (Nat.le_of_ble_eq_true rfl) ?_
    refine o_step (s_append Try.underlying30 ti9 rfl (by decide) rfl rfl (Nat.le_of_ble_eq_true rfl) (by repeat (first | exact Pick.here | exact Pick.own_nil | apply Pick.there)) (by repeat (first | exact Pick.keep (Sl.isDup _ _ _) | exact Pick.keep (BlkR.isDup _ _ _) | exact Pick.keep (FldCell.isDup _ _) | exact Pick.here | exact Pick.own_sl | exact Pick.apd_sl | exact Pick.r_blk | exact Pick.sl_nil | exact Pick.own_nil | exact Pick.map_itO _ | apply Pick.there)) hn (by simp only [List.length_nil]; omega) (by simp only [maxLen, List.length_nil]; omega) fun v2 => ?_)
    refine o_val (v_assign rfl) (Nat.le_of_ble_eq_true rfl) ?_
    refine o_nil ?_
    refine c_ret1 Try.func93 rfl rfl fun w O hS => ?_
    exact ⟨v2, rfl, trivial, Ent.get hS (Picks.ent (by repeat (first | exact Picks.nil | (apply Picks.cons; · repeat (first | exact Pick.keep (Sl.isDup _ _ _) | exact Pick.keep (BlkR.isDup _ _ _) | exact Pick.keep (FldCell.isDup _ _) | exact Pick.here | exact Pick.own_sl | exact Pick.apd_sl | exact Pick.r_blk | exact Pick.sl_nil | exact Pick.own_nil | exact Pick.map_itO _ | apply Pick.there)))))⟩
set_option maxRecDepth 100000 in
theorem clone_Wt {α : Type} (e : Enc α) (v : Value) (xs : List α) (hn : e.n = 2) (hx : xs.length ≤ 8796093022207) :
    Con Try.prog 85 [v] [Sl e v xs] (γ := Value) (fun r => r) (fun _ => True) (fun r => [Own e 137 r xs]) := by
  refine Con.form (v := v) (xs := xs) (by repeat (first | exact Has.here | exact Has.sl_apd | exact Has.sl_own | exact Has.r_blk | apply Has.there)) ?_
  rintro a0 c0 rfl hc0 -
  refine con_of Try.func85 rfl (Nat.le_of_ble_eq_true rfl) fun w0 O0 => ?_
  refine c_seq ?_
  refine c_region ?_
  refine o_val (v_assign rfl) (Nat.le_of_ble_eq_true rfl) ?_
  refine o_nil ?_
  refine c_seq ?_
  refine c_seq ?_
  refine c_region ?_
  refine o_val (v_move rfl) (Nat.le_of_ble_eq_true rfl) ?_
  refine o_val (v_eq_sl_nil Try.underlying133 rfl rfl) (Nat.le_of_ble_eq_true rfl) ?_
  refine o_nil ?_
  refine c_cond rfl (fun h => ?_) (fun h => ?_)
  · refine c_seq ?_
    refine c_region ?_
    refine o_val (v_assign rfl) (Nat.le_of_ble_eq_true rfl) ?_
    refine o_nil ?_
    refine c_ret1 Try.func85 rfl rfl fun w O hS => ?_
    have : xs = [] := by
      cases a0 with
      | none => obtain ⟨_, _, _, h1, _⟩ := hS; exact Sl.none_nil h1
      | some _ => cases h
    subst this
    exact ⟨.slice none 0 0, rfl, trivial, stars_own_nil⟩
  · refine c_skip ?_
    refine c_seq ?_
    refine c_region ?_
    refine o_step (s_buildSlice (e := e) (zs := []) Try.underlying133 ti137 rfl rfl rfl (by decide) (by decide) (Beside.pure fun _ => ⟨rfl, fun _ h => by cases h⟩) rfl hn (Nat.le_of_ble_eq_true rfl) fun v1 => ?_)
    refine o_val (v_move rfl) (Nat.le_of_ble_eq_true rfl) ?_
    refine o_step (s_append Try.underlying133 ti137 rfl (by decide) rfl rfl (Nat.le_of_ble_eq_true rfl) (by repeat (first | exact Pick.here | exact Pick.own_nil | apply Pick.there)) (by repeat (first | exact Pick.keep (Sl.isDup _ _ _) | exact Pick.keep (BlkR.isDup _ _ _) | exact Pick.keep (FldCell.isDup _ _) | exact Pick.here | exact Pick.own_sl | exact Pick.apd_sl | exact Pick.r_blk | exact Pick.sl_nil | exact Pick.own_nil | exact Pick.map_itO _ | apply Pick.there)) hn (by simp only [List.length_nil]; omega) (by simp only [maxLen, List.length_nil]; omega) fun v2 => ?_)
    refine o_val (v_assign rfl) (Nat.le_of_ble_eq_true rfl) ?_
    refine o_nil ?_
    refine c_ret1 Try.func85 rfl rfl fun w O hS => ?_
    exact ⟨v2, rfl, trivial, Ent.get hS (Picks.ent (by repeat (first | exact Picks.nil | (apply Picks.cons; · repeat (first | exact Pick.keep (Sl.isDup _ _ _) | exact Pick.keep (BlkR.isDup _ _ _) | exact Pick.keep (FldCell.isDup _ _) | exact Pick.here | exact Pick.own_sl | exact Pick.apd_sl | exact Pick.r_blk | exact Pick.sl_nil | exact Pick.own_nil | exact Pick.map_itO _ | apply Pick.there)))))⟩
end Go.Proofs.Ytnamhhmfnokfiaa

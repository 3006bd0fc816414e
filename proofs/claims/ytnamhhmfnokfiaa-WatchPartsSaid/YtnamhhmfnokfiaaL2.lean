import Derived.Test.YtnamhhmfnokfiaaL1
namespace Go.Proofs.Ytnamhhmfnokfiaa
open Go Go.SL
attribute [local irreducible] Cfg Kont StepK Val Con Qops Any Sl Own Blk BlkR Rd Pu ExA AllA Has Pick Ent Elem Beside Callable TI Lone

def idxF {α : Type} (p : α → Bool) (xs : List α) : Int := match xs.findIdx? p with
  | some i => (i : Int)
  | none => -1
theorem idxF_some {α : Type} {p : α → Bool} {xs : List α} {i : Nat} (hi : i < xs.length) (h : p xs[i] = true) (hb : ∀ (j : Nat) (hj : j < i), p (xs[j]'(by omega)) = false) : idxF p xs = i := by
  have : xs.findIdx? p = some i := List.findIdx?_eq_some_iff_getElem.2 ⟨hi, h, fun j hj => by simp [hb j hj]⟩
  simp [idxF, this]
theorem idxF_none {α : Type} {p : α → Bool} {xs : List α} (hb : ∀ (j : Nat) (hj : j < xs.length), p xs[j] = false) : idxF p xs = -1 := by
  have : xs.findIdx? p = none := List.findIdx?_eq_none_iff.2 fun x hx => by
    obtain ⟨j, hj, rfl⟩ := List.mem_iff_getElem.1 hx
    exact hb j hj
  simp [idxF, this]
theorem idxF_cases {α : Type} (p : α → Bool) (xs : List α) : (idxF p xs = -1 ∧ ∀ x ∈ xs, p x = false) ∨ ∃ (i : Nat) (hi : i < xs.length), idxF p xs = i ∧ p xs[i] = true ∧ ∀ (j : Nat) (hj : j < i), p (xs[j]'(by omega)) = false := by
  cases h : xs.findIdx? p with
  | none => exact .inl ⟨by simp [idxF, h], fun x hx => by simpa using List.findIdx?_eq_none_iff.1 h x hx⟩
  | some i =>
    obtain ⟨h1, h2, h3⟩ := List.findIdx?_eq_some_iff_getElem.1 h
    exact .inr ⟨i, h1, by simp [idxF, h], h2, fun j hj => by simpa using h3 j hj⟩

set_option maxRecDepth 100000 in
theorem indexFunc_S {gp : FuncId} {caps : List Value} {R : A} {p : ByteArray → Bool} (clp : Callable Try.prog gp) (v : Value) (xs : List (ByteArray)) (hp : ∀ x ∈ xs, Con Try.prog gp (.string x :: caps) [R] (γ := Unit) (fun _ => .bool (p x)) (fun _ => True) (fun _ => [R])) (hx : xs.length ≤ 9223372036854775807) :
    Con Try.prog 116 [v, .func (.func gp) #[] caps.toArray] [Own eStr 9 v xs, R] (γ := Unit) (fun _ => .int .i64 (idxF p xs)) (fun _ => True) (fun _ => [Own eStr 9 v xs, R]) := by
  refine con_of Try.func116 rfl (Nat.le_of_ble_eq_true rfl) fun w0 O0 => ?_
  refine c_seq ?_
  refine c_region ?_
  refine o_val (v_assign rfl) (Nat.le_of_ble_eq_true rfl) ?_
  refine o_nil ?_
  refine c_seq ?_
  refine c_seq ?_
  refine c_region ?_
  refine o_val (v_move rfl) (Nat.le_of_ble_eq_true rfl) ?_
  refine o_val ((by first | exact v_len_form Try.underlying30 rfl | exact v_len_sl Try.underlying30 rfl (by repeat (first | exact Has.here | exact Has.sl_apd | exact Has.sl_own | exact Has.r_blk | apply Has.there)))) (Nat.le_of_ble_eq_true rfl) ?_
  refine o_val (v_move rfl) (Nat.le_of_ble_eq_true rfl) ?_
  refine o_nil ?_
  refine c_block ?_
  refine c_loop (γ := Nat) (fun i => xs.length - i) (fun i => i ≤ xs.length ∧ ∀ (j : Nat) (hj : j < xs.length), j < i → p xs[j] = false) (fun i => [(8, .int .i64 i), (7, .int .i64 xs.length), (1, .func (.func gp) #[] caps.toArray), (0, v)]) (fun _ => [Own eStr 9 v xs, R]) 0 ⟨Nat.zero_le _, fun _ _ h => by omega⟩ ⟨rfl, rfl, rfl, rfl, trivial⟩ (Picks.ent (by repeat (first | exact Picks.nil | (apply Picks.cons; · repeat (first | exact Pick.keep (Sl.isDup _ _ _) | exact Pick.keep (BlkR.isDup _ _ _) | exact Pick.keep (FldCell.isDup _ _) | exact Pick.here | exact Pick.own_sl | exact Pick.apd_sl | exact Pick.r_blk | exact Pick.sl_nil | exact Pick.own_nil | exact Pick.map_itO _ | apply Pick.there))))) ?_
  rintro i ⟨hi, hall⟩ IH
  try dsimp only [List.cons_append, List.nil_append]
  refine c_seq ?_
  refine c_region ?_
  refine o_val (v_lt rfl rfl) (Nat.le_of_ble_eq_true rfl) ?_
  refine o_nil ?_
  refine c_seq ?_
  refine c_cond_p rfl (fun hlt => ?_) (fun hlt => ?_)
  · refine c_skip ?_
    refine c_seq ?_
    refine c_block ?_
    refine c_seq ?_
    refine c_region ?_
    refine o_val (v_move rfl) (Nat.le_of_ble_eq_true rfl) ?_
    refine o_val (v_assign rfl) (Nat.le_of_ble_eq_true rfl) ?_
    refine o_nil ?_
    refine c_seq ?_
    refine c_region ?_
    refine o_val (v_move rfl) (Nat.le_of_ble_eq_true rfl) ?_
    refine o_val (v_move rfl) (Nat.le_of_ble_eq_true rfl) ?_
    refine o_val (v_move rfl) (Nat.le_of_ble_eq_true rfl) ?_
    refine o_val ((by first | exact v_indexAddrN Try.underlying30 ti9 rfl rfl (by repeat (first | exact Has.here | exact Has.sl_apd | exact Has.sl_own | exact Has.r_blk | apply Has.there)) (by omega) | exact v_indexAddr Try.underlying30 ti9 rfl rfl (by repeat (first | exact Has.here | exact Has.sl_apd | exact Has.sl_own | exact Has.r_blk | apply Has.there)) (by omega))) (Nat.le_of_ble_eq_true rfl) ?_
    refine o_val (v_load_str lone9 rfl (by repeat (first | exact Elem.sl (List.getElem?_eq_getElem (by omega)) | exact Elem.own (List.getElem?_eq_getElem (by omega)) | apply Elem.there))) (Nat.le_of_ble_eq_true rfl) ?_
    refine o_step (s_call clp (hp (xs[i]'(by omega)) (List.getElem_mem _)) (first := []) (cap := caps) rfl rfl (by rfl) (Nat.le_of_ble_eq_true rfl) (by repeat (first | exact Picks.nil | (apply Picks.cons; · repeat (first | exact Pick.keep (Sl.isDup _ _ _) | exact Pick.keep (BlkR.isDup _ _ _) | exact Pick.keep (FldCell.isDup _ _) | exact Pick.here | exact Pick.own_sl | exact Pick.apd_sl | exact Pick.r_blk | exact Pick.sl_nil | exact Pick.own_nil | exact Pick.map_itO _ | apply Pick.there)))) fun _ _ => ?_)
    refine o_nil ?_
    refine c_cond rfl (fun hc => ?_) (fun hc => ?_)
    · refine c_seq ?_
      refine c_region ?_
      refine o_val (v_move rfl) (Nat.le_of_ble_eq_true rfl) ?_
      refine o_val (v_assign rfl) (Nat.le_of_ble_eq_true rfl) ?_
      refine o_nil ?_
      refine c_ret1 Try.func116 rfl rfl fun w O hS => ?_
      exact ⟨(), congrArg (Value.int .i64) (idxF_some (by omega) hc fun j hj => hall j (by omega) hj).symm, trivial, Ent.get hS (Picks.ent (by repeat (first | exact Picks.nil | (apply Picks.cons; · repeat (first | exact Pick.keep (Sl.isDup _ _ _) | exact Pick.keep (BlkR.isDup _ _ _) | exact Pick.keep (FldCell.isDup _ _) | exact Pick.here | exact Pick.own_sl | exact Pick.apd_sl | exact Pick.r_blk | exact Pick.sl_nil | exact Pick.own_nil | exact Pick.map_itO _ | apply Pick.there)))))⟩
    · refine c_skip ?_
      refine c_inBlock ?_
      refine c_region ?_
      refine o_val ((by first | exact v_add64 rfl rfl (by omega) | exact v_add rfl rfl)) (Nat.le_of_ble_eq_true rfl) ?_
      refine o_val (v_move rfl) (Nat.le_of_ble_eq_true rfl) ?_
      refine o_nil ?_
      refine c_use (IH (i + 1) (by omega) ⟨by omega, fun j hj hji => ?_⟩) ⟨rfl, rfl, rfl, rfl, trivial⟩ (Picks.ent (by repeat (first | exact Picks.nil | (apply Picks.cons; · repeat (first | exact Pick.keep (Sl.isDup _ _ _) | exact Pick.keep (BlkR.isDup _ _ _) | exact Pick.keep (FldCell.isDup _ _) | exact Pick.here | exact Pick.own_sl | exact Pick.apd_sl | exact Pick.r_blk | exact Pick.sl_nil | exact Pick.own_nil | exact Pick.map_itO _ | apply Pick.there)))))
      by_cases h : j = i
      · subst h; exact hc
      · exact hall j hj (by omega)
  · refine c_exit rfl ?_
    refine c_seq ?_
    refine c_region ?_
    refine o_val (v_assign rfl) (Nat.le_of_ble_eq_true rfl) ?_
    refine o_nil ?_
    refine c_ret1 Try.func116 rfl rfl fun w O hS => ?_
    exact ⟨(), congrArg (Value.int .i64) (idxF_none fun j hj => hall j hj (by omega)).symm, trivial, Ent.get hS (Picks.ent (by repeat (first | exact Picks.nil | (apply Picks.cons; · repeat (first | exact Pick.keep (Sl.isDup _ _ _) | exact Pick.keep (BlkR.isDup _ _ _) | exact Pick.keep (FldCell.isDup _ _) | exact Pick.here | exact Pick.own_sl | exact Pick.apd_sl | exact Pick.r_blk | exact Pick.sl_nil | exact Pick.own_nil | exact Pick.map_itO _ | apply Pick.there)))))⟩
set_option maxRecDepth 100000 in
theorem indexFunc_I {gp : FuncId} {caps : List Value} {R : A} {p : Int → Bool} (clp : Callable Try.prog gp) (v : Value) (xs : List (Int)) (hp : ∀ x ∈ xs, Con Try.prog gp (.int .i64 x :: caps) [R] (γ := Unit) (fun _ => .bool (p x)) (fun _ => True) (fun _ => [R])) (hx : xs.length ≤ 9223372036854775807) :
    Con Try.prog 104 [v, .func (.func gp) #[] caps.toArray] [Own (eInt .i64) 3 v xs, R] (γ := Unit) (fun _ => .int .i64 (idxF p xs)) (fun _ => True) (fun _ => [Own (eInt .i64) 3 v xs, R]) := by
  refine con_of Try.func104 rfl (Nat.le_of_ble_eq_true rfl) fun w0 O0 => ?_
  refine c_seq ?_
  refine c_region ?_
  refine o_val (v_assign rfl) (Nat.le_of_ble_eq_true rfl) ?_
  refine o_nil ?_
  refine c_seq ?_
  refine c_seq ?_
  refine c_region ?_
  refine o_val (v_move rfl) (Nat.le_of_ble_eq_true rfl) ?_
  refine o_val ((by first | exact v_len_form Try.underlying35 rfl | exact v_len_sl Try.underlying35 rfl (by repeat (first | exact Has.here | exact Has.sl_apd | exact Has.sl_own | exact Has.r_blk | apply Has.there)))) (Nat.le_of_ble_eq_true rfl) ?_
  refine o_val (v_move rfl) (Nat.le_of_ble_eq_true rfl) ?_
  refine o_nil ?_
  refine c_block ?_
  refine c_loop (γ := Nat) (fun i => xs.length - i) (fun i => i ≤ xs.length ∧ ∀ (j : Nat) (hj : j < xs.length), j < i → p xs[j] = false) (fun i => [(8, .int .i64 i), (7, .int .i64 xs.length), (1, .func (.func gp) #[] caps.toArray), (0, v)]) (fun _ => [Own (eInt .i64) 3 v xs, R]) 0 ⟨Nat.zero_le _, fun _ _ h => by omega⟩ ⟨rfl, rfl, rfl, rfl, trivial⟩ (Picks.ent (by repeat (first | exact Picks.nil | (apply Picks.cons; · repeat (first | exact Pick.keep (Sl.isDup _ _ _) | exact Pick.keep (BlkR.isDup _ _ _) | exact Pick.keep (FldCell.isDup _ _) | exact Pick.here | exact Pick.own_sl | exact Pick.apd_sl | exact Pick.r_blk | exact Pick.sl_nil | exact Pick.own_nil | exact Pick.map_itO _ | apply Pick.there))))) ?_
  rintro i ⟨hi, hall⟩ IH
  try dsimp only [List.cons_append, List.nil_append]
  refine c_seq ?_
  refine c_region ?_
  refine o_val (v_lt rfl rfl) (Nat.le_of_ble_eq_true rfl) ?_
  refine o_nil ?_
  refine c_seq ?_
  refine c_cond_p rfl (fun hlt => ?_) (fun hlt => ?_)
  · refine c_skip ?_
    refine c_seq ?_
    refine c_block ?_
    refine c_seq ?_
    refine c_region ?_
    refine o_val (v_move rfl) (Nat.le_of_ble_eq_true rfl) ?_
    refine o_val (v_assign rfl) (Nat.le_of_ble_eq_true rfl) ?_
    refine o_nil ?_
    refine c_seq ?_
    refine c_region ?_
    refine o_val (v_move rfl) (Nat.le_of_ble_eq_true rfl) ?_
    refine o_val (v_move rfl) (Nat.le_of_ble_eq_true rfl) ?_
    refine o_val (v_move rfl) (Nat.le_of_ble_eq_true rfl) ?_
    refine o_val ((by first | exact v_indexAddrN Try.underlying35 ti3 rfl rfl (by repeat (first | exact Has.here | exact Has.sl_apd | exact Has.sl_own | exact Has.r_blk | apply Has.there)) (by omega) | exact v_indexAddr Try.underlying35 ti3 rfl rfl (by repeat (first | exact Has.here | exact Has.sl_apd | exact Has.sl_own | exact Has.r_blk | apply Has.there)) (by omega))) (Nat.le_of_ble_eq_true rfl) ?_
    refine o_val (v_load_int lone3 rfl (by repeat (first | exact Elem.sl (List.getElem?_eq_getElem (by omega)) | exact Elem.own (List.getElem?_eq_getElem (by omega)) | apply Elem.there))) (Nat.le_of_ble_eq_true rfl) ?_
    refine o_step (s_call clp (hp (xs[i]'(by omega)) (List.getElem_mem _)) (first := []) (cap := caps) rfl rfl (by rfl) (Nat.le_of_ble_eq_true rfl) (by repeat (first | exact Picks.nil | (apply Picks.cons; · repeat (first | exact Pick.keep (Sl.isDup _ _ _) | exact Pick.keep (BlkR.isDup _ _ _) | exact Pick.keep (FldCell.isDup _ _) | exact Pick.here | exact Pick.own_sl | exact Pick.apd_sl | exact Pick.r_blk | exact Pick.sl_nil | exact Pick.own_nil | exact Pick.map_itO _ | apply Pick.there)))) fun _ _ => ?_)
    refine o_nil ?_
    refine c_cond rfl (fun hc => ?_) (fun hc => ?_)
    · refine c_seq ?_
      refine c_region ?_
      refine o_val (v_move rfl) (Nat.le_of_ble_eq_true rfl) ?_
      refine o_val (v_assign rfl) (Nat.le_of_ble_eq_true rfl) ?_
      refine o_nil ?_
      refine c_ret1 Try.func104 rfl rfl fun w O hS => ?_
      exact ⟨(), congrArg (Value.int .i64) (idxF_some (by omega) hc fun j hj => hall j (by omega) hj).symm, trivial, Ent.get hS (Picks.ent (by repeat (first | exact Picks.nil | (apply Picks.cons; · repeat (first | exact Pick.keep (Sl.isDup _ _ _) | exact Pick.keep (BlkR.isDup _ _ _) | exact Pick.keep (FldCell.isDup _ _) | exact Pick.here | exact Pick.own_sl | exact Pick.apd_sl | exact Pick.r_blk | exact Pick.sl_nil | exact Pick.own_nil | exact Pick.map_itO _ | apply Pick.there)))))⟩
    · refine c_skip ?_
      refine c_inBlock ?_
      refine c_region ?_
      refine o_val ((by first | exact v_add64 rfl rfl (by omega) | exact v_add rfl rfl)) (Nat.le_of_ble_eq_true rfl) ?_
      refine o_val (v_move rfl) (Nat.le_of_ble_eq_true rfl) ?_
      refine o_nil ?_
      refine c_use (IH (i + 1) (by omega) ⟨by omega, fun j hj hji => ?_⟩) ⟨rfl, rfl, rfl, rfl, trivial⟩ (Picks.ent (by repeat (first | exact Picks.nil | (apply Picks.cons; · repeat (first | exact Pick.keep (Sl.isDup _ _ _) | exact Pick.keep (BlkR.isDup _ _ _) | exact Pick.keep (FldCell.isDup _ _) | exact Pick.here | exact Pick.own_sl | exact Pick.apd_sl | exact Pick.r_blk | exact Pick.sl_nil | exact Pick.own_nil | exact Pick.map_itO _ | apply Pick.there)))))
      by_cases h : j = i
      · subst h; exact hc
      · exact hall j hj (by omega)
  · refine c_exit rfl ?_
    refine c_seq ?_
    refine c_region ?_
    refine o_val (v_assign rfl) (Nat.le_of_ble_eq_true rfl) ?_
    refine o_nil ?_
    refine c_ret1 Try.func104 rfl rfl fun w O hS => ?_
    exact ⟨(), congrArg (Value.int .i64) (idxF_none fun j hj => hall j hj (by omega)).symm, trivial, Ent.get hS (Picks.ent (by repeat (first | exact Picks.nil | (apply Picks.cons; · repeat (first | exact Pick.keep (Sl.isDup _ _ _) | exact Pick.keep (BlkR.isDup _ _ _) | exact Pick.keep (FldCell.isDup _ _) | exact Pick.here | exact Pick.own_sl | exact Pick.apd_sl | exact Pick.r_blk | exact Pick.sl_nil | exact Pick.own_nil | exact Pick.map_itO _ | apply Pick.there)))))⟩
set_option maxRecDepth 100000 in
theorem indexFunc_W {gp : FuncId} {caps : List Value} {R : A} {p : Int × Int → Bool} (clp : Callable Try.prog gp) (v : Value) (xs : List (Int × Int)) (hp : ∀ x ∈ xs, Con Try.prog gp (Value.agg ([Value.int .i64 x.1] ++ [Value.int .i64 x.2]).toArray :: caps) [R] (γ := Unit) (fun _ => .bool (p x)) (fun _ => True) (fun _ => [R])) (hx : xs.length ≤ 9223372036854775807) :
    Con Try.prog 82 [v, .func (.func gp) #[] caps.toArray] [Own (ePair (eInt .i64) (eInt .i64)) 137 v xs, R] (γ := Unit) (fun _ => .int .i64 (idxF p xs)) (fun _ => True) (fun _ => [Own (ePair (eInt .i64) (eInt .i64)) 137 v xs, R]) := by
  refine con_of Try.func82 rfl (Nat.le_of_ble_eq_true rfl) fun w0 O0 => ?_
  refine c_seq ?_
  refine c_region ?_
  refine o_val (v_assign rfl) (Nat.le_of_ble_eq_true rfl) ?_
  refine o_nil ?_
  refine c_seq ?_
  refine c_seq ?_
  refine c_region ?_
  refine o_val (v_move rfl) (Nat.le_of_ble_eq_true rfl) ?_
  refine o_val ((by first | exact v_len_form Try.underlying133 rfl | exact v_len_sl Try.underlying133 rfl (by repeat (first | exact Has.here | exact Has.sl_apd | exact Has.sl_own | exact Has.r_blk | apply Has.there)))) (Nat.le_of_ble_eq_true rfl) ?_
  refine o_val (v_move rfl) (Nat.le_of_ble_eq_true rfl) ?_
  refine o_nil ?_
  refine c_block ?_
  refine c_loop (γ := Nat) (fun i => xs.length - i) (fun i => i ≤ xs.length ∧ ∀ (j : Nat) (hj : j < xs.length), j < i → p xs[j] = false) (fun i => [(8, .int .i64 i), (7, .int .i64 xs.length), (1, .func (.func gp) #[] caps.toArray), (0, v)]) (fun _ => [Own (ePair (eInt .i64) (eInt .i64)) 137 v xs, R]) 0 ⟨Nat.zero_le _, fun _ _ h => by omega⟩ ⟨rfl, rfl, rfl, rfl, trivial⟩ (Picks.ent (by repeat (first | exact Picks.nil | (apply Picks.cons; · repeat (first | exact Pick.keep (Sl.isDup _ _ _) | exact Pick.keep (BlkR.isDup _ _ _) | exact Pick.keep (FldCell.isDup _ _) | exact Pick.here | exact Pick.own_sl | exact Pick.apd_sl | exact Pick.r_blk | exact Pick.sl_nil | exact Pick.own_nil | exact Pick.map_itO _ | apply Pick.there))))) ?_
  rintro i ⟨hi, hall⟩ IH
  try dsimp only [List.cons_append, List.nil_append]
  refine c_seq ?_
  refine c_region ?_
  refine o_val (v_lt rfl rfl) (Nat.le_of_ble_eq_true rfl) ?_
  refine o_nil ?_
  refine c_seq ?_
  refine c_cond_p rfl (fun hlt => ?_) (fun hlt => ?_)
  · refine c_skip ?_
    refine c_seq ?_
    refine c_block ?_
    refine c_seq ?_
    refine c_region ?_
    refine o_val (v_move rfl) (Nat.le_of_ble_eq_true rfl) ?_
    refine o_val (v_assign rfl) (Nat.le_of_ble_eq_true rfl) ?_
    refine o_nil ?_
    refine c_seq ?_
    refine c_region ?_
    refine o_val (v_move rfl) (Nat.le_of_ble_eq_true rfl) ?_
    refine o_val (v_move rfl) (Nat.le_of_ble_eq_true rfl) ?_
    refine o_val (v_move rfl) (Nat.le_of_ble_eq_true rfl) ?_
    refine o_val ((by first | exact v_indexAddrN Try.underlying133 ti137 rfl rfl (by repeat (first | exact Has.here | exact Has.sl_apd | exact Has.sl_own | exact Has.r_blk | apply Has.there)) (by omega) | exact v_indexAddr Try.underlying133 ti137 rfl rfl (by repeat (first | exact Has.here | exact Has.sl_apd | exact Has.sl_own | exact Has.r_blk | apply Has.there)) (by omega))) (Nat.le_of_ble_eq_true rfl) ?_
    refine o_val (v_load_p (by repeat (first | exact PEnc.int _ | exact PEnc.str | exact PEnc.bool | exact PEnc.byte | exact PEnc.raw | apply PEnc.pair | apply PEnc.map)) ⟨_, Try.underlying137⟩ ti137 rfl (by repeat (first | exact Elem.sl (List.getElem?_eq_getElem (by omega)) | exact Elem.own (List.getElem?_eq_getElem (by omega)) | apply Elem.there))) (Nat.le_of_ble_eq_true rfl) ?_
    refine o_step (s_call clp (hp (xs[i]'(by omega)) (List.getElem_mem _)) (first := []) (cap := caps) rfl rfl (by rfl) (Nat.le_of_ble_eq_true rfl) (by repeat (first | exact Picks.nil | (apply Picks.cons; · repeat (first | exact Pick.keep (Sl.isDup _ _ _) | exact Pick.keep (BlkR.isDup _ _ _) | exact Pick.keep (FldCell.isDup _ _) | exact Pick.here | exact Pick.own_sl | exact Pick.apd_sl | exact Pick.r_blk | exact Pick.sl_nil | exact Pick.own_nil | exact Pick.map_itO _ | apply Pick.there)))) fun _ _ => ?_)
    refine o_nil ?_
    refine c_cond rfl (fun hc => ?_) (fun hc => ?_)
    · refine c_seq ?_
      refine c_region ?_
      refine o_val (v_move rfl) (Nat.le_of_ble_eq_true rfl) ?_
      refine o_val (v_assign rfl) (Nat.le_of_ble_eq_true rfl) ?_
      refine o_nil ?_
      refine c_ret1 Try.func82 rfl rfl fun w O hS => ?_
      exact ⟨(), congrArg (Value.int .i64) (idxF_some (by omega) hc fun j hj => hall j (by omega) hj).symm, trivial, Ent.get hS (Picks.ent (by repeat (first | exact Picks.nil | (apply Picks.cons; · repeat (first | exact Pick.keep (Sl.isDup _ _ _) | exact Pick.keep (BlkR.isDup _ _ _) | exact Pick.keep (FldCell.isDup _ _) | exact Pick.here | exact Pick.own_sl | exact Pick.apd_sl | exact Pick.r_blk | exact Pick.sl_nil | exact Pick.own_nil | exact Pick.map_itO _ | apply Pick.there)))))⟩
    · refine c_skip ?_
      refine c_inBlock ?_
      refine c_region ?_
      refine o_val ((by first | exact v_add64 rfl rfl (by omega) | exact v_add rfl rfl)) (Nat.le_of_ble_eq_true rfl) ?_
      refine o_val (v_move rfl) (Nat.le_of_ble_eq_true rfl) ?_
      refine o_nil ?_
      refine c_use (IH (i + 1) (by omega) ⟨by omega, fun j hj hji => ?_⟩) ⟨rfl, rfl, rfl, rfl, trivial⟩ (Picks.ent (by repeat (first | exact Picks.nil | (apply Picks.cons; · repeat (first | exact Pick.keep (Sl.isDup _ _ _) | exact Pick.keep (BlkR.isDup _ _ _) | exact Pick.keep (FldCell.isDup _ _) | exact Pick.here | exact Pick.own_sl | exact Pick.apd_sl | exact Pick.r_blk | exact Pick.sl_nil | exact Pick.own_nil | exact Pick.map_itO _ | apply Pick.there)))))
      by_cases h : j = i
      · subst h; exact hc
      · exact hall j hj (by omega)
  · refine c_exit rfl ?_
    refine c_seq ?_
    refine c_region ?_
    refine o_val (v_assign rfl) (Nat.le_of_ble_eq_true rfl) ?_
    refine o_nil ?_
    refine c_ret1 Try.func82 rfl rfl fun w O hS => ?_
    exact ⟨(), congrArg (Value.int .i64) (idxF_none fun j hj => hall j hj (by omega)).symm, trivial, Ent.get hS (Picks.ent (by repeat (first | exact Picks.nil | (apply Picks.cons; · repeat (first | exact Pick.keep (Sl.isDup _ _ _) | exact Pick.keep (BlkR.isDup _ _ _) | exact Pick.keep (FldCell.isDup _ _) | exact Pick.here | exact Pick.own_sl | exact Pick.apd_sl | exact Pick.r_blk | exact Pick.sl_nil | exact Pick.own_nil | exact Pick.map_itO _ | apply Pick.there)))))⟩

theorem del_step {α : Type} {q : α → Bool} {xs ws : List α} {i j : Nat} (hj : j < xs.length) (hl : ws.length = xs.length) (hi : i = ((xs.take j).filter q).length) (ht : ws.take i = (xs.take j).filter q) (hd : ws.drop j = xs.drop j) :
    ws[j]'(by omega) = xs[j] ∧ i ≤ j ∧ (q xs[j] = true → i + 1 = ((xs.take (j + 1)).filter q).length ∧ (ws.set i xs[j]).take (i + 1) = (xs.take (j + 1)).filter q ∧ (ws.set i xs[j]).drop (j + 1) = xs.drop (j + 1)) ∧
      (q xs[j] = false → i = ((xs.take (j + 1)).filter q).length ∧ ws.take i = (xs.take (j + 1)).filter q ∧ ws.drop (j + 1) = xs.drop (j + 1)) := by
  have e1 : ws[j]'(by omega) = xs[j] := by
    have := congrArg (fun l => l[0]?) hd
    simpa [List.getElem?_drop, List.getElem?_eq_getElem hj, List.getElem?_eq_getElem (show j < ws.length by omega)] using this
  have hij : i ≤ j := by
    rw [hi]; exact Nat.le_trans (List.length_filter_le _ _) (by simp; omega)
  have hd1 : ws.drop (j + 1) = xs.drop (j + 1) := by
    have := congrArg (List.drop 1) hd
    simpa [List.drop_drop, Nat.add_comm] using this
  have htk : xs.take (j + 1) = xs.take j ++ [xs[j]] := List.take_succ_eq_append_getElem hj
  refine ⟨e1, hij, fun hq => ?_, fun hq => ?_⟩
  · refine ⟨by rw [htk, List.filter_append, List.length_append, ← hi]; simp [hq], ?_, ?_⟩
    · rw [htk, List.filter_append, ← ht]
      rw [List.take_succ_eq_append_getElem (by simp; omega), List.take_set_of_le (Nat.le_refl _)]
      simp [hq]
    · rw [List.drop_set_of_lt (by omega), hd1]
  · refine ⟨by rw [htk, List.filter_append, List.length_append, ← hi]; simp [hq], ?_, hd1⟩
    rw [htk, List.filter_append, ← ht]; simp [hq]
set_option maxRecDepth 100000 in
theorem deleteFunc_S {gp : FuncId} {caps : List Value} {R : A} {p : ByteArray → Bool} (clp : Callable Try.prog gp) (v : Value) (xs : List (ByteArray)) (hp : ∀ x ∈ xs, Con Try.prog gp (.string x :: caps) [R] (γ := Unit) (fun _ => .bool (p x)) (fun _ => True) (fun _ => [R])) (hx : xs.length ≤ 9223372036854775806) :
    Con Try.prog 92 [v, .func (.func gp) #[] caps.toArray] [Own eStr 9 v xs, R] (γ := Value) (fun r => r) (fun _ => True) (fun r => [Own eStr 9 r (xs.filter fun x => !p x), R]) := by
  refine Con.own (v := v) (xs := xs) Has.here ?_ ?_
  · rintro rfl rfl
    refine con_of Try.func92 rfl (Nat.le_of_ble_eq_true rfl) fun w0 O0 => ?_
    refine c_seq ?_
    refine c_region ?_
    refine o_val (v_assign rfl) (Nat.le_of_ble_eq_true rfl) ?_
    refine o_nil ?_
    refine c_seq ?_
    refine c_region ?_
    refine o_val (v_move rfl) (Nat.le_of_ble_eq_true rfl) ?_
    refine o_val (v_move rfl) (Nat.le_of_ble_eq_true rfl) ?_
    refine o_step (s_callf cl116 (indexFunc_S clp (.slice none 0 0) [] hp (by omega)) rfl (Nat.le_of_ble_eq_true rfl) (by repeat (first | exact Picks.nil | (apply Picks.cons; · repeat (first | exact Pick.keep (Sl.isDup _ _ _) | exact Pick.keep (BlkR.isDup _ _ _) | exact Pick.keep (FldCell.isDup _ _) | exact Pick.here | exact Pick.own_sl | exact Pick.apd_sl | exact Pick.r_blk | exact Pick.sl_nil | exact Pick.own_nil | exact Pick.map_itO _ | apply Pick.there)))) fun _ _ => ?_)
    refine o_val (v_assign rfl) (Nat.le_of_ble_eq_true rfl) ?_
    refine o_nil ?_
    refine c_seq ?_
    refine c_seq ?_
    refine c_region ?_
    refine o_val (v_move rfl) (Nat.le_of_ble_eq_true rfl) ?_
    refine o_val (v_eq rfl rfl) (Nat.le_of_ble_eq_true rfl) ?_
    refine o_nil ?_
    refine c_cond_p rfl (fun hm => ?_) (fun hm => ?_)
    · refine c_seq ?_
      refine c_region ?_
      refine o_val (v_move rfl) (Nat.le_of_ble_eq_true rfl) ?_
      refine o_val (v_assign rfl) (Nat.le_of_ble_eq_true rfl) ?_
      refine o_nil ?_
      refine c_ret1 Try.func92 rfl rfl fun w O hS => ?_
      exact ⟨_, rfl, trivial, Ent.get hS (Picks.ent (by repeat (first | exact Picks.nil | (apply Picks.cons; · repeat (first | exact Pick.keep (Sl.isDup _ _ _) | exact Pick.keep (BlkR.isDup _ _ _) | exact Pick.keep (FldCell.isDup _ _) | exact Pick.here | exact Pick.own_sl | exact Pick.apd_sl | exact Pick.r_blk | exact Pick.sl_nil | exact Pick.own_nil | exact Pick.map_itO _ | apply Pick.there)))))⟩
    · skip
      exact absurd rfl hm
  · rintro g cap rfl hcap
    refine con_of Try.func92 rfl (Nat.le_of_ble_eq_true rfl) fun w0 O0 => ?_
    refine c_seq ?_
    refine c_region ?_
    refine o_val (v_assign rfl) (Nat.le_of_ble_eq_true rfl) ?_
    refine o_nil ?_
    refine c_seq ?_
    refine c_region ?_
    refine o_val (v_move rfl) (Nat.le_of_ble_eq_true rfl) ?_
    refine o_val (v_move rfl) (Nat.le_of_ble_eq_true rfl) ?_
    refine o_step (s_callf cl116 (indexFunc_S clp (.slice (some ⟨g, 0, none⟩) xs.length cap) xs hp (by omega)) rfl (Nat.le_of_ble_eq_true rfl) (by repeat (first | exact Picks.nil | (apply Picks.cons; · repeat (first | exact Pick.keep (Sl.isDup _ _ _) | exact Pick.keep (BlkR.isDup _ _ _) | exact Pick.keep (FldCell.isDup _ _) | exact Pick.here | exact Pick.own_sl | exact Pick.apd_sl | exact Pick.r_blk | exact Pick.sl_nil | exact Pick.own_nil | exact Pick.map_itO _ | apply Pick.there)))) fun _ _ => ?_)
    refine o_val (v_assign rfl) (Nat.le_of_ble_eq_true rfl) ?_
    refine o_nil ?_
    refine c_seq ?_
    refine c_seq ?_
    refine c_region ?_
    refine o_val (v_move rfl) (Nat.le_of_ble_eq_true rfl) ?_
    refine o_val (v_eq rfl rfl) (Nat.le_of_ble_eq_true rfl) ?_
    refine o_nil ?_
    refine c_cond_p rfl (fun hm => ?_) (fun hm => ?_)
    · refine c_seq ?_
      refine c_region ?_
      refine o_val (v_move rfl) (Nat.le_of_ble_eq_true rfl) ?_
      refine o_val (v_assign rfl) (Nat.le_of_ble_eq_true rfl) ?_
      refine o_nil ?_
      refine c_ret1 Try.func92 rfl rfl fun w O hS => ?_
      refine ⟨_, rfl, trivial, ?_⟩
      have : xs.filter (fun x => !p x) = xs := List.filter_eq_self.2 fun x hxm => by
        rcases idxF_cases p xs with ⟨_, h⟩ | ⟨i, hi, h, _⟩
        · simp [h x hxm]
        · omega
      rw [this]
      exact Ent.get hS (Picks.ent (by repeat (first | exact Picks.nil | (apply Picks.cons; · repeat (first | exact Pick.keep (Sl.isDup _ _ _) | exact Pick.keep (BlkR.isDup _ _ _) | exact Pick.keep (FldCell.isDup _ _) | exact Pick.here | exact Pick.own_sl | exact Pick.apd_sl | exact Pick.r_blk | exact Pick.sl_nil | exact Pick.own_nil | exact Pick.map_itO _ | apply Pick.there)))))
    · obtain ⟨i0, hi0, he, hp1, hp2⟩ := (idxF_cases p xs).resolve_left fun h => hm h.1
      rw [he]
      refine c_skip ?_
      refine c_seq ?_
      refine c_seq ?_
      refine c_region ?_
      refine o_val (v_move rfl) (Nat.le_of_ble_eq_true rfl) ?_
      refine o_val ((by first | exact v_add64 rfl rfl (by omega) | exact v_add rfl rfl)) (Nat.le_of_ble_eq_true rfl) ?_
      refine o_val (v_assign rfl) (Nat.le_of_ble_eq_true rfl) ?_
      refine o_nil ?_
      refine c_block ?_
      have hf0 : (xs.take i0).filter (fun x => !p x) = xs.take i0 := List.filter_eq_self.2 fun x hxm => by
        obtain ⟨j, hj, rfl⟩ := List.mem_iff_getElem.1 hxm
        simp only [List.length_take] at hj
        simp [hp2 j (by omega)]
      have hf1 : (xs.take (i0 + 1)).filter (fun x => !p x) = xs.take i0 := by
        rw [List.take_succ_eq_append_getElem hi0, List.filter_append, hf0]; simp [hp1]
      refine c_loop (γ := Nat × Nat × List (ByteArray)) (fun s => xs.length - s.1) (fun s => s.1 ≤ xs.length ∧ s.2.2.length = xs.length ∧ s.2.1 = ((xs.take s.1).filter fun x => !p x).length ∧ s.2.2.take s.2.1 = (xs.take s.1).filter (fun x => !p x) ∧ s.2.2.drop s.1 = xs.drop s.1) (fun s => [(6, .int .i64 s.1), (5, .int .i64 s.2.1), (1, .func (.func gp) #[] caps.toArray), (0, .slice (some ⟨g, 0, none⟩) s.2.2.length cap)]) (fun s => [Own eStr 9 (.slice (some ⟨g, 0, none⟩) s.2.2.length cap) s.2.2, R]) (i0 + 1, i0, xs) ⟨by omega, rfl, by rw [hf1]; simp; omega, by rw [hf1], rfl⟩ ⟨rfl, rfl, rfl, rfl, trivial⟩ (Picks.ent (by repeat (first | exact Picks.nil | (apply Picks.cons; · repeat (first | exact Pick.keep (Sl.isDup _ _ _) | exact Pick.keep (BlkR.isDup _ _ _) | exact Pick.keep (FldCell.isDup _ _) | exact Pick.here | exact Pick.own_sl | exact Pick.apd_sl | exact Pick.r_blk | exact Pick.sl_nil | exact Pick.own_nil | exact Pick.map_itO _ | apply Pick.there))))) ?_
      rintro ⟨j, i, ws⟩ ⟨hj, hl, hi, ht, hd⟩ IH
      dsimp only at hj hl hi ht hd ⊢
      try dsimp only [List.cons_append, List.nil_append]
      refine c_seq ?_
      refine c_seq ?_
      refine c_region ?_
      refine o_val (v_move rfl) (Nat.le_of_ble_eq_true rfl) ?_
      refine o_val (v_move rfl) (Nat.le_of_ble_eq_true rfl) ?_
      refine o_val ((by first | exact v_len_form Try.underlying30 rfl | exact v_len_sl Try.underlying30 rfl (by repeat (first | exact Has.here | exact Has.sl_apd | exact Has.sl_own | exact Has.r_blk | apply Has.there)))) (Nat.le_of_ble_eq_true rfl) ?_
      refine o_val (v_lt rfl rfl) (Nat.le_of_ble_eq_true rfl) ?_
      refine o_nil ?_
      refine c_cond_p rfl (fun hlt => ?_) (fun hlt => ?_)
      · have hlt' : j < xs.length := by omega
        obtain ⟨e1, hij, hs1, hs2⟩ := del_step hlt' hl hi ht hd
        refine c_skip ?_
        refine c_seq ?_
        refine c_block ?_
        refine c_seq ?_
        refine c_region ?_
        refine o_val (v_move rfl) (Nat.le_of_ble_eq_true rfl) ?_
        refine o_val (v_move rfl) (Nat.le_of_ble_eq_true rfl) ?_
        refine o_val ((by first | exact v_indexAddrN Try.underlying30 ti9 rfl rfl (by repeat (first | exact Has.here | exact Has.sl_apd | exact Has.sl_own | exact Has.r_blk | apply Has.there)) (by omega) | exact v_indexAddr Try.underlying30 ti9 rfl rfl (by repeat (first | exact Has.here | exact Has.sl_apd | exact Has.sl_own | exact Has.r_blk | apply Has.there)) (by omega))) (Nat.le_of_ble_eq_true rfl) ?_
        refine o_val (v_load_str lone9 rfl (by repeat (first | exact Elem.sl (List.getElem?_eq_getElem (by omega)) | exact Elem.own (List.getElem?_eq_getElem (by omega)) | apply Elem.there))) (Nat.le_of_ble_eq_true rfl) ?_
        refine o_val (v_assign rfl) (Nat.le_of_ble_eq_true rfl) ?_
        refine o_nil ?_
        refine c_seq ?_
        refine c_region ?_
        refine o_val (v_move rfl) (Nat.le_of_ble_eq_true rfl) ?_
        refine o_val (v_move rfl) (Nat.le_of_ble_eq_true rfl) ?_
        refine o_step (s_call clp (hp (ws[j]'(by omega)) (by rw [e1]; exact List.getElem_mem _)) (first := []) (cap := caps) rfl rfl (by rfl) (Nat.le_of_ble_eq_true rfl) (by repeat (first | exact Picks.nil | (apply Picks.cons; · repeat (first | exact Pick.keep (Sl.isDup _ _ _) | exact Pick.keep (BlkR.isDup _ _ _) | exact Pick.keep (FldCell.isDup _ _) | exact Pick.here | exact Pick.own_sl | exact Pick.apd_sl | exact Pick.r_blk | exact Pick.sl_nil | exact Pick.own_nil | exact Pick.map_itO _ | apply Pick.there)))) fun _ _ => ?_)
        refine o_val (v_not rfl) (Nat.le_of_ble_eq_true rfl) ?_
        refine o_nil ?_
        refine c_cond rfl (fun hc => ?_) (fun hc => ?_)
        · refine c_seq ?_
          refine c_region ?_
          refine o_val (v_move rfl) (Nat.le_of_ble_eq_true rfl) ?_
          refine o_val (v_move rfl) (Nat.le_of_ble_eq_true rfl) ?_
          refine o_val (v_move rfl) (Nat.le_of_ble_eq_true rfl) ?_
          refine o_val ((by first | exact v_indexAddrN Try.underlying30 ti9 rfl rfl (by repeat (first | exact Has.here | exact Has.sl_apd | exact Has.sl_own | exact Has.r_blk | apply Has.there)) (by omega) | exact v_indexAddr Try.underlying30 ti9 rfl rfl (by repeat (first | exact Has.here | exact Has.sl_apd | exact Has.sl_own | exact Has.r_blk | apply Has.there)) (by omega))) (Nat.le_of_ble_eq_true rfl) ?_
          refine o_step (s_store_elem (z := ws[j]'(by omega)) ti9 rfl rfl (by first | exact CellsV.lit rfl | exact CellsV.one (by first | exact OneC.lit rfl | exact OneC.sl (by repeat (first | exact Has.here | exact Has.sl_apd | exact Has.sl_own | exact Has.r_blk | apply Has.there)))) (by repeat (first | exact Pick.here | exact Pick.own_nil | apply Pick.there)) (by exact (by first | exact Beside.rd fun _ _ => rfl | exact Beside.rd fun _ _ => ⟨_, _, rfl, rfl, rfl⟩)) (by omega) (?_))
          refine o_nil ?_
          refine c_region ?_
          refine o_val (v_move rfl) (Nat.le_of_ble_eq_true rfl) ?_
          refine o_val ((by first | exact v_add64 rfl rfl (by omega) | exact v_add rfl rfl)) (Nat.le_of_ble_eq_true rfl) ?_
          refine o_val (v_assign rfl) (Nat.le_of_ble_eq_true rfl) ?_
          refine o_nil ?_
          refine c_inBlock ?_
          refine c_region ?_
          refine o_val (v_move rfl) (Nat.le_of_ble_eq_true rfl) ?_
          refine o_val ((by first | exact v_add64 rfl rfl (by omega) | exact v_add rfl rfl)) (Nat.le_of_ble_eq_true rfl) ?_
          refine o_val (v_assign rfl) (Nat.le_of_ble_eq_true rfl) ?_
          refine o_nil ?_
          have hq : (fun x => !p x) xs[j] = true := by rw [← e1]; exact hc
          refine c_use (IH (j + 1, i + 1, ws.set i (ws[j]'(by omega))) (by simp only; omega) ⟨by simp only; omega, by simp only [List.length_set]; exact hl, ?_⟩) ⟨rfl, rfl, rfl, by simp only [List.length_set]; rfl, trivial⟩ (by simp only [List.length_set]; exact (Picks.ent (by repeat (first | exact Picks.nil | (apply Picks.cons; · repeat (first | exact Pick.keep (Sl.isDup _ _ _) | exact Pick.keep (BlkR.isDup _ _ _) | exact Pick.keep (FldCell.isDup _ _) | exact Pick.here | exact Pick.own_sl | exact Pick.apd_sl | exact Pick.r_blk | exact Pick.sl_nil | exact Pick.own_nil | exact Pick.map_itO _ | apply Pick.there))))))
          simp only [e1]
          exact hs1 hq
        · refine c_skip ?_
          refine c_inBlock ?_
          refine c_region ?_
          refine o_val (v_move rfl) (Nat.le_of_ble_eq_true rfl) ?_
          refine o_val ((by first | exact v_add64 rfl rfl (by omega) | exact v_add rfl rfl)) (Nat.le_of_ble_eq_true rfl) ?_
          refine o_val (v_assign rfl) (Nat.le_of_ble_eq_true rfl) ?_
          refine o_nil ?_
          have hq : (fun x => !p x) xs[j] = false := by rw [← e1]; exact hc
          refine c_use (IH (j + 1, i, ws) (by simp only; omega) ⟨by simp only; omega, hl, hs2 hq⟩) ⟨rfl, rfl, rfl, rfl, trivial⟩ (Picks.ent (by repeat (first | exact Picks.nil | (apply Picks.cons; · repeat (first | exact Pick.keep (Sl.isDup _ _ _) | exact Pick.keep (BlkR.isDup _ _ _) | exact Pick.keep (FldCell.isDup _ _) | exact Pick.here | exact Pick.own_sl | exact Pick.apd_sl | exact Pick.r_blk | exact Pick.sl_nil | exact Pick.own_nil | exact Pick.map_itO _ | apply Pick.there)))))
      · have hje : j = xs.length := by omega
        have hij : i ≤ ws.length := by rw [hi]; exact Nat.le_trans (List.length_filter_le _ _) (by simp; omega)
        refine c_exit rfl ?_
        refine c_seq ?_
        refine c_region ?_
        refine o_val (v_move rfl) (Nat.le_of_ble_eq_true rfl) ?_
        refine o_val (v_move rfl) (Nat.le_of_ble_eq_true rfl) ?_
        refine o_val (v_slice Try.underlying30 ti9 rfl (.inr ⟨_, _, _, rfl, rfl, by omega, rfl⟩) (.inl ⟨rfl, rfl, rfl⟩) (.inl ⟨rfl, rfl⟩) (by omega) (by omega) (by omega)) (Nat.le_of_ble_eq_true rfl) ?_
        simp only [Int.toNat_natCast]
        refine o_step (s_clear_tail (e := eStr) (zs := ws) (z := .string ⟨#[]⟩) rfl Try.underlying30 ti9 rfl (fun _ _ => rfl) (by decide) rfl rfl (by omega) (by omega) (by repeat (first | exact Pick.here | exact Pick.own_nil | apply Pick.there)) fun ys hys => ?_)
        refine o_nil ?_
        refine c_seq ?_
        refine c_region ?_
        refine o_val (v_move rfl) (Nat.le_of_ble_eq_true rfl) ?_
        refine o_val (v_move rfl) (Nat.le_of_ble_eq_true rfl) ?_
        refine o_val (v_slice Try.underlying30 ti9 rfl (.inl ⟨rfl, rfl⟩) (.inr ⟨_, _, _, rfl, rfl, by omega, rfl⟩) (.inl ⟨rfl, rfl⟩) (by omega) (by omega) (by omega)) (Nat.le_of_ble_eq_true rfl) ?_
        refine o_val (v_assign rfl) (Nat.le_of_ble_eq_true rfl) ?_
        refine o_nil ?_
        refine c_ret1 Try.func92 rfl rfl fun w O hS => ?_
        refine ⟨_, rfl, trivial, ?_⟩
        rw [Int.toNat_natCast, cutV_zero]
        have e2 : (ws.take i ++ ys).take i = xs.filter fun x => !p x := by
          rw [List.take_left' (by simp; omega), ht, hje, List.take_length]
        rw [← e2]
        refine Ent.get (Ent.get hS (L' := [Own eStr 9 (.slice (some ⟨g, 0, none⟩) (ws.take i ++ ys).length cap) (ws.take i ++ ys), R]) ?_) (Ent.head fun _ _ h => Own.cut h (by simp; omega))
        have e3 : (ws.take i ++ ys).length = ws.length := by simp; omega
        rw [e3]
        exact (Picks.ent (by repeat (first | exact Picks.nil | (apply Picks.cons; · repeat (first | exact Pick.keep (Sl.isDup _ _ _) | exact Pick.keep (BlkR.isDup _ _ _) | exact Pick.keep (FldCell.isDup _ _) | exact Pick.here | exact Pick.own_sl | exact Pick.apd_sl | exact Pick.r_blk | exact Pick.sl_nil | exact Pick.own_nil | exact Pick.map_itO _ | apply Pick.there)))))
set_option maxRecDepth 100000 in
theorem deleteFunc_W {gp : FuncId} {caps : List Value} {R : A} {p : Int × Int → Bool} (clp : Callable Try.prog gp) (v : Value) (xs : List (Int × Int)) (hp : ∀ x ∈ xs, Con Try.prog gp (Value.agg ([Value.int .i64 x.1] ++ [Value.int .i64 x.2]).toArray :: caps) [R] (γ := Unit) (fun _ => .bool (p x)) (fun _ => True) (fun _ => [R])) (hx : xs.length ≤ 9223372036854775806) :
    Con Try.prog 105 [v, .func (.func gp) #[] caps.toArray] [Own (ePair (eInt .i64) (eInt .i64)) 137 v xs, R] (γ := Value) (fun r => r) (fun _ => True) (fun r => [Own (ePair (eInt .i64) (eInt .i64)) 137 r (xs.filter fun x => !p x), R]) := by
  refine Con.own (v := v) (xs := xs) Has.here ?_ ?_
  · rintro rfl rfl
    refine con_of Try.func105 rfl (Nat.le_of_ble_eq_true rfl) fun w0 O0 => ?_
    refine c_seq ?_
    refine c_region ?_
    refine o_val (v_assign rfl) (Nat.le_of_ble_eq_true rfl) ?_
    refine o_nil ?_
    refine c_seq ?_
    refine c_region ?_
    refine o_val (v_move rfl) (Nat.le_of_ble_eq_true rfl) ?_
    refine o_val (v_move rfl) (Nat.le_of_ble_eq_true rfl) ?_
    refine o_step (s_callf cl82 (indexFunc_W clp (.slice none 0 0) [] hp (by omega)) rfl (Nat.le_of_ble_eq_true rfl) (by repeat (first | exact Picks.nil | (apply Picks.cons; · repeat (first | exact Pick.keep (Sl.isDup _ _ _) | exact Pick.keep (BlkR.isDup _ _ _) | exact Pick.keep (FldCell.isDup _ _) | exact Pick.here | exact Pick.own_sl | exact Pick.apd_sl | exact Pick.r_blk | exact Pick.sl_nil | exact Pick.own_nil | exact Pick.map_itO _ | apply Pick.there)))) fun _ _ => ?_)
    refine o_val (v_assign rfl) (Nat.le_of_ble_eq_true rfl) ?_
    refine o_nil ?_
    refine c_seq ?_
    refine c_seq ?_
    refine c_region ?_
    refine o_val (v_move rfl) (Nat.le_of_ble_eq_true rfl) ?_
    refine o_val (v_eq rfl rfl) (Nat.le_of_ble_eq_true rfl) ?_
    refine o_nil ?_
    refine c_cond_p rfl (fun hm => ?_) (fun hm => ?_)
    · refine c_seq ?_
      refine c_region ?_
      refine o_val (v_move rfl) (Nat.le_of_ble_eq_true rfl) ?_
      refine o_val (v_assign rfl) (Nat.le_of_ble_eq_true rfl) ?_
      refine o_nil ?_
      refine c_ret1 Try.func105 rfl rfl fun w O hS => ?_
      exact ⟨_, rfl, trivial, Ent.get hS (Picks.ent (by repeat (first | exact Picks.nil | (apply Picks.cons; · repeat (first | exact Pick.keep (Sl.isDup _ _ _) | exact Pick.keep (BlkR.isDup _ _ _) | exact Pick.keep (FldCell.isDup _ _) | exact Pick.here | exact Pick.own_sl | exact Pick.apd_sl | exact Pick.r_blk | exact Pick.sl_nil | exact Pick.own_nil | exact Pick.map_itO _ | apply Pick.there)))))⟩
    · skip
      exact absurd rfl hm
  · rintro g cap rfl hcap
    refine con_of Try.func105 rfl (Nat.le_of_ble_eq_true rfl) fun w0 O0 => ?_
    refine c_seq ?_
    refine c_region ?_
    refine o_val (v_assign rfl) (Nat.le_of_ble_eq_true rfl) ?_
    refine o_nil ?_
    refine c_seq ?_
    refine c_region ?_
    refine o_val (v_move rfl) (Nat.le_of_ble_eq_true rfl) ?_
    refine o_val (v_move rfl) (Nat.le_of_ble_eq_true rfl) ?_
    refine o_step (s_callf cl82 (indexFunc_W clp (.slice (some ⟨g, 0, none⟩) xs.length cap) xs hp (by omega)) rfl (Nat.le_of_ble_eq_true rfl) (by repeat (first | exact Picks.nil | (apply Picks.cons; · repeat (first | exact Pick.keep (Sl.isDup _ _ _) | exact Pick.keep (BlkR.isDup _ _ _) | exact Pick.keep (FldCell.isDup _ _) | exact Pick.here | exact Pick.own_sl | exact Pick.apd_sl | exact Pick.r_blk | exact Pick.sl_nil | exact Pick.own_nil | exact Pick.map_itO _ | apply Pick.there)))) fun _ _ => ?_)
    refine o_val (v_assign rfl) (Nat.le_of_ble_eq_true rfl) ?_
    refine o_nil ?_
    refine c_seq ?_
    refine c_seq ?_
    refine c_region ?_
    refine o_val (v_move rfl) (Nat.le_of_ble_eq_true rfl) ?_
    refine o_val (v_eq rfl rfl) (Nat.le_of_ble_eq_true rfl) ?_
    refine o_nil ?_
    refine c_cond_p rfl (fun hm => ?_) (fun hm => ?_)
    · refine c_seq ?_
      refine c_region ?_
      refine o_val (v_move rfl) (Nat.le_of_ble_eq_true rfl) ?_
      refine o_val (v_assign rfl) (Nat.le_of_ble_eq_true rfl) ?_
      refine o_nil ?_
      refine c_ret1 Try.func105 rfl rfl fun w O hS => ?_
      refine ⟨_, rfl, trivial, ?_⟩
      have : xs.filter (fun x => !p x) = xs := List.filter_eq_self.2 fun x hxm => by
        rcases idxF_cases p xs with ⟨_, h⟩ | ⟨i, hi, h, _⟩
        · simp [h x hxm]
        · omega
      rw [this]
      exact Ent.get hS (Picks.ent (by repeat (first | exact Picks.nil | (apply Picks.cons; · repeat (first | exact Pick.keep (Sl.isDup _ _ _) | exact Pick.keep (BlkR.isDup _ _ _) | exact Pick.keep (FldCell.isDup _ _) | exact Pick.here | exact Pick.own_sl | exact Pick.apd_sl | exact Pick.r_blk | exact Pick.sl_nil | exact Pick.own_nil | exact Pick.map_itO _ | apply Pick.there)))))
    · obtain ⟨i0, hi0, he, hp1, hp2⟩ := (idxF_cases p xs).resolve_left fun h => hm h.1
      rw [he]
      refine c_skip ?_
      refine c_seq ?_
      refine c_seq ?_
      refine c_region ?_
      refine o_val (v_move rfl) (Nat.le_of_ble_eq_true rfl) ?_
      refine o_val ((by first | exact v_add64 rfl rfl (by omega) | exact v_add rfl rfl)) (Nat.le_of_ble_eq_true rfl) ?_
      refine o_val (v_assign rfl) (Nat.le_of_ble_eq_true rfl) ?_
      refine o_nil ?_
      refine c_block ?_
      have hf0 : (xs.take i0).filter (fun x => !p x) = xs.take i0 := List.filter_eq_self.2 fun x hxm => by
        obtain ⟨j, hj, rfl⟩ := List.mem_iff_getElem.1 hxm
        simp only [List.length_take] at hj
        simp [hp2 j (by omega)]
      have hf1 : (xs.take (i0 + 1)).filter (fun x => !p x) = xs.take i0 := by
        rw [List.take_succ_eq_append_getElem hi0, List.filter_append, hf0]; simp [hp1]
      refine c_loop (γ := Nat × Nat × List (Int × Int)) (fun s => xs.length - s.1) (fun s => s.1 ≤ xs.length ∧ s.2.2.length = xs.length ∧ s.2.1 = ((xs.take s.1).filter fun x => !p x).length ∧ s.2.2.take s.2.1 = (xs.take s.1).filter (fun x => !p x) ∧ s.2.2.drop s.1 = xs.drop s.1) (fun s => [(6, .int .i64 s.1), (5, .int .i64 s.2.1), (1, .func (.func gp) #[] caps.toArray), (0, .slice (some ⟨g, 0, none⟩) s.2.2.length cap)]) (fun s => [Own (ePair (eInt .i64) (eInt .i64)) 137 (.slice (some ⟨g, 0, none⟩) s.2.2.length cap) s.2.2, R]) (i0 + 1, i0, xs) ⟨by omega, rfl, by rw [hf1]; simp; omega, by rw [hf1], rfl⟩ ⟨rfl, rfl, rfl, rfl, trivial⟩ (Picks.ent (by repeat (first | exact Picks.nil | (apply Picks.cons; · repeat (first | exact Pick.keep (Sl.isDup _ _ _) | exact Pick.keep (BlkR.isDup _ _ _) | exact Pick.keep (FldCell.isDup _ _) | exact Pick.here | exact Pick.own_sl | exact Pick.apd_sl | exact Pick.r_blk | exact Pick.sl_nil | exact Pick.own_nil | exact Pick.map_itO _ | apply Pick.there))))) ?_
      rintro ⟨j, i, ws⟩ ⟨hj, hl, hi, ht, hd⟩ IH
      dsimp only at hj hl hi ht hd ⊢
      try dsimp only [List.cons_append, List.nil_append]
      refine c_seq ?_
      refine c_seq ?_
      refine c_region ?_
      refine o_val (v_move rfl) (Nat.le_of_ble_eq_true rfl) ?_
      refine o_val (v_move rfl) (Nat.le_of_ble_eq_true rfl) ?_
      refine o_val ((by first | exact v_len_form Try.underlying133 rfl | exact v_len_sl Try.underlying133 rfl (by repeat (first | exact Has.here | exact Has.sl_apd | exact Has.sl_own | exact Has.r_blk | apply Has.there)))) (Nat.le_of_ble_eq_true rfl) ?_
      refine o_val (v_lt rfl rfl) (Nat.le_of_ble_eq_true rfl) ?_
      refine o_nil ?_
      refine c_cond_p rfl (fun hlt => ?_) (fun hlt => ?_)
      · have hlt' : j < xs.length := by omega
        obtain ⟨e1, hij, hs1, hs2⟩ := del_step hlt' hl hi ht hd
        refine c_skip ?_
        refine c_seq ?_
        refine c_block ?_
        refine c_seq ?_
        refine c_region ?_
        refine o_val (v_move rfl) (Nat.le_of_ble_eq_true rfl) ?_
        refine o_val (v_move rfl) (Nat.le_of_ble_eq_true rfl) ?_
        refine o_val ((by first | exact v_indexAddrN Try.underlying133 ti137 rfl rfl (by repeat (first | exact Has.here | exact Has.sl_apd | exact Has.sl_own | exact Has.r_blk | apply Has.there)) (by omega) | exact v_indexAddr Try.underlying133 ti137 rfl rfl (by repeat (first | exact Has.here | exact Has.sl_apd | exact Has.sl_own | exact Has.r_blk | apply Has.there)) (by omega))) (Nat.le_of_ble_eq_true rfl) ?_
        refine o_val (v_load_p (by repeat (first | exact PEnc.int _ | exact PEnc.str | exact PEnc.bool | exact PEnc.byte | exact PEnc.raw | apply PEnc.pair | apply PEnc.map)) ⟨_, Try.underlying137⟩ ti137 rfl (by repeat (first | exact Elem.sl (List.getElem?_eq_getElem (by omega)) | exact Elem.own (List.getElem?_eq_getElem (by omega)) | apply Elem.there))) (Nat.le_of_ble_eq_true rfl) ?_
        refine o_step (s_alloc ti137 (Nat.le_of_ble_eq_true rfl) (fun b7 => ?_))
        refine o_step (s_store_all ti137 rfl rfl (by first | exact CellsV.lit rfl | exact CellsV.one (by first | exact OneC.lit rfl | exact OneC.sl (by repeat (first | exact Has.here | exact Has.sl_apd | exact Has.sl_own | exact Has.r_blk | apply Has.there)))) (by repeat (first | exact OneAll.nil | (refine OneAll.cons ?_ ?_; · first | exact OneC.lit rfl | exact OneC.sl (by repeat (first | exact Has.here | exact Has.sl_apd | exact Has.sl_own | exact Has.r_blk | apply Has.there))) | exact OneAll.rd (by repeat (first | exact Has.here | exact Has.sl_apd | exact Has.sl_own | exact Has.r_blk | apply Has.there)))) rfl (by repeat (first | exact Pick.here | exact Pick.own_nil | apply Pick.there)) rfl (?_))
        refine o_nil ?_
        refine c_seq ?_
        refine c_region ?_
        refine o_val (v_move rfl) (Nat.le_of_ble_eq_true rfl) ?_
        refine o_val (v_load_all ⟨_, Try.underlying137⟩ ti137 rfl (by repeat (first | exact Has.here | exact Has.sl_apd | exact Has.sl_own | exact Has.r_blk | apply Has.there)) rfl) (Nat.le_of_ble_eq_true rfl) ?_
        refine o_step (s_call clp (hp (ws[j]'(by omega)) (by rw [e1]; exact List.getElem_mem _)) (first := []) (cap := caps) rfl rfl (by rfl) (Nat.le_of_ble_eq_true rfl) (by repeat (first | exact Picks.nil | (apply Picks.cons; · repeat (first | exact Pick.keep (Sl.isDup _ _ _) | exact Pick.keep (BlkR.isDup _ _ _) | exact Pick.keep (FldCell.isDup _ _) | exact Pick.here | exact Pick.own_sl | exact Pick.apd_sl | exact Pick.r_blk | exact Pick.sl_nil | exact Pick.own_nil | exact Pick.map_itO _ | apply Pick.there)))) fun _ _ => ?_)
        refine o_val (v_not rfl) (Nat.le_of_ble_eq_true rfl) ?_
        refine o_nil ?_
        refine c_cond rfl (fun hc => ?_) (fun hc => ?_)
        · refine c_seq ?_
          refine c_region ?_
          refine o_val (v_move rfl) (Nat.le_of_ble_eq_true rfl) ?_
          refine o_val (v_move rfl) (Nat.le_of_ble_eq_true rfl) ?_
          refine o_val (v_load_all ⟨_, Try.underlying137⟩ ti137 rfl (by repeat (first | exact Has.here | exact Has.sl_apd | exact Has.sl_own | exact Has.r_blk | apply Has.there)) rfl) (Nat.le_of_ble_eq_true rfl) ?_
          refine o_val ((by first | exact v_indexAddrN Try.underlying133 ti137 rfl rfl (by repeat (first | exact Has.here | exact Has.sl_apd | exact Has.sl_own | exact Has.r_blk | apply Has.there)) (by omega) | exact v_indexAddr Try.underlying133 ti137 rfl rfl (by repeat (first | exact Has.here | exact Has.sl_apd | exact Has.sl_own | exact Has.r_blk | apply Has.there)) (by omega))) (Nat.le_of_ble_eq_true rfl) ?_
          refine o_step (s_store_elem (z := ws[j]'(by omega)) ti137 rfl rfl (by first | exact CellsV.lit rfl | exact CellsV.one (by first | exact OneC.lit rfl | exact OneC.sl (by repeat (first | exact Has.here | exact Has.sl_apd | exact Has.sl_own | exact Has.r_blk | apply Has.there)))) (by repeat (first | exact Pick.here | exact Pick.own_nil | apply Pick.there)) (by exact (by first | exact Beside.rd fun _ _ => rfl | exact Beside.rd fun _ _ => ⟨_, _, rfl, rfl, rfl⟩)) (by omega) (?_))
          refine o_nil ?_
          refine c_region ?_
          refine o_val (v_move rfl) (Nat.le_of_ble_eq_true rfl) ?_
          refine o_val ((by first | exact v_add64 rfl rfl (by omega) | exact v_add rfl rfl)) (Nat.le_of_ble_eq_true rfl) ?_
          refine o_val (v_assign rfl) (Nat.le_of_ble_eq_true rfl) ?_
          refine o_nil ?_
          refine c_inBlock ?_
          refine c_region ?_
          refine o_val (v_move rfl) (Nat.le_of_ble_eq_true rfl) ?_
          refine o_val ((by first | exact v_add64 rfl rfl (by omega) | exact v_add rfl rfl)) (Nat.le_of_ble_eq_true rfl) ?_
          refine o_val (v_assign rfl) (Nat.le_of_ble_eq_true rfl) ?_
          refine o_nil ?_
          have hq : (fun x => !p x) xs[j] = true := by rw [← e1]; exact hc
          refine c_use (IH (j + 1, i + 1, ws.set i (ws[j]'(by omega))) (by simp only; omega) ⟨by simp only; omega, by simp only [List.length_set]; exact hl, ?_⟩) ⟨rfl, rfl, rfl, by simp only [List.length_set]; rfl, trivial⟩ (by simp only [List.length_set]; exact (Picks.ent (by repeat (first | exact Picks.nil | (apply Picks.cons; · repeat (first | exact Pick.keep (Sl.isDup _ _ _) | exact Pick.keep (BlkR.isDup _ _ _) | exact Pick.keep (FldCell.isDup _ _) | exact Pick.here | exact Pick.own_sl | exact Pick.apd_sl | exact Pick.r_blk | exact Pick.sl_nil | exact Pick.own_nil | exact Pick.map_itO _ | apply Pick.there))))))
          simp only [e1]
          exact hs1 hq
        · refine c_skip ?_
          refine c_inBlock ?_
          refine c_region ?_
          refine o_val (v_move rfl) (Nat.le_of_ble_eq_true rfl) ?_
          refine o_val ((by first | exact v_add64 rfl rfl (by omega) | exact v_add rfl rfl)) (Nat.le_of_ble_eq_true rfl) ?_
          refine o_val (v_assign rfl) (Nat.le_of_ble_eq_true rfl) ?_
          refine o_nil ?_
          have hq : (fun x => !p x) xs[j] = false := by rw [← e1]; exact hc
          refine c_use (IH (j + 1, i, ws) (by simp only; omega) ⟨by simp only; omega, hl, hs2 hq⟩) ⟨rfl, rfl, rfl, rfl, trivial⟩ (Picks.ent (by repeat (first | exact Picks.nil | (apply Picks.cons; · repeat (first | exact Pick.keep (Sl.isDup _ _ _) | exact Pick.keep (BlkR.isDup _ _ _) | exact Pick.keep (FldCell.isDup _ _) | exact Pick.here | exact Pick.own_sl | exact Pick.apd_sl | exact Pick.r_blk | exact Pick.sl_nil | exact Pick.own_nil | exact Pick.map_itO _ | apply Pick.there)))))
      · have hje : j = xs.length := by omega
        have hij : i ≤ ws.length := by rw [hi]; exact Nat.le_trans (List.length_filter_le _ _) (by simp; omega)
        refine c_exit rfl ?_
        refine c_seq ?_
        refine c_region ?_
        refine o_val (v_move rfl) (Nat.le_of_ble_eq_true rfl) ?_
        refine o_val (v_move rfl) (Nat.le_of_ble_eq_true rfl) ?_
        refine o_val (v_slice Try.underlying133 ti137 rfl (.inr ⟨_, _, _, rfl, rfl, by omega, rfl⟩) (.inl ⟨rfl, rfl, rfl⟩) (.inl ⟨rfl, rfl⟩) (by omega) (by omega) (by omega)) (Nat.le_of_ble_eq_true rfl) ?_
        simp only [Int.toNat_natCast]
        refine o_step (s_clear_tail (e := (ePair (eInt .i64) (eInt .i64))) (zs := ws) (z := .agg #[.int .i64 0, .int .i64 0]) rfl Try.underlying133 ti137 rfl (fun _ _ => (⟨[.int .i64 0], [.int .i64 0], rfl, rfl, rfl⟩ : (ePair (eInt .i64) (eInt .i64)).rd _ _ [.int .i64 0, .int .i64 0] (0, 0))) (by decide) rfl rfl (by omega) (by omega) (by repeat (first | exact Pick.here | exact Pick.own_nil | apply Pick.there)) fun ys hys => ?_)
        refine o_nil ?_
        refine c_seq ?_
        refine c_region ?_
        refine o_val (v_move rfl) (Nat.le_of_ble_eq_true rfl) ?_
        refine o_val (v_move rfl) (Nat.le_of_ble_eq_true rfl) ?_
        refine o_val (v_slice Try.underlying133 ti137 rfl (.inl ⟨rfl, rfl⟩) (.inr ⟨_, _, _, rfl, rfl, by omega, rfl⟩) (.inl ⟨rfl, rfl⟩) (by omega) (by omega) (by omega)) (Nat.le_of_ble_eq_true rfl) ?_
        refine o_val (v_assign rfl) (Nat.le_of_ble_eq_true rfl) ?_
        refine o_nil ?_
        refine c_ret1 Try.func105 rfl rfl fun w O hS => ?_
        refine ⟨_, rfl, trivial, ?_⟩
        rw [Int.toNat_natCast, cutV_zero]
        have e2 : (ws.take i ++ ys).take i = xs.filter fun x => !p x := by
          rw [List.take_left' (by simp; omega), ht, hje, List.take_length]
        rw [← e2]
        refine Ent.get (Ent.get hS (L' := [Own (ePair (eInt .i64) (eInt .i64)) 137 (.slice (some ⟨g, 0, none⟩) (ws.take i ++ ys).length cap) (ws.take i ++ ys), R]) ?_) (Ent.head fun _ _ h => Own.cut h (by simp; omega))
        have e3 : (ws.take i ++ ys).length = ws.length := by simp; omega
        rw [e3]
        exact (Picks.ent (by repeat (first | exact Picks.nil | (apply Picks.cons; · repeat (first | exact Pick.keep (Sl.isDup _ _ _) | exact Pick.keep (BlkR.isDup _ _ _) | exact Pick.keep (FldCell.isDup _ _) | exact Pick.here | exact Pick.own_sl | exact Pick.apd_sl | exact Pick.r_blk | exact Pick.sl_nil | exact Pick.own_nil | exact Pick.map_itO _ | apply Pick.there)))))
end Go.Proofs.Ytnamhhmfnokfiaa

import Derived.Test.YtgokinfjlollpaaDoorB2
import Derived.Lib.IndexLaws
import Derived.Lib.SplitLaws
import Derived.Lib.IndexBytes
namespace Go.Proofs.YtgokinfjlollpaaDoor
open Go Go.SL L01
attribute [local irreducible] Cfg Kont StepK Val Con Qops Any Sl Own Blk BlkR Rd Pu ExA AllA Has Pick Ent Elem Beside Callable TI Lone

/-! ### the pieces of a text -/
def sp : List UInt8 → List UInt8 → List (List UInt8)
  | cur, [] => [cur]
  | cur, b :: l => if b = 10 then cur :: sp [] l else sp (cur ++ [b]) l
def mk (l : List UInt8) : ByteArray := ⟨l.toArray⟩
theorem sp_none {cur l : List UInt8} (h : 10 ∉ l) : sp cur l = [cur ++ l] := by
  induction l generalizing cur with
  | nil => simp [sp]
  | cons b l ih =>
    rw [sp, if_neg (fun e => h (by simp [e])), ih (fun e => h (by simp [e]))]
    simp
theorem sp_hit {cur pre r : List UInt8} (h : 10 ∉ pre) : sp cur (pre ++ 10 :: r) = (cur ++ pre) :: sp [] r := by
  induction pre generalizing cur with
  | nil => simp [sp]
  | cons b l ih =>
    rw [List.cons_append, sp, if_neg (fun e => h (by simp [e])), ih (fun e => h (by simp [e]))]
    simp
theorem sp_split : ∀ (n : Nat) (l : List UInt8), l.length ≤ n → Lib.splitK [10] 0 (Lib.count l [10]) l = sp [] l := by
  intro n
  induction n with
  | zero =>
    intro l hl
    have : l = [] := List.eq_nil_of_length_eq_zero (by omega)
    subst this; rfl
  | succ n ih =>
    intro l hl
    have h1 : Lib.index l [10] = Lib.indexByte l 10 := Lib.index_one l 10
    by_cases hm : Lib.indexByte l 10 = -1
    · rw [Lib.count_miss (h1.trans hm), sp_none]
      · simp [Lib.splitK]
      · intro hmem
        obtain ⟨k, hk⟩ := List.mem_iff_getElem?.1 hmem
        exact Lib.indexByte_none hm k hk
    · have hge := Lib.indexByte_ge l 10
      obtain ⟨i, hi⟩ : ∃ i : Nat, Lib.indexByte l 10 = i := ⟨(Lib.indexByte l 10).toNat, by omega⟩
      obtain ⟨g1, g2⟩ := Lib.indexByte_some hi
      have hil : i < l.length := by
        rcases Nat.lt_or_ge i l.length with h | h
        · exact h
        · rw [List.getElem?_eq_none h] at g1; cases g1
      have he : l = l.take i ++ 10 :: l.drop (i + 1) := by
        have e1 : l[i] = 10 := by rw [List.getElem?_eq_getElem hil] at g1; exact Option.some.inj g1
        conv => lhs; rw [← List.take_append_drop i l, List.drop_eq_getElem_cons hil, e1]
      have hno : (10 : UInt8) ∉ l.take i := by
        intro hmem
        obtain ⟨k, hk⟩ := List.mem_iff_getElem?.1 hmem
        have hki : k < i := by
          rcases Nat.lt_or_ge k i with h | h
          · exact h
          · rw [List.getElem?_eq_none (by simp; omega)] at hk; cases hk
        rw [List.getElem?_take, if_pos hki] at hk
        exact g2 k hki hk
      rw [Lib.count_hit (by simp) (h1.trans hi)]
      have hne : ¬ (Lib.index l [10] == -1) = true := fun e => by have := beq_iff_eq.1 e; omega
      rw [Nat.add_comm 1, Lib.splitK, if_neg hne, h1, hi]
      simp only [Int.toNat_natCast, List.length_singleton, Nat.add_zero]
      rw [ih _ (by simp; omega)]
      conv => rhs; rw [he, sp_hit hno]
      simp
theorem split_law (s : ByteArray) : Lib.splitB nl 0 (Lib.countB s nl) s = (sp [] s.data.toList).map mk := by
  have h1 := Lib.splitB_data nl 0 (Lib.countB s nl) s
  have h2 : Lib.splitK nl.data.toList 0 (Lib.countB s nl) s.data.toList = sp [] s.data.toList := sp_split _ _ (Nat.le_refl _)
  rw [h2] at h1
  rw [← h1, List.map_map]
  conv => lhs; rw [← List.map_id (Lib.splitB nl 0 (Lib.countB s nl) s)]
  exact List.map_congr_left fun x _ => by simp [mk]
theorem cut_end {cur l : List UInt8} : cutGo cur (l ++ [10]) = sp cur l := by
  induction l generalizing cur with
  | nil => simp [cutGo, sp]
  | cons b l ih => rw [List.cons_append, cutGo, sp, ih, ih]
theorem cut_open {cur l : List UInt8} (h : ¬ [10] <:+ l) (h2 : l ≠ [] ∨ cur ≠ []) : cutGo cur l = sp cur l := by
  induction l generalizing cur with
  | nil => rw [cutGo, sp, if_neg (by simpa using h2)]
  | cons b l ih =>
    have hn : ¬ [10] <:+ l := fun g => h (g.trans (List.suffix_cons b l))
    rw [cutGo, sp]
    split
    · rename_i hb
      rw [ih hn (.inl fun e => h (by subst e; rw [hb]; exact List.suffix_refl _))]
    · rw [ih hn (.inr (by simp))]
theorem cut_law (l : List UInt8) (h : l ≠ []) : sp [] (Lib.trimSuffix l [10]) = cutGo [] l := by
  unfold Lib.trimSuffix Lib.hasSuffix
  split
  · rename_i hs
    obtain ⟨t, rfl⟩ := List.isSuffixOf_iff_suffix.1 hs
    rw [cut_end]
    simp
  · rename_i hs
    rw [cut_open (fun g => hs (List.isSuffixOf_iff_suffix.2 g)) (.inl h)]

theorem split_con (s : ByteArray) (m : Int) (hs : s.size ≤ 1000000) : Con Tryd.prog 35 [.string s, .string nl] [BlkR 0 3 [.int .i64 m]] (γ := Value) (fun r => r) (fun _ => True) (fun r => [Own eStr 9 r ((sp [] s.data.toList).map mk)]) := by
  have hl : (Lib.splitB nl 0 (Lib.countB s nl) s).length = Lib.countB s nl + 1 := Lib.splitB_all nl (by decide) 0 _ s rfl
  have hc : Lib.countB s nl ≤ s.size := Lib.countB_le nl (by decide) _ s (Nat.le_refl _)
  rw [← split_law]
  refine con_newrow (g := Value.string) (e := eStr) rfl (fun _ _ _ => rfl) (by rw [hl]; simp only [maxLen]; omega) fun w O h => ?_
  rw [hl]
  exact Tryd.strings_Split s nl m w (by omega) (has_cell Has.here rfl h) (by decide)
theorem trim_con (s : ByteArray) (hs : s.size ≤ 1000000) : Con Tryd.prog 36 [.string s, .string nl] [] (γ := Unit) (fun _ => .string (mk (Lib.trimSuffix s.data.toList [10]))) (fun _ => True) (fun _ => []) :=
  con_pure fun w _ _ => Tryd.strings_TrimSuffix s nl w (by omega)
theorem trim_size (s : ByteArray) : (mk (Lib.trimSuffix s.data.toList [10])).size ≤ s.size := by
  show (Lib.trimSuffix s.data.toList [10]).length ≤ s.data.toList.length
  unfold Lib.trimSuffix
  split
  · rw [List.length_take]; exact Nat.min_le_right _ _
  · exact Nat.le_refl _
set_option maxRecDepth 100000 in
theorem cut_con (s : ByteArray) (m : Int) (hs : s.size ≤ 1000000) : Con Tryd.prog 14 [.string s] [BlkR 0 3 [.int .i64 m]] (γ := Value) (fun r => r) (fun _ => True) (fun r => [Own eStr 9 r (cutS s)]) := by
  refine con_of Tryd.func14 rfl (Nat.le_of_ble_eq_true rfl) fun w0 O0 => ?_
  refine c_seq ?_
  refine c_region ?_
  refine o_val (v_assign rfl) (Nat.le_of_ble_eq_true rfl) ?_
  refine o_nil ?_
  refine c_seq ?_
  refine c_seq ?_
  refine c_region ?_
  refine o_val (v_move rfl) (Nat.le_of_ble_eq_true rfl) ?_
  refine o_val (v_seq rfl rfl) (Nat.le_of_ble_eq_true rfl) ?_
  refine o_nil ?_
  refine c_cond_p rfl (fun h0 => ?_) (fun h0 => ?_)
  · refine c_seq ?_
    refine c_region ?_
    refine o_val (v_assign rfl) (Nat.le_of_ble_eq_true rfl) ?_
    refine o_nil ?_
    refine c_ret1 Tryd.func14 rfl rfl fun w O hS => ?_
    have : cutS s = [] := by rw [h0]; rfl
    rw [this]
    exact ⟨.slice none 0 0, rfl, trivial, stars_own_nil⟩
  · refine c_skip ?_
    refine c_seq ?_
    refine c_region ?_
    refine o_val (v_move rfl) (Nat.le_of_ble_eq_true rfl) ?_
    refine o_step (s_callf cl36 (trim_con s hs) rfl (Nat.le_of_ble_eq_true rfl) (by repeat (first | exact Picks.nil | (apply Picks.cons; · repeat (first | exact Pick.keep (Sl.isDup _ _ _) | exact Pick.keep (BlkR.isDup _ _ _) | exact Pick.here | exact Pick.own_sl | exact Pick.apd_sl | exact Pick.r_blk | exact Pick.sl_nil | exact Pick.own_nil | apply Pick.there)))) fun _ _ => ?_)
    refine o_step (s_callf cl35 (split_con (mk (Lib.trimSuffix s.data.toList [10])) m (Nat.le_trans (trim_size s) hs)) rfl (Nat.le_of_ble_eq_true rfl) (by repeat (first | exact Picks.nil | (apply Picks.cons; · repeat (first | exact Pick.keep (Sl.isDup _ _ _) | exact Pick.keep (BlkR.isDup _ _ _) | exact Pick.here | exact Pick.own_sl | exact Pick.apd_sl | exact Pick.r_blk | exact Pick.sl_nil | exact Pick.own_nil | apply Pick.there)))) fun r _ => ?_)
    refine o_val (v_assign rfl) (Nat.le_of_ble_eq_true rfl) ?_
    refine o_nil ?_
    refine c_ret1 Tryd.func14 rfl rfl fun w O hS => ?_
    have hne : s.data.toList ≠ [] := fun e => h0 (ByteArray.ext (Array.toList_inj.1 e))
    have : cutS s = (sp [] (mk (Lib.trimSuffix s.data.toList [10])).data.toList).map mk := by
      show _ = (sp [] (Lib.trimSuffix s.data.toList [10])).map mk
      rw [cut_law _ hne]; rfl
    rw [this]
    exact ⟨r, rfl, trivial, Ent.get hS (Picks.ent (by repeat (first | exact Picks.nil | (apply Picks.cons; · repeat (first | exact Pick.keep (Sl.isDup _ _ _) | exact Pick.keep (BlkR.isDup _ _ _) | exact Pick.here | exact Pick.own_sl | exact Pick.apd_sl | exact Pick.r_blk | exact Pick.sl_nil | exact Pick.own_nil | apply Pick.there)))))⟩

/-! ### few -/
theorem linesOf_take (xss : List Ls) (i : Nat) (h : i < xss.length) : linesOf (xss.take (i + 1)) = linesOf (xss.take i) + xss[i].length := by
  rw [List.take_succ_eq_append_getElem h]
  generalize xss.take i = ys
  induction ys with
  | nil => simp [linesOf]
  | cons y ys ih => rw [List.cons_append, linesOf, ih, linesOf]; omega
theorem bytesOf_take (xss : List Ls) (i : Nat) (h : i < xss.length) : bytesOf (xss.take (i + 1)) = bytesOf (xss.take i) + (xss[i].map (·.size)).sum := by
  rw [List.take_succ_eq_append_getElem h]
  generalize xss.take i = ys
  induction ys with
  | nil => simp [bytesOf]
  | cons y ys ih => rw [List.cons_append, bytesOf, ih, bytesOf]; omega
theorem sum_take_succ (xs : Ls) (j : Nat) (h : j < xs.length) : ((xs.take (j + 1)).map (·.size)).sum = ((xs.take j).map (·.size)).sum + xs[j].size := by
  rw [List.take_succ_eq_append_getElem h, List.map_append, List.sum_append]
  simp
theorem lines_le {B : Nat} : ∀ {xss : List Ls}, (∀ xs ∈ xss, xs.length ≤ B) → linesOf xss ≤ xss.length * B
  | [], _ => by simp [linesOf]
  | x :: xss, h => by
    have h1 := h x (by simp)
    have h2 := lines_le (xss := xss) fun xs hx => h xs (by simp [hx])
    rw [linesOf, List.length_cons, Nat.add_mul]
    omega
theorem sum_le {B : Nat} : ∀ {xs : Ls}, (∀ s ∈ xs, s.size ≤ B) → (xs.map (·.size)).sum ≤ xs.length * B
  | [], _ => by simp
  | x :: xss, h => by
    have h1 := h x (by simp)
    have h2 := sum_le (xs := xss) fun xs hx => h xs (by simp [hx])
    rw [List.map_cons, List.sum_cons, List.length_cons, Nat.add_mul]
    omega
theorem bytes_le {B : Nat} : ∀ {xss : List Ls}, (∀ xs ∈ xss, ∀ s ∈ xs, s.size ≤ B) → bytesOf xss ≤ linesOf xss * B
  | [], _ => by simp [bytesOf]
  | x :: xss, h => by
    have h1 := sum_le (h x (by simp))
    have h2 := bytes_le (xss := xss) fun xs hx => h xs (by simp [hx])
    rw [bytesOf, linesOf, Nat.add_mul]
    omega

set_option maxRecDepth 100000 in
theorem few_con (v : Value) (xss : List Ls) (hn : xss.length ≤ 8) (hb : ∀ xs ∈ xss, xs.length ≤ 17592186044416) (hs : ∀ xs ∈ xss, ∀ s ∈ xs, s.size ≤ 140737488355328) :
    Con Tryd.prog 11 [v] [Sl (eSl eStr) v xss] (γ := Unit) (fun _ => .bool (decide (bytesOf xss ≤ 6000 ∧ linesOf xss ≤ 300))) (fun _ => True) (fun _ => []) := by
  refine con_of Tryd.func11 rfl (Nat.le_of_ble_eq_true rfl) fun w0 O0 => ?_
  refine c_seq ?_
  refine c_region ?_
  refine o_val (v_assign rfl) (Nat.le_of_ble_eq_true rfl) ?_
  refine o_nil ?_
  refine c_seq ?_
  refine c_region ?_
  refine o_val (v_assign rfl) (Nat.le_of_ble_eq_true rfl) ?_
  refine o_val (v_assign rfl) (Nat.le_of_ble_eq_true rfl) ?_
  refine o_nil ?_
  refine c_seq ?_
  refine c_seq ?_
  refine c_region ?_
  refine o_val (v_move rfl) (Nat.le_of_ble_eq_true rfl) ?_
  refine o_val ((by first | exact v_len_form Tryd.underlying43 rfl | exact v_len_sl Tryd.underlying43 rfl (by repeat (first | exact Has.here | exact Has.sl_apd | exact Has.sl_own | exact Has.r_blk | apply Has.there)))) (Nat.le_of_ble_eq_true rfl) ?_
  refine o_val (v_move rfl) (Nat.le_of_ble_eq_true rfl) ?_
  refine o_nil ?_
  refine c_block ?_
  refine c_loop (γ := Nat) (fun i => xss.length - i) (fun i => i ≤ xss.length) (fun i => [(11, .int .i64 i), (10, .int .i64 xss.length), (9, v), (4, .int .i64 (linesOf (xss.take i))), (3, .int .i64 (IntKind.i64.wrap (bytesOf (xss.take i))))]) (fun _ => [Sl (eSl eStr) v xss]) 0 (Nat.zero_le _) ⟨rfl, rfl, rfl, rfl, rfl, trivial⟩ (Ent.refl _) ?_
  intro i hi IH
  refine c_seq ?_
  refine c_region ?_
  refine o_val (v_lt rfl rfl) (Nat.le_of_ble_eq_true rfl) ?_
  refine o_nil ?_
  refine c_seq ?_
  have hl1 : linesOf (xss.take i) ≤ 140737488355328 := by
    have := lines_le (xss := xss.take i) fun xs hx => hb xs (List.mem_of_mem_take hx)
    have := Nat.mul_le_mul_right 17592186044416 (show (xss.take i).length ≤ 8 by simp; omega)
    omega
  refine c_cond_p rfl (fun hlt => ?_) (fun hlt => ?_)
  · have hl2 : (xss[i]'(by omega)).length ≤ 17592186044416 := hb _ (List.getElem_mem (by omega))
    have hs2 : ∀ s ∈ xss[i]'(by omega), s.size ≤ 140737488355328 := hs _ (List.getElem_mem (by omega))
    refine c_skip ?_
    refine c_seq ?_
    refine c_block ?_
    refine c_seq ?_
    refine c_region ?_
    refine o_val ((by first | exact v_indexAddrN Tryd.underlying43 ti22 rfl rfl (by repeat (first | exact Has.here | exact Has.sl_apd | exact Has.sl_own | exact Has.r_blk | apply Has.there)) (by omega) | exact v_indexAddr Tryd.underlying43 ti22 rfl rfl (by repeat (first | exact Has.here | exact Has.sl_apd | exact Has.sl_own | exact Has.r_blk | apply Has.there)) (by omega))) (Nat.le_of_ble_eq_true rfl) ?_
    refine o_step (s_load_sl lone22 rfl (Nat.le_of_ble_eq_true rfl) (by repeat (first | exact Elem.sl (List.getElem?_eq_getElem (by omega)) | exact Elem.own (List.getElem?_eq_getElem (by omega)) | apply Elem.there)) fun u => ?_)
    refine o_val (v_assign rfl) (Nat.le_of_ble_eq_true rfl) ?_
    refine o_nil ?_
    refine c_seq ?_
    refine c_region ?_
    refine o_val (v_move rfl) (Nat.le_of_ble_eq_true rfl) ?_
    refine o_val (v_move rfl) (Nat.le_of_ble_eq_true rfl) ?_
    refine o_val ((by first | exact v_len_form Tryd.underlying22 rfl | exact v_len_sl Tryd.underlying22 rfl (by repeat (first | exact Has.here | exact Has.sl_apd | exact Has.sl_own | exact Has.r_blk | apply Has.there)))) (Nat.le_of_ble_eq_true rfl) ?_
    refine o_val ((by first | exact v_add64 rfl rfl (by omega) | exact v_add rfl rfl)) (Nat.le_of_ble_eq_true rfl) ?_
    refine o_val (v_assign rfl) (Nat.le_of_ble_eq_true rfl) ?_
    refine o_nil ?_
    refine c_seq ?_
    refine c_region ?_
    refine o_val (v_move rfl) (Nat.le_of_ble_eq_true rfl) ?_
    refine o_val ((by first | exact v_len_form Tryd.underlying22 rfl | exact v_len_sl Tryd.underlying22 rfl (by repeat (first | exact Has.here | exact Has.sl_apd | exact Has.sl_own | exact Has.r_blk | apply Has.there)))) (Nat.le_of_ble_eq_true rfl) ?_
    refine o_val (v_move rfl) (Nat.le_of_ble_eq_true rfl) ?_
    refine o_nil ?_
    refine c_block ?_
    refine c_loop (γ := Nat) (fun j => (xss[i]'(by omega)).length - j) (fun j => j ≤ (xss[i]'(by omega)).length) (fun j => [(21, .int .i64 j), (20, .int .i64 (xss[i]'(by omega)).length), (19, u), (11, .int .i64 i), (10, .int .i64 xss.length), (9, v), (4, .int .i64 ((linesOf (xss.take i) : Int) + ((xss[i]'(by omega)).length : Int))), (3, .int .i64 (IntKind.i64.wrap ((bytesOf (xss.take i) : Int) + (((xss[i]'(by omega)).take j).map (·.size)).sum)))]) (fun _ => [Sl eStr u (xss[i]'(by omega)), Sl (eSl eStr) v xss]) 0 (Nat.zero_le _) ⟨rfl, rfl, rfl, rfl, rfl, rfl, rfl, Env.int rfl (by simp), trivial⟩ (Ent.refl _) ?_
    intro j hj IH2
    refine c_seq ?_
    refine c_region ?_
    refine o_val (v_lt rfl rfl) (Nat.le_of_ble_eq_true rfl) ?_
    refine o_nil ?_
    refine c_seq ?_
    refine c_cond_p rfl (fun hlt2 => ?_) (fun hlt2 => ?_)
    · refine c_skip ?_
      refine c_seq ?_
      refine c_block ?_
      refine c_seq ?_
      refine c_region ?_
      refine o_val ((by first | exact v_indexAddrN Tryd.underlying22 ti9 rfl rfl (by repeat (first | exact Has.here | exact Has.sl_apd | exact Has.sl_own | exact Has.r_blk | apply Has.there)) (by omega) | exact v_indexAddr Tryd.underlying22 ti9 rfl rfl (by repeat (first | exact Has.here | exact Has.sl_apd | exact Has.sl_own | exact Has.r_blk | apply Has.there)) (by omega))) (Nat.le_of_ble_eq_true rfl) ?_
      refine o_val (v_load_str lone9 rfl (by repeat (first | exact Elem.sl (List.getElem?_eq_getElem (by omega)) | exact Elem.own (List.getElem?_eq_getElem (by omega)) | apply Elem.there))) (Nat.le_of_ble_eq_true rfl) ?_
      refine o_val (v_assign rfl) (Nat.le_of_ble_eq_true rfl) ?_
      refine o_nil ?_
      refine c_region ?_
      refine o_val (v_move rfl) (Nat.le_of_ble_eq_true rfl) ?_
      refine o_val (v_move rfl) (Nat.le_of_ble_eq_true rfl) ?_
      refine o_val (v_len_str Tryd.underlying9 rfl) (Nat.le_of_ble_eq_true rfl) ?_
      refine o_val ((by first | exact v_add64 rfl rfl (by omega) | exact v_add rfl rfl)) (Nat.le_of_ble_eq_true rfl) ?_
      refine o_val (v_assign rfl) (Nat.le_of_ble_eq_true rfl) ?_
      refine o_nil ?_
      refine c_inBlock ?_
      refine c_region ?_
      refine o_val ((by first | exact v_add64 rfl rfl (by omega) | exact v_add rfl rfl)) (Nat.le_of_ble_eq_true rfl) ?_
      refine o_val (v_move rfl) (Nat.le_of_ble_eq_true rfl) ?_
      refine o_nil ?_
      refine c_use (IH2 (j + 1) (by omega) (by omega)) ⟨rfl, rfl, rfl, rfl, rfl, rfl, rfl, Env.int rfl ?_, trivial⟩ (Picks.ent (by repeat (first | exact Picks.nil | (apply Picks.cons; · repeat (first | exact Pick.keep (Sl.isDup _ _ _) | exact Pick.keep (BlkR.isDup _ _ _) | exact Pick.here | exact Pick.own_sl | exact Pick.apd_sl | exact Pick.r_blk | exact Pick.sl_nil | exact Pick.own_nil | apply Pick.there)))))
      rw [wrap_add, sum_take_succ _ _ (by omega)]
      congr 1
      omega
    · refine c_exit rfl ?_
      refine c_inBlock ?_
      refine c_region ?_
      refine o_val ((by first | exact v_add64 rfl rfl (by omega) | exact v_add rfl rfl)) (Nat.le_of_ble_eq_true rfl) ?_
      refine o_val (v_move rfl) (Nat.le_of_ble_eq_true rfl) ?_
      refine o_nil ?_
      refine c_use (IH (i + 1) (by omega) (by omega)) ⟨rfl, rfl, rfl, Env.int rfl ?_, Env.int rfl ?_, trivial⟩ (Picks.ent (by repeat (first | exact Picks.nil | (apply Picks.cons; · repeat (first | exact Pick.keep (Sl.isDup _ _ _) | exact Pick.keep (BlkR.isDup _ _ _) | exact Pick.here | exact Pick.own_sl | exact Pick.apd_sl | exact Pick.r_blk | exact Pick.sl_nil | exact Pick.own_nil | apply Pick.there)))))
      · rw [linesOf_take _ _ (by omega)]
        omega
      · rw [bytesOf_take _ _ (by omega), List.take_of_length_le (show (xss[i]'(by omega)).length ≤ j by omega)]
        congr 1
  · refine c_exit rfl ?_
    refine c_seq ?_
    refine c_region ?_
    refine o_val (v_move rfl) (Nat.le_of_ble_eq_true rfl) ?_
    refine o_val (v_le rfl rfl) (Nat.le_of_ble_eq_true rfl) ?_
    refine o_val (v_move rfl) (Nat.le_of_ble_eq_true rfl) ?_
    rw [List.take_of_length_le (show xss.length ≤ i by omega)] at *
    have hby := bytes_le hs
    have key : linesOf xss ≤ 300 → IntKind.i64.wrap (bytesOf xss) = bytesOf xss := fun h => IntWalk.i64_in _ (by
      have := Nat.mul_le_mul_right 140737488355328 h
      omega)
    refine o_guard_t rfl rfl (fun h1 => ?_) (fun h1 => ?_)
    · refine o_val (v_move rfl) (Nat.le_of_ble_eq_true rfl) ?_
      refine o_on rfl rfl ?_
      refine o_val (v_le rfl rfl) (Nat.le_of_ble_eq_true rfl) ?_
      refine o_val (v_pick_t rfl rfl) (Nat.le_of_ble_eq_true rfl) ?_
      refine o_val (v_assign rfl) (Nat.le_of_ble_eq_true rfl) ?_
      refine o_nil ?_
      refine c_ret1 Tryd.func11 rfl rfl fun w O hS => ?_
      refine ⟨(), ?_, trivial, trivial⟩
      congr 1
      refine decide_eq_decide.2 ⟨fun h => ⟨?_, by omega⟩, fun h => by omega⟩
      rw [key (by omega)] at h1
      omega
    · refine o_off rfl rfl rfl (Nat.le_of_ble_eq_true rfl) ?_
      refine o_off rfl rfl rfl (Nat.le_of_ble_eq_true rfl) ?_
      refine o_val (v_pick_f rfl rfl) (Nat.le_of_ble_eq_true rfl) ?_
      refine o_val (v_assign rfl) (Nat.le_of_ble_eq_true rfl) ?_
      refine o_nil ?_
      refine c_ret1 Tryd.func11 rfl rfl fun w O hS => ?_
      refine ⟨(), ?_, trivial, trivial⟩
      rw [decide_eq_false]
      rintro ⟨g1, g2⟩
      rw [key g2] at h1
      omega
end Go.Proofs.YtgokinfjlollpaaDoor

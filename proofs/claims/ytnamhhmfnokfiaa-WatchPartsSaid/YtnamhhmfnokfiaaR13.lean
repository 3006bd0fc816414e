import Derived.Test.YtnamhhmfnokfiaaP13
namespace Go.Proofs.Ytnamhhmfnokfiaa
open Go Go.SL
attribute [local irreducible] Cfg Kont StepK Val Con Qops Any Sl Own Blk BlkR Rd Pu ExA AllA Has Pick Ent Elem Beside Callable TI Lone

theorem all_step {p : Nat → Prop} {n i : Nat} (h : ∀ (j : Nat) (_ : j < n), j < i → p j) (hi : p i) : ∀ (j : Nat) (_ : j < n), j < i + 1 → p j := fun j hj hji => by
  rcases Nat.lt_succ_iff_lt_or_eq.1 hji with k | k
  · exact h j hj k
  · rw [k]; exact hi
set_option maxRecDepth 100000 in
theorem begins_con (s p : ByteArray) (hs : s.size ≤ 140737488355328) (hp' : p.size ≤ 140737488355328) : Con Try.prog 57 [.string s, .string p] [] (γ := Unit) (fun _ => .bool (hp p s)) (fun _ => True) (fun _ => []) := by
  refine con_of Try.func57 rfl (Nat.le_of_ble_eq_true rfl) fun w0 O0 => ?_
  refine c_seq ?_
  refine c_region ?_
  refine o_val (v_assign rfl) (Nat.le_of_ble_eq_true rfl) ?_
  refine o_nil ?_
  refine c_seq ?_
  refine c_region ?_
  refine o_val (v_move rfl) (Nat.le_of_ble_eq_true rfl) ?_
  refine o_val (v_len_str Try.underlying9 rfl) (Nat.le_of_ble_eq_true rfl) ?_
  refine o_val (v_move rfl) (Nat.le_of_ble_eq_true rfl) ?_
  refine o_val (v_len_str Try.underlying9 rfl) (Nat.le_of_ble_eq_true rfl) ?_
  refine o_val (v_ge rfl rfl) (Nat.le_of_ble_eq_true rfl) ?_
  refine o_val (v_move rfl) (Nat.le_of_ble_eq_true rfl) ?_
  refine o_guard_t rfl rfl (fun hle => ?_) (fun hle => ?_)
  · refine o_val (v_move rfl) (Nat.le_of_ble_eq_true rfl) ?_
    refine o_on rfl rfl ?_
    refine o_val (v_move rfl) (Nat.le_of_ble_eq_true rfl) ?_
    refine o_on rfl rfl ?_
    refine o_val (v_len_str Try.underlying9 rfl) (Nat.le_of_ble_eq_true rfl) ?_
    refine o_on rfl rfl ?_
    refine o_val (v_cut_to Try.underlying9 rfl rfl (by omega)) (Nat.le_of_ble_eq_true rfl) ?_
    refine o_on rfl rfl ?_
    refine o_val (v_move rfl) (Nat.le_of_ble_eq_true rfl) ?_
    refine o_on rfl rfl ?_
    refine o_val (v_seq rfl rfl) (Nat.le_of_ble_eq_true rfl) ?_
    refine o_val (v_pick_t rfl rfl) (Nat.le_of_ble_eq_true rfl) ?_
    refine o_val (v_assign rfl) (Nat.le_of_ble_eq_true rfl) ?_
    refine o_nil ?_
    refine c_ret1 Try.func57 rfl rfl fun w O hS => ?_
    refine ⟨(), congrArg Value.bool ?_, trivial, trivial⟩
    rw [Bool.eq_iff_iff, decide_eq_true_iff, prefix_iff]
    rw [Int.toNat_natCast]
    exact ⟨fun h => ⟨by omega, h⟩, fun h => h.2⟩
  · refine o_off rfl rfl rfl (Nat.le_of_ble_eq_true rfl) ?_
    refine o_off rfl rfl rfl (Nat.le_of_ble_eq_true rfl) ?_
    refine o_off rfl rfl rfl (Nat.le_of_ble_eq_true rfl) ?_
    refine o_off rfl rfl rfl (Nat.le_of_ble_eq_true rfl) ?_
    refine o_off rfl rfl rfl (Nat.le_of_ble_eq_true rfl) ?_
    refine o_off rfl rfl rfl (Nat.le_of_ble_eq_true rfl) ?_
    refine o_val (v_pick_f rfl rfl) (Nat.le_of_ble_eq_true rfl) ?_
    refine o_val (v_assign rfl) (Nat.le_of_ble_eq_true rfl) ?_
    refine o_nil ?_
    refine c_ret1 Try.func57 rfl rfl fun w O hS => ?_
    refine ⟨(), congrArg Value.bool ?_, trivial, trivial⟩
    cases h : hp p s with
    | false => rfl
    | true => have := (prefix_iff p s).1 h; omega

set_option maxRecDepth 100000 in
theorem at_con (v : Value) (H : List Wr) (id : Int) (hH : H.length ≤ 9223372036854775806) : Con Try.prog 21 [v, .int .i64 id] [Sl eWr v H] (γ := Unit) (fun _ => .int .i64 (atW H id)) (fun _ => True) (fun _ => []) := by
  refine con_of Try.func21 rfl (Nat.le_of_ble_eq_true rfl) fun w0 O0 => ?_
  refine c_seq ?_
  refine c_region ?_
  refine o_val (v_assign rfl) (Nat.le_of_ble_eq_true rfl) ?_
  refine o_nil ?_
  refine c_seq ?_
  refine c_seq ?_
  refine c_region ?_
  refine o_val (v_assign rfl) (Nat.le_of_ble_eq_true rfl) ?_
  refine o_nil ?_
  refine c_block ?_
  refine c_loopQ (γ := Nat) [(0, _), (1, _), (4, _)] (fun i => H.length - i) (fun i => i ≤ H.length ∧ ∀ (j : Nat) (hj : j < H.length), j < i → H[j].1 ≠ id) (fun i => [(5, .int .i64 i)]) (0) (⟨Nat.zero_le _, fun _ _ h => by omega⟩) (by repeat (first | exact trivial | refine ⟨rfl, ?_⟩)) ?_
  rintro i ⟨hi, hall⟩ IH
  try dsimp only [List.cons_append, List.nil_append]
  refine c_seq ?_
  refine c_seq ?_
  refine c_region ?_
  refine o_val (v_move rfl) (Nat.le_of_ble_eq_true rfl) ?_
  refine o_val (v_move rfl) (Nat.le_of_ble_eq_true rfl) ?_
  refine o_val ((by first | exact v_len_form Try.underlying29 rfl | exact v_len_sl Try.underlying29 rfl (by repeat (first | exact Has.here | exact Has.sl_apd | exact Has.sl_own | exact Has.r_blk | apply Has.there)))) (Nat.le_of_ble_eq_true rfl) ?_
  refine o_val (v_lt rfl rfl) (Nat.le_of_ble_eq_true rfl) ?_
  refine o_nil ?_
  refine c_cond_p rfl (fun hlt => ?_) (fun hlt => ?_)
  · refine c_skip ?_
    refine c_seq ?_
    refine c_block ?_
    refine c_seq ?_
    refine c_region ?_
    refine o_val (v_move rfl) (Nat.le_of_ble_eq_true rfl) ?_
    refine o_val (v_move rfl) (Nat.le_of_ble_eq_true rfl) ?_
    refine o_val ((by first | exact v_indexAddrN Try.underlying29 ti39 rfl rfl (by repeat (first | exact Has.here | exact Has.sl_apd | exact Has.sl_own | exact Has.r_blk | apply Has.there)) (by omega) | exact v_indexAddr Try.underlying29 ti39 rfl rfl (by repeat (first | exact Has.here | exact Has.sl_apd | exact Has.sl_own | exact Has.r_blk | apply Has.there)) (by omega))) (Nat.le_of_ble_eq_true rfl) ?_
    refine o_val (v_fieldAddrC 0 Try.underlying39 rfl ti3 (by decide) rfl) (Nat.le_of_ble_eq_true rfl) ?_
    refine o_val ((by first | exact v_load_cell lone3 rfl (by repeat (first | exact Has.here | exact Has.sl_apd | exact Has.sl_own | exact Has.r_blk | apply Has.there)) | exact v_load_fld lone3 rfl (by repeat (first | exact Elem.sl (List.getElem?_eq_getElem (by omega)) | exact Elem.own (List.getElem?_eq_getElem (by omega)) | apply Elem.there)) (by (try apply FldS.map); apply FldS.fst; (try apply FldS.map); first | exact FldS.int _ | exact FldS.str | exact FldS.bool | exact FldS.raw))) (Nat.le_of_ble_eq_true rfl) ?_
    refine o_val (v_move rfl) (Nat.le_of_ble_eq_true rfl) ?_
    refine o_val (v_eq rfl rfl) (Nat.le_of_ble_eq_true rfl) ?_
    refine o_nil ?_
    refine c_cond_p rfl (fun he => ?_) (fun he => ?_)
    · refine c_seq ?_
      refine c_region ?_
      refine o_val (v_move rfl) (Nat.le_of_ble_eq_true rfl) ?_
      refine o_val (v_assign rfl) (Nat.le_of_ble_eq_true rfl) ?_
      refine o_nil ?_
      refine c_ret1 Try.func21 rfl rfl fun w O hS => ?_
      exact ⟨(), congrArg (Value.int .i64) (idxF_some (by omega) (by simpa using he) fun j hj => by simpa using hall j (by omega) hj).symm, trivial, trivial⟩
    · refine c_skip ?_
      refine c_inBlock ?_
      refine c_region ?_
      refine o_val (v_move rfl) (Nat.le_of_ble_eq_true rfl) ?_
      refine o_val ((by first | exact v_add64 rfl rfl (by omega) | exact v_add rfl rfl)) (Nat.le_of_ble_eq_true rfl) ?_
      refine o_val (v_assign rfl) (Nat.le_of_ble_eq_true rfl) ?_
      refine o_nil ?_
      refine c_use (IH (i + 1) (by first | omega | (dsimp only; omega)) (⟨by omega, fun j hj hji => (Nat.lt_succ_iff_lt_or_eq.1 hji).elim (hall j hj) fun h => by subst h; exact he⟩)) (by repeat (first | exact trivial | refine ⟨rfl, ?_⟩)) (Picks.ent (by repeat (first | exact Picks.nil | (apply Picks.cons; · repeat (first | exact Pick.keep (Sl.isDup _ _ _) | exact Pick.keep (BlkR.isDup _ _ _) | exact Pick.keep (FldCell.isDup _ _) | exact Pick.here | exact Pick.own_sl | exact Pick.apd_sl | exact Pick.r_blk | exact Pick.sl_nil | exact Pick.own_nil | exact Pick.map_itO _ | apply Pick.there)))))
  · refine c_exit rfl ?_
    refine c_seq ?_
    refine c_region ?_
    refine o_val (v_assign rfl) (Nat.le_of_ble_eq_true rfl) ?_
    refine o_nil ?_
    refine c_ret1 Try.func21 rfl rfl fun w O hS => ?_
    exact ⟨(), congrArg (Value.int .i64) (idxF_none fun j hj => by simpa using hall j hj (by omega)).symm, trivial, trivial⟩
/-! ### Touched -/
def lastS (out : List ByteArray) : ByteArray := out.getD (out.length - 1) ByteArray.empty
theorem last_eq {out : List ByteArray} {i : Nat} (h : i < out.length) (hi : i = out.length - 1) : out[i] = lastS out := by
  subst hi; simp [lastS, h]
theorem ltS_def (a b : ByteArray) : Op.bytesLess a.data.toList b.data.toList = ltS a b := rfl
theorem gt_iff (a b : ByteArray) : (!(Op.bytesLess a.data.toList b.data.toList || decide (a = b))) = ltS b a := by
  cases h : Op.bytesLess a.data.toList b.data.toList with
  | true => rw [ltS_asymm (show ltS a b = true from h)]; rfl
  | false =>
    cases k : ltS b a with
    | true =>
      have : a ≠ b := by intro e; subst e; rw [ltS_irrefl] at k; cases k
      simp [this]
    | false => simp [ltS_tri (show ltS a b = false from h) k]
/-- s comes behind the first n. -/
def behind (n : Nat) (T : List ByteArray) (s : ByteArray) : Prop := n = 0 ∨ ltS (lastS (T.take n)) s = true
theorem behind_iff {T : List ByteArray} (hT : T.Pairwise fun a b => ltS a b = true) {n : Nat} (hn : n ≤ T.length) {s : ByteArray} (hs : s ∈ T) : behind n T s ↔ s ∈ T.drop n := by
  obtain ⟨j, hj, rfl⟩ := List.mem_iff_getElem.1 hs
  unfold behind
  rcases Nat.eq_zero_or_pos n with h0 | h0
  · subst h0; simp
  · have hl : lastS (T.take n) = T[n - 1] := by simp [lastS, Nat.min_eq_left hn, show n - 1 < T.length by omega, List.getElem_take, show n - 1 < n by omega]
    rw [hl, List.mem_drop_iff_getElem]
    constructor
    · rintro (h | h)
      · omega
      · refine ⟨j - n, ?_, ?_⟩
        · rcases Nat.lt_or_ge j n with hjn | hjn
          · exfalso
            rcases Nat.lt_or_ge j (n - 1) with h1 | h1
            · have := List.pairwise_iff_getElem.1 hT j (n - 1) hj (by omega) h1
              rw [ltS_asymm this] at h; cases h
            · have : j = n - 1 := by omega
              subst this; rw [ltS_irrefl] at h; cases h
          · omega
        · congr 1
          rcases Nat.lt_or_ge j n with hjn | hjn
          · exfalso
            rcases Nat.lt_or_ge j (n - 1) with h1 | h1
            · have := List.pairwise_iff_getElem.1 hT j (n - 1) hj (by omega) h1
              rw [ltS_asymm this] at h; cases h
            · have : j = n - 1 := by omega
              subst this; rw [ltS_irrefl] at h; cases h
          · omega
    · rintro ⟨i, hi, he⟩
      right
      rw [← he]
      have h9 := List.pairwise_iff_getElem.1 hT (n - 1) (i + n) (by omega) hi (by omega)
      simpa only [Nat.add_comm i n] using h9
/-- The least of some. -/
def least (l : List ByteArray) : Option ByteArray := l.foldl (fun o s => match o with
  | none => some s
  | some t => if ltS s t = true then some s else some t) none
theorem least_snoc (l : List ByteArray) (s : ByteArray) : least (l ++ [s]) = match least l with
  | none => some s
  | some t => if ltS s t = true then some s else some t := by simp [least, List.foldl_append]
theorem least_spec : ∀ l : List ByteArray, (least l = none ∧ l = []) ∨ ∃ t, least l = some t ∧ t ∈ l ∧ ∀ s ∈ l, s = t ∨ ltS t s = true := by
  intro l
  suffices h : ∀ r : List ByteArray, (least r.reverse = none ∧ r.reverse = []) ∨ ∃ t, least r.reverse = some t ∧ t ∈ r.reverse ∧ ∀ s ∈ r.reverse, s = t ∨ ltS t s = true by
    have := h l.reverse; rwa [List.reverse_reverse] at this
  intro r
  induction r with
  | nil => exact .inl ⟨rfl, rfl⟩
  | cons a r ih =>
    right
    rw [List.reverse_cons, least_snoc]
    rcases ih with ⟨h1, h2⟩ | ⟨t, h1, h2, h3⟩
    · rw [h1, h2]; exact ⟨a, rfl, by simp, fun s hs => .inl (by simpa using hs)⟩
    · rw [h1]
      simp only
      by_cases hlt : ltS a t = true
      · rw [if_pos hlt]
        refine ⟨a, rfl, by simp, fun s hs => ?_⟩
        rcases List.mem_append.1 hs with h | h
        · rcases h3 s h with h | h
          · subst h; exact .inr hlt
          · exact .inr (ltS_trans hlt h)
        · exact .inl (by simpa using h)
      · rw [if_neg hlt]
        refine ⟨t, rfl, by simp [h2], fun s hs => ?_⟩
        rcases List.mem_append.1 hs with h | h
        · exact h3 s h
        · have e : s = a := by simpa using h
          subst e
          cases k : ltS t s with
          | true => exact .inr rfl
          | false => exact .inl (ltS_tri (by simpa using hlt) k)
/-- Those that count: of the prefix, and behind the first n. -/
def counts (names : List ByteArray) (p : ByteArray) (n : Nat) (s : ByteArray) : Bool := hp p s && (decide (n = 0) || ltS (lastS ((touched names p).take n)) s)
theorem counts_iff {names : List ByteArray} {p : ByteArray} {n : Nat} (hn : n ≤ (touched names p).length) {s : ByteArray} (hs : s ∈ names) : counts names p n s = true ↔ s ∈ (touched names p).drop n := by
  unfold counts
  rw [Bool.and_eq_true, Bool.or_eq_true, decide_eq_true_iff]
  constructor
  · rintro ⟨h1, h2⟩
    exact (behind_iff (touched_rising _ _) hn (touched_mem.2 ⟨hs, h1⟩)).1 h2
  · intro h
    have h1 := List.mem_of_mem_drop h
    exact ⟨(touched_mem.1 h1).2, (behind_iff (touched_rising _ _) hn h1).2 h⟩
theorem least_end {names : List ByteArray} {p : ByteArray} {n : Nat} (hn : n ≤ (touched names p).length) :
    (least (names.filter (counts names p n)) = none → n = (touched names p).length) ∧ ∀ t, least (names.filter (counts names p n)) = some t → ∃ h : n < (touched names p).length, t = (touched names p)[n] := by
  rcases least_spec (names.filter (counts names p n)) with ⟨h1, h2⟩ | ⟨t, h1, h2, h3⟩
  · refine ⟨fun _ => ?_, fun t h => (by rw [h1] at h; cases h)⟩
    rcases Nat.lt_or_ge n (touched names p).length with h | h
    · exfalso
      have hm : (touched names p)[n] ∈ (touched names p).drop n := List.mem_drop_iff_getElem.2 ⟨0, by omega, by simp⟩
      have h4 := (touched_mem.1 (List.getElem_mem h)).1
      have : (touched names p)[n] ∈ names.filter (counts names p n) := List.mem_filter.2 ⟨h4, (counts_iff hn h4).2 hm⟩
      rw [h2] at this; cases this
    · omega
  · refine ⟨fun h => (by rw [h1] at h; cases h), fun t' h' => ?_⟩
    rw [h1] at h'; cases h'
    obtain ⟨hm, hc⟩ := List.mem_filter.1 h2
    have hd := (counts_iff hn hm).1 hc
    obtain ⟨i, hi, he⟩ := List.mem_drop_iff_getElem.1 hd
    refine ⟨by omega, ?_⟩
    have hn' : n < (touched names p).length := by omega
    have h4 := (touched_mem.1 (List.getElem_mem hn')).1
    have hm0 : (touched names p)[n] ∈ (touched names p).drop n := List.mem_drop_iff_getElem.2 ⟨0, by omega, by simp⟩
    rcases h3 _ (List.mem_filter.2 ⟨h4, (counts_iff hn h4).2 hm0⟩) with h | h
    · exact h.symm
    · rcases Nat.eq_zero_or_pos i with h0 | h0
      · subst h0; rw [← he]; simp
      · have h9 := List.pairwise_iff_getElem.1 (touched_rising names p) n (i + n) hn' hi (by omega)
        simp only [Nat.add_comm i n] at h9
        rw [he, ltS_asymm h] at h9; cases h9
def isSome' (o : Option ByteArray) : Bool := o.isSome
def val' (o : Option ByteArray) : ByteArray := o.getD ByteArray.empty
theorem least_step {names : List ByteArray} {p : ByteArray} {n k : Nat} (hk : k < names.length) :
    least ((names.take (k + 1)).filter (counts names p n)) = if counts names p n names[k] = true ∧ ((least ((names.take k).filter (counts names p n))).isSome = false ∨ ltS names[k] ((least ((names.take k).filter (counts names p n))).getD ByteArray.empty) = true) then some names[k] else least ((names.take k).filter (counts names p n)) := by
  rw [List.take_succ_eq_append_getElem hk, List.filter_append]
  by_cases hc : counts names p n names[k] = true
  · rw [List.filter_cons, if_pos hc, List.filter_nil, least_snoc]
    cases h : least ((names.take k).filter (counts names p n)) with
    | none => simp [hc]
    | some t => simp [hc]
  · rw [List.filter_cons, if_neg hc, List.filter_nil, List.append_nil, if_neg (fun h => hc h.1)]

set_option maxRecDepth 100000 in
theorem touched_con (v : Value) (names : List ByteArray) (p : ByteArray) (hl : names.length ≤ 8796093022207) (hn : ∀ s ∈ names, s.size ≤ 140737488355328) (hp' : p.size ≤ 140737488355328) :
    Con Try.prog 26 [v, .string p] [Sl eStr v names] (γ := Value) (fun r => r) (fun _ => True) (fun r => [Own eStr 9 r (touched names p)]) := by
  have hTl : (touched names p).length ≤ names.length := nodup_le ((touched_rising names p).imp fun h e => by rw [e, ltS_irrefl] at h; cases h) fun s hs => (touched_mem.1 hs).1
  refine con_of Try.func26 rfl (Nat.le_of_ble_eq_true rfl) fun w0 O0 => ?_
  refine c_seq ?_
  refine c_region ?_
  refine o_val (v_assign rfl) (Nat.le_of_ble_eq_true rfl) ?_
  refine o_nil ?_
  refine c_seq ?_
  refine c_region ?_
  refine o_val (v_assign rfl) (Nat.le_of_ble_eq_true rfl) ?_
  refine o_nil ?_
  refine c_block ?_
  refine c_ent (Ent.beside (b := Own eStr 9 (.slice none 0 0) ([] : List ByteArray)) (fun w O _ => Own.nil eStr 9 w _)) ?_
  refine c_loopR (γ := Nat × Value) [(0, _), (1, _), (4, _)] (fun g => (touched names p).length - g.1) (fun g => g.1 ≤ (touched names p).length) (fun g => [(5, g.2)]) (fun g => [Own eStr 9 g.2 ((touched names p).take g.1), Sl eStr v names]) ((0, .slice none 0 0)) (Nat.zero_le _) (by repeat (first | exact trivial | refine ⟨rfl, ?_⟩)) (Picks.ent (by repeat (first | exact Picks.nil | (apply Picks.cons; · repeat (first | exact Pick.keep (Sl.isDup _ _ _) | exact Pick.keep (BlkR.isDup _ _ _) | exact Pick.keep (FldCell.isDup _ _) | exact Pick.here | exact Pick.own_sl | exact Pick.apd_sl | exact Pick.r_blk | exact Pick.sl_nil | exact Pick.own_nil | exact Pick.map_itO _ | apply Pick.there))))) ?_
  rintro ⟨n, u⟩ hn1 IH
  dsimp only at hn1 ⊢
  try dsimp only [List.cons_append, List.nil_append]
  refine c_block ?_
  refine c_seq ?_
  refine c_region ?_
  refine o_val (v_assign rfl) (Nat.le_of_ble_eq_true rfl) ?_
  refine o_nil ?_
  refine c_seq ?_
  refine c_region ?_
  refine o_val (v_assign rfl) (Nat.le_of_ble_eq_true rfl) ?_
  refine o_nil ?_
  refine c_seq ?_
  refine c_seq ?_
  refine c_region ?_
  refine o_val (v_assign rfl) (Nat.le_of_ble_eq_true rfl) ?_
  refine o_nil ?_
  refine c_block ?_
  have hul : ((touched names p).take n).length = n := by simp; omega
  refine c_loopQ (γ := Nat) [(0, _), (1, _), (4, _), (5, _)] (fun k => names.length - k) (fun k => k ≤ names.length) (fun k => [(8, .int .i64 k), (7, .bool (least ((names.take k).filter (counts names p n))).isSome), (6, .string ((least ((names.take k).filter (counts names p n))).getD ByteArray.empty))]) (0) (Nat.zero_le _) (by repeat (first | exact trivial | refine ⟨rfl, ?_⟩)) ?_
  rintro k hk IH2
  try dsimp only [List.cons_append, List.nil_append]
  refine c_seq ?_
  refine c_seq ?_
  refine c_region ?_
  refine o_val (v_move rfl) (Nat.le_of_ble_eq_true rfl) ?_
  refine o_val (v_move rfl) (Nat.le_of_ble_eq_true rfl) ?_
  refine o_val ((by first | exact v_len_form Try.underlying30 rfl | exact v_len_sl Try.underlying30 rfl (by repeat (first | exact Has.here | exact Has.sl_apd | exact Has.sl_own | exact Has.r_blk | apply Has.there)))) (Nat.le_of_ble_eq_true rfl) ?_
  refine o_val (v_lt rfl rfl) (Nat.le_of_ble_eq_true rfl) ?_
  refine o_nil ?_
  refine c_cond_p rfl (fun hlt => ?_) (fun hlt => ?_)
  · have hlt' : k < names.length := by omega
    skip
    refine c_skip ?_
    refine c_seq ?_
    refine c_block ?_
    refine c_seq ?_
    refine c_region ?_
    refine o_val (v_move rfl) (Nat.le_of_ble_eq_true rfl) ?_
    refine o_val (v_move rfl) (Nat.le_of_ble_eq_true rfl) ?_
    refine o_val ((by first | exact v_indexAddrN Try.underlying30 ti9 rfl rfl (by repeat (first | exact Has.here | exact Has.sl_apd | exact Has.sl_own | exact Has.r_blk | apply Has.there)) (by omega) | exact v_indexAddr Try.underlying30 ti9 rfl rfl (by repeat (first | exact Has.here | exact Has.sl_apd | exact Has.sl_own | exact Has.r_blk | apply Has.there)) (by omega))) (Nat.le_of_ble_eq_true rfl) ?_
    refine o_val (v_load_str lone9 rfl (by repeat (first | exact Elem.sl (List.getElem?_eq_getElem (by omega)) | exact Elem.own (List.getElem?_eq_getElem (by omega)) | apply Elem.there))) (Nat.le_of_ble_eq_true rfl) ?_
    refine o_val (v_assign rfl) (Nat.le_of_ble_eq_true rfl) ?_
    refine o_nil ?_
    refine c_seq ?_
    have hl1 : ∀ h1, ((touched names p).take n)[(((touched names p).take n).length - 1 : Int).toNat]'h1 = lastS ((touched names p).take n) := fun h1 => last_eq h1 (by omega)
    have hc0 : counts names p n (names[k]'(by omega)) = (hp p (names[k]'(by omega)) && (decide (n = 0) || ltS (lastS ((touched names p).take n)) (names[k]'(by omega)))) := rfl
    refine c_env (env' := [(0, _), (1, _), (4, _), (5, _), (6, _), (7, _), (8, _), (9, _), (10, _), (11, _), (12, _), (13, _), (16, _), (17, _), (18, _), (19, _)]) (by repeat (first | exact trivial | refine ⟨rfl, ?_⟩)) ?_
    refine c_joinb (d := 46) (decide (counts names p n (names[k]'(by omega)) = true ∧ ((least ((names.take k).filter (counts names p n))).isSome = false ∨ ltS (names[k]'(by omega)) ((least ((names.take k).filter (counts names p n))).getD ByteArray.empty) = true))) ?_ ?_
    rotate_left
    · intro J
      refine c_region ?_
      refine o_val (v_move rfl) (Nat.le_of_ble_eq_true rfl) ?_
      refine o_val (v_move rfl) (Nat.le_of_ble_eq_true rfl) ?_
      refine o_step (s_callf_keep cl57 (begins_con _ _ (hn _ (List.getElem_mem _)) hp') rfl (Nat.le_of_ble_eq_true rfl) (by repeat (first | exact Reads.nil | refine Reads.cons (by first | exact Sl.isDup _ _ _ | exact BlkR.isDup _ _ _ | exact Rd.isDup _ _ _ | exact Pu.isDup _ | exact FldCell.isDup _ _) (by repeat (first | exact Has.here | exact Has.sl_apd | exact Has.sl_own | exact Has.r_blk | apply Has.there)) ?_)) (fun _ => by repeat (first | exact Seps.nil | (apply Seps.cons; · first | exact Blk.sep | exact ObjA.sep | exact MapA.sep | exact Pu.sep _ | (refine Own.sep ?_; repeat (first | exact eInt_pure _ | exact eStr_pure | exact eBool_pure | exact eByte_pure | exact eRaw_pure | apply ePair_pure | apply eMap_pure))))) (fun _ _ => ?_))
      refine o_val (v_move rfl) (Nat.le_of_ble_eq_true rfl) ?_
      first | refine o_guard_t rfl rfl (fun g23 => ?_) (fun g23 => ?_) | refine o_guard rfl rfl (fun g23 => ?_) (fun g23 => ?_)
      · refine o_val (v_move rfl) (Nat.le_of_ble_eq_true rfl) ?_
        refine o_on rfl rfl ?_
        refine o_val ((by first | exact v_len_form Try.underlying30 rfl | exact v_len_sl Try.underlying30 rfl (by repeat (first | exact Has.here | exact Has.sl_apd | exact Has.sl_own | exact Has.r_blk | apply Has.there)))) (Nat.le_of_ble_eq_true rfl) ?_
        refine o_on rfl rfl ?_
        refine o_val (v_eq rfl rfl) (Nat.le_of_ble_eq_true rfl) ?_
        refine o_on rfl rfl ?_
        refine o_val (v_move rfl) (Nat.le_of_ble_eq_true rfl) ?_
        first | refine o_guard_f rfl rfl (fun g27 => ?_) (fun g27 => ?_) | refine o_guard rfl rfl (fun g27 => ?_) (fun g27 => ?_)
        · refine o_val (v_move rfl) (Nat.le_of_ble_eq_true rfl) ?_
          refine o_on rfl rfl ?_
          refine o_val (v_move rfl) (Nat.le_of_ble_eq_true rfl) ?_
          refine o_on rfl rfl ?_
          refine o_val (v_move rfl) (Nat.le_of_ble_eq_true rfl) ?_
          refine o_on rfl rfl ?_
          refine o_val ((by first | exact v_len_form Try.underlying30 rfl | exact v_len_sl Try.underlying30 rfl (by repeat (first | exact Has.here | exact Has.sl_apd | exact Has.sl_own | exact Has.r_blk | apply Has.there)))) (Nat.le_of_ble_eq_true rfl) ?_
          refine o_on rfl rfl ?_
          refine o_val ((by first | exact v_sub64 rfl rfl (by omega) | exact v_sub rfl rfl)) (Nat.le_of_ble_eq_true rfl) ?_
          refine o_on rfl rfl ?_
          refine o_val ((by first | exact v_indexAddrN Try.underlying30 ti9 rfl rfl (by repeat (first | exact Has.here | exact Has.sl_apd | exact Has.sl_own | exact Has.r_blk | apply Has.there)) (by omega) | exact v_indexAddr Try.underlying30 ti9 rfl rfl (by repeat (first | exact Has.here | exact Has.sl_apd | exact Has.sl_own | exact Has.r_blk | apply Has.there)) (by omega))) (Nat.le_of_ble_eq_true rfl) ?_
          refine o_on rfl rfl ?_
          refine o_val (v_load_str lone9 rfl (by repeat (first | exact Elem.sl (List.getElem?_eq_getElem (by omega)) | exact Elem.own (List.getElem?_eq_getElem (by omega)) | apply Elem.there))) (Nat.le_of_ble_eq_true rfl) ?_
          refine o_on rfl rfl ?_
          refine o_val (v_sgt rfl rfl) (Nat.le_of_ble_eq_true rfl) ?_
          refine o_on rfl rfl ?_
          refine o_val (v_pick_f rfl rfl) (Nat.le_of_ble_eq_true rfl) ?_
          refine o_val (v_pick_t rfl rfl) (Nat.le_of_ble_eq_true rfl) ?_
          refine o_val (v_move rfl) (Nat.le_of_ble_eq_true rfl) ?_
          first | refine o_guard_t rfl rfl (fun g38 => ?_) (fun g38 => ?_) | refine o_guard rfl rfl (fun g38 => ?_) (fun g38 => ?_)
          · refine o_val (v_move rfl) (Nat.le_of_ble_eq_true rfl) ?_
            refine o_on rfl rfl ?_
            refine o_val (v_not rfl) (Nat.le_of_ble_eq_true rfl) ?_
            refine o_on rfl rfl ?_
            refine o_val (v_move rfl) (Nat.le_of_ble_eq_true rfl) ?_
            first | refine o_guard_f rfl rfl (fun g41 => ?_) (fun g41 => ?_) | refine o_guard rfl rfl (fun g41 => ?_) (fun g41 => ?_)
            · refine o_val (v_move rfl) (Nat.le_of_ble_eq_true rfl) ?_
              refine o_on rfl rfl ?_
              refine o_val (v_move rfl) (Nat.le_of_ble_eq_true rfl) ?_
              refine o_on rfl rfl ?_
              refine o_val (v_slt rfl rfl) (Nat.le_of_ble_eq_true rfl) ?_
              refine o_on rfl rfl ?_
              refine o_val (v_pick_f rfl rfl) (Nat.le_of_ble_eq_true rfl) ?_
              refine o_val (v_pick_t rfl rfl) (Nat.le_of_ble_eq_true rfl) ?_
              refine o_nil ?_
              exact c_use J ⟨Env.as rfl (congrArg Value.bool (by clear J IH IH2; (try (have e0 : n = 0 := by omega)); (try (have e0 : n ≠ 0 := by omega)); (try simp only [gt_iff, hl1] at g38); (try clear hl1); simp_all [ltS_def])), (by repeat (first | exact trivial | refine ⟨rfl, ?_⟩))⟩ (Ent.refl _)
            · refine o_off rfl rfl rfl (Nat.le_of_ble_eq_true rfl) ?_
              refine o_off rfl rfl rfl (Nat.le_of_ble_eq_true rfl) ?_
              refine o_off rfl rfl rfl (Nat.le_of_ble_eq_true rfl) ?_
              refine o_on rfl rfl ?_
              refine o_val (v_pick_t rfl rfl) (Nat.le_of_ble_eq_true rfl) ?_
              refine o_val (v_pick_t rfl rfl) (Nat.le_of_ble_eq_true rfl) ?_
              refine o_nil ?_
              exact c_use J ⟨Env.as rfl (congrArg Value.bool (by clear J IH IH2; (try (have e0 : n = 0 := by omega)); (try (have e0 : n ≠ 0 := by omega)); (try simp only [gt_iff, hl1] at g38); (try clear hl1); simp_all [ltS_def])), (by repeat (first | exact trivial | refine ⟨rfl, ?_⟩))⟩ (Ent.refl _)
          · refine o_off rfl rfl rfl (Nat.le_of_ble_eq_true rfl) ?_
            refine o_off rfl rfl rfl (Nat.le_of_ble_eq_true rfl) ?_
            refine o_off rfl rfl rfl (Nat.le_of_ble_eq_true rfl) ?_
            refine o_offu rfl rfl (Nat.le_of_ble_eq_true rfl) ?_
            refine o_offu rfl rfl (Nat.le_of_ble_eq_true rfl) ?_
            refine o_offu rfl rfl (Nat.le_of_ble_eq_true rfl) ?_
            refine o_off rfl rfl rfl (Nat.le_of_ble_eq_true rfl) ?_
            refine o_val (v_pick_f rfl rfl) (Nat.le_of_ble_eq_true rfl) ?_
            refine o_nil ?_
            exact c_use J ⟨Env.as rfl (congrArg Value.bool (by clear J IH IH2; (try (have e0 : n = 0 := by omega)); (try (have e0 : n ≠ 0 := by omega)); (try simp only [gt_iff, hl1] at g38); (try clear hl1); simp_all [ltS_def])), (by repeat (first | exact trivial | refine ⟨rfl, ?_⟩))⟩ (Ent.refl _)
        · refine o_off rfl rfl rfl (Nat.le_of_ble_eq_true rfl) ?_
          refine o_off rfl rfl rfl (Nat.le_of_ble_eq_true rfl) ?_
          refine o_off rfl rfl rfl (Nat.le_of_ble_eq_true rfl) ?_
          refine o_off rfl rfl rfl (Nat.le_of_ble_eq_true rfl) ?_
          refine o_off rfl rfl rfl (Nat.le_of_ble_eq_true rfl) ?_
          refine o_off rfl rfl rfl (Nat.le_of_ble_eq_true rfl) ?_
          refine o_off rfl rfl rfl (Nat.le_of_ble_eq_true rfl) ?_
          refine o_off rfl rfl rfl (Nat.le_of_ble_eq_true rfl) ?_
          refine o_on rfl rfl ?_
          refine o_val (v_pick_t rfl rfl) (Nat.le_of_ble_eq_true rfl) ?_
          refine o_val (v_pick_t rfl rfl) (Nat.le_of_ble_eq_true rfl) ?_
          refine o_val (v_move rfl) (Nat.le_of_ble_eq_true rfl) ?_
          refine o_on rfl rfl ?_
          refine o_val (v_move rfl) (Nat.le_of_ble_eq_true rfl) ?_
          refine o_on rfl rfl ?_
          refine o_val (v_not rfl) (Nat.le_of_ble_eq_true rfl) ?_
          refine o_on rfl rfl ?_
          refine o_val (v_move rfl) (Nat.le_of_ble_eq_true rfl) ?_
          first | refine o_guard_f rfl rfl (fun g41 => ?_) (fun g41 => ?_) | refine o_guard rfl rfl (fun g41 => ?_) (fun g41 => ?_)
          · refine o_val (v_move rfl) (Nat.le_of_ble_eq_true rfl) ?_
            refine o_on rfl rfl ?_
            refine o_val (v_move rfl) (Nat.le_of_ble_eq_true rfl) ?_
            refine o_on rfl rfl ?_
            refine o_val (v_slt rfl rfl) (Nat.le_of_ble_eq_true rfl) ?_
            refine o_on rfl rfl ?_
            refine o_val (v_pick_f rfl rfl) (Nat.le_of_ble_eq_true rfl) ?_
            refine o_val (v_pick_t rfl rfl) (Nat.le_of_ble_eq_true rfl) ?_
            refine o_nil ?_
            exact c_use J ⟨Env.as rfl (congrArg Value.bool (by clear J IH IH2; (try (have e0 : n = 0 := by omega)); (try (have e0 : n ≠ 0 := by omega)); (try simp only [gt_iff, hl1] at g38); (try clear hl1); simp_all [ltS_def])), (by repeat (first | exact trivial | refine ⟨rfl, ?_⟩))⟩ (Ent.refl _)
          · refine o_off rfl rfl rfl (Nat.le_of_ble_eq_true rfl) ?_
            refine o_off rfl rfl rfl (Nat.le_of_ble_eq_true rfl) ?_
            refine o_off rfl rfl rfl (Nat.le_of_ble_eq_true rfl) ?_
            refine o_on rfl rfl ?_
            refine o_val (v_pick_t rfl rfl) (Nat.le_of_ble_eq_true rfl) ?_
            refine o_val (v_pick_t rfl rfl) (Nat.le_of_ble_eq_true rfl) ?_
            refine o_nil ?_
            exact c_use J ⟨Env.as rfl (congrArg Value.bool (by clear J IH IH2; (try (have e0 : n = 0 := by omega)); (try (have e0 : n ≠ 0 := by omega)); (try simp only [gt_iff, hl1] at g38); (try clear hl1); simp_all [ltS_def])), (by repeat (first | exact trivial | refine ⟨rfl, ?_⟩))⟩ (Ent.refl _)
      · refine o_off rfl rfl rfl (Nat.le_of_ble_eq_true rfl) ?_
        refine o_off rfl rfl rfl (Nat.le_of_ble_eq_true rfl) ?_
        refine o_off rfl rfl rfl (Nat.le_of_ble_eq_true rfl) ?_
        refine o_off rfl rfl rfl (Nat.le_of_ble_eq_true rfl) ?_
        refine o_offu rfl rfl (Nat.le_of_ble_eq_true rfl) ?_
        refine o_offu rfl rfl (Nat.le_of_ble_eq_true rfl) ?_
        refine o_offu rfl rfl (Nat.le_of_ble_eq_true rfl) ?_
        refine o_offu rfl rfl (Nat.le_of_ble_eq_true rfl) ?_
        refine o_offu rfl rfl (Nat.le_of_ble_eq_true rfl) ?_
        refine o_offu rfl rfl (Nat.le_of_ble_eq_true rfl) ?_
        refine o_offu rfl rfl (Nat.le_of_ble_eq_true rfl) ?_
        refine o_offu rfl rfl (Nat.le_of_ble_eq_true rfl) ?_
        refine o_off rfl rfl rfl (Nat.le_of_ble_eq_true rfl) ?_
        refine o_val (v_pick_f rfl rfl) (Nat.le_of_ble_eq_true rfl) ?_
        refine o_val (v_move rfl) (Nat.le_of_ble_eq_true rfl) ?_
        refine o_off rfl rfl rfl (Nat.le_of_ble_eq_true rfl) ?_
        refine o_off rfl rfl rfl (Nat.le_of_ble_eq_true rfl) ?_
        refine o_off rfl rfl rfl (Nat.le_of_ble_eq_true rfl) ?_
        refine o_offu rfl rfl (Nat.le_of_ble_eq_true rfl) ?_
        refine o_offu rfl rfl (Nat.le_of_ble_eq_true rfl) ?_
        refine o_offu rfl rfl (Nat.le_of_ble_eq_true rfl) ?_
        refine o_off rfl rfl rfl (Nat.le_of_ble_eq_true rfl) ?_
        refine o_val (v_pick_f rfl rfl) (Nat.le_of_ble_eq_true rfl) ?_
        refine o_nil ?_
        exact c_use J ⟨Env.as rfl (congrArg Value.bool (by clear J IH IH2; (try (have e0 : n = 0 := by omega)); (try (have e0 : n ≠ 0 := by omega)); (try simp only [gt_iff, hl1] at g38); (try clear hl1); simp_all [ltS_def])), (by repeat (first | exact trivial | refine ⟨rfl, ?_⟩))⟩ (Ent.refl _)
    refine c_cond_p rfl (fun hc => ?_) (fun hc => ?_)
    · refine c_seq ?_
      refine c_region ?_
      refine o_val (v_move rfl) (Nat.le_of_ble_eq_true rfl) ?_
      refine o_val (v_assign rfl) (Nat.le_of_ble_eq_true rfl) ?_
      refine o_nil ?_
      refine c_region ?_
      refine o_val (v_assign rfl) (Nat.le_of_ble_eq_true rfl) ?_
      refine o_nil ?_
      refine c_inBlock ?_
      refine c_region ?_
      refine o_val (v_move rfl) (Nat.le_of_ble_eq_true rfl) ?_
      refine o_val ((by first | exact v_add64 rfl rfl (by omega) | exact v_add rfl rfl)) (Nat.le_of_ble_eq_true rfl) ?_
      refine o_val (v_assign rfl) (Nat.le_of_ble_eq_true rfl) ?_
      refine o_nil ?_
      have hs := least_step (p := p) (n := n) hlt'
      rw [if_pos hc] at hs
      refine c_use (IH2 (k + 1) (by omega) (by omega)) ?_ (Ent.refl _)
      rw [hs]
      exact (by repeat (first | exact trivial | refine ⟨rfl, ?_⟩))
    · refine c_skip ?_
      refine c_inBlock ?_
      refine c_region ?_
      refine o_val (v_move rfl) (Nat.le_of_ble_eq_true rfl) ?_
      refine o_val ((by first | exact v_add64 rfl rfl (by omega) | exact v_add rfl rfl)) (Nat.le_of_ble_eq_true rfl) ?_
      refine o_val (v_assign rfl) (Nat.le_of_ble_eq_true rfl) ?_
      refine o_nil ?_
      have hs := least_step (p := p) (n := n) hlt'
      rw [if_neg hc] at hs
      refine c_use (IH2 (k + 1) (by omega) (by omega)) ?_ (Ent.refl _)
      rw [hs]
      exact (by repeat (first | exact trivial | refine ⟨rfl, ?_⟩))
  · have hkl : k = names.length := by omega
    subst hkl
    rw [List.take_length]
    obtain ⟨he1, he2⟩ := least_end hn1
    refine c_exit rfl ?_
    refine c_seq ?_
    refine c_seq ?_
    refine c_region ?_
    refine o_val (v_move rfl) (Nat.le_of_ble_eq_true rfl) ?_
    refine o_val (v_not rfl) (Nat.le_of_ble_eq_true rfl) ?_
    refine o_nil ?_
    refine c_cond rfl (fun hc => ?_) (fun hc => ?_)
    · refine c_seq ?_
      refine c_region ?_
      refine o_val (v_move rfl) (Nat.le_of_ble_eq_true rfl) ?_
      refine o_val (v_assign rfl) (Nat.le_of_ble_eq_true rfl) ?_
      refine o_nil ?_
      refine c_ret1 Try.func26 rfl rfl fun w O hS => ?_
      have h0 : least (names.filter (counts names p n)) = none := by simpa using hc
      have := he1 h0
      subst this
      rw [List.take_length] at hS
      exact ⟨u, rfl, trivial, Ent.get hS (Picks.ent (by repeat (first | exact Picks.nil | (apply Picks.cons; · repeat (first | exact Pick.keep (Sl.isDup _ _ _) | exact Pick.keep (BlkR.isDup _ _ _) | exact Pick.keep (FldCell.isDup _ _) | exact Pick.here | exact Pick.own_sl | exact Pick.apd_sl | exact Pick.r_blk | exact Pick.sl_nil | exact Pick.own_nil | exact Pick.map_itO _ | apply Pick.there)))))⟩
    · obtain ⟨t, ht⟩ : ∃ t, least (names.filter (counts names p n)) = some t := by
        cases h : least (names.filter (counts names p n)) with
        | none => rw [h] at hc; cases hc
        | some t => exact ⟨t, rfl⟩
      obtain ⟨hn2, rfl⟩ := he2 t ht
      rw [ht]
      refine c_skip ?_
      refine c_region ?_
      refine o_val (v_move rfl) (Nat.le_of_ble_eq_true rfl) ?_
      refine o_val (v_move rfl) (Nat.le_of_ble_eq_true rfl) ?_
      refine o_step (s_buildSlice Try.underlying30 ti9 rfl rfl rfl (by decide) (by decide) (beside_str [(touched names p)[n]]) rfl rfl (Nat.le_of_ble_eq_true rfl) fun v1 => ?_)
      refine o_step (s_append Try.underlying30 ti9 rfl (by decide) rfl rfl (Nat.le_of_ble_eq_true rfl) (by repeat (first | exact Pick.here | exact Pick.own_nil | apply Pick.there)) (by repeat (first | exact Pick.keep (Sl.isDup _ _ _) | exact Pick.keep (BlkR.isDup _ _ _) | exact Pick.keep (FldCell.isDup _ _) | exact Pick.here | exact Pick.own_sl | exact Pick.apd_sl | exact Pick.r_blk | exact Pick.sl_nil | exact Pick.own_nil | exact Pick.map_itO _ | apply Pick.there)) rfl (by (first | omega | (simp only [maxLen, List.length_append, List.length_drop, List.length_take, List.length_nil, List.length_cons]; omega))) (by (first | omega | (simp only [maxLen, List.length_append, List.length_drop, List.length_take, List.length_nil, List.length_cons]; omega))) fun v2 => ?_)
      refine o_val (v_assign rfl) (Nat.le_of_ble_eq_true rfl) ?_
      refine o_nil ?_
      refine c_inBlock ?_
      refine c_use (IH (n + 1, v2) (by dsimp only; omega) (by dsimp only; omega)) (by repeat (first | exact trivial | refine ⟨rfl, ?_⟩)) ?_
      dsimp only
      rw [List.take_succ_eq_append_getElem hn2]
      exact (Picks.ent (by repeat (first | exact Picks.nil | (apply Picks.cons; · repeat (first | exact Pick.keep (Sl.isDup _ _ _) | exact Pick.keep (BlkR.isDup _ _ _) | exact Pick.keep (FldCell.isDup _ _) | exact Pick.here | exact Pick.own_sl | exact Pick.apd_sl | exact Pick.r_blk | exact Pick.sl_nil | exact Pick.own_nil | exact Pick.map_itO _ | apply Pick.there)))))
end Go.Proofs.Ytnamhhmfnokfiaa

/- The texts LS, L1, L2, L3, K1, K2, K3, K4, one behind the other. -/
import Derived.Test.YtnamhhmfnokfiaaZZ3
import Derived.Sort.OwnSortedInts
set_option linter.unusedVariables false
set_option linter.unusedSimpArgs false
/- Library functions that work in place on a row of one's own: sorts, Compact. -/
namespace Go.Proofs.Ytnamhhmfnokfiaa
open Go Go.SL Go.Sort

theorem rows_f {α : Type} {e : Enc α} {f : α → Value} (h1 : ∀ w O cs x, e.rd w O cs x → cs = [f x]) {w : World} {O : Perm} : ∀ {cs : List Value} {xs : List α}, Go.SL.Rows e w O cs xs → cs = xs.map f
  | _, [], h => h
  | _, x :: xs, ⟨c1, c2, h0, h2, h3⟩ => by rw [h0, h1 _ _ _ _ h2, rows_f h1 h3]; rfl
theorem f_rows {α β : Type} {e : Enc α} {f : β → Value} {dec : β → α} (h1 : ∀ w O b, e.rd w O [f b] (dec b)) {w : World} {O : Perm} : ∀ xs : List β, Go.SL.Rows e w O (xs.map f) (xs.map dec)
  | [] => rfl
  | x :: xs => ⟨[f x], xs.map f, rfl, h1 _ _ x, f_rows h1 xs⟩
theorem take_put {β : Type} [Inhabited β] {f : β → Value} (cur : Array Value) (ts : List β) (h : ts.length ≤ cur.size) : (putCells f 0 ts.toArray cur).toList.take ts.length = ts.map f := by
  apply List.ext_getElem?
  intro j
  by_cases hj : j < ts.length
  · rw [List.getElem?_take_of_lt hj, Array.getElem?_toList]
    simp [putCells, hj, show j < cur.size by omega]
  · rw [List.getElem?_take_eq_none (by omega), List.getElem?_eq_none (by simp; omega)]
theorem holds_blk {β : Type} [Inhabited β] {f : β → Value} {w : World} {g : Nat} {cur : Array Value} {e : TypeId} {ss : List β} (hb : w.heap[g]? = some (.cells cur e (0, 0))) (ht : cur.toList.take ss.length = ss.map f) : Holds f w g 0 ss.toArray := by
  intro j hj
  have hj' : j < ss.length := by simpa using hj
  refine ⟨?_, by simp [World.frozen?, hb]⟩
  have h1 : (cur.toList.take ss.length)[j]? = (ss.map f)[j]? := by rw [ht]
  rw [List.getElem?_take_of_lt hj'] at h1
  simp only [World.cell?, hb, Nat.zero_add]
  simp only [Option.isSome_none, Bool.false_eq_true, if_false]
  rw [← Array.getElem?_toList, h1]
  simp [hj']
/-- What an in-place step over a row of one's own comes to. -/
theorem own_inplace {α β : Type} [Inhabited β] {e : Enc α} {f : β → Value} {dec : β → α} (hn : e.n = 1) (hrd : ∀ w O b, e.rd w O [f b] (dec b)) {w w' : World} {O : Perm} {E : TypeId} {g cap : Nat} {xs : List α} {ds : List β} {n : Nat} {os : Array Obj}
    (hs : Stars [Own e E (.slice (some ⟨g, 0, none⟩) xs.length cap) xs] w O) (hd : ∀ b, O b ≠ 0 → b < w.heap.size) (hl : ds.length = xs.length) (hw : w' = grow (putRow f (Sort.ahead w n) g 0 ds.toArray) os) :
    Stars [Own e E (.slice (some ⟨g, 0, none⟩) xs.length cap) (ds.map dec)] w' O ∧ Rel w O w' O := by
  obtain ⟨O1, O2, s, ⟨P1, P2, cs, t1, g1, g2, g3⟩, _⟩ := hs
  have hO := s.l g
  have hO1 := t1.l g
  have h2 := g2 g rfl
  rcases g1.2 with ⟨h, _⟩ | ⟨g', cap', cur, hv, _, hg, hle, hmx, hsz, htk⟩
  · cases h
  cases hv
  have hsz' : xs.length ≤ cur.size := by rw [hsz, hn]; omega
  have hgs : g < w.heap.size := hd g (by omega)
  have hnew : w'.heap[g]? = some (.cells (putCells f 0 ds.toArray cur) E (0, 0)) := by
    rw [hw, heap_grow_old _ _ (by simpa using hgs)]
    simp [putRow, mapBlock, Sort.ahead, Array.getElem?_modify, hg, onCells]
  have hgr : w.grownBy w' (some g) := by
    rw [hw]
    refine ⟨rfl, rfl, rfl, by simp, fun k hk hne => ?_⟩
    rw [heap_grow_old _ _ (by simpa using hk)]
    have : g ≠ k := fun e => hne (by rw [e])
    simp [putRow, mapBlock, Sort.ahead, Array.getElem?_modify, this]
  refine ⟨⟨O1, O2, s, ⟨P1, P2, ds.map f, t1, ⟨?_, .inr ⟨g, cap, _, by simp [hl], Nat.zero_le _, hnew, by simpa [hl] using hle, hmx, ?_, ?_⟩⟩, g2, f_rows hrd ds⟩, trivial⟩, ?_⟩
  · simp [hl, hn]
  · simpa [putCells] using hsz
  · rw [hn, Nat.mul_one, List.length_map]
    exact take_put cur ds (by omega)
  · refine ⟨hgr.os, hgr.tape, hgr.output, hgr.size, fun b hb h => hgr.block b hb ?_, fun _ _ => Nat.le_refl _, fun b hb => Nat.lt_of_lt_of_le (hd b hb) hgr.size⟩
    intro e
    have : b = g := by simpa using e
    subst this
    omega
def sbs (s : ByteArray) : List UInt8 := s.data.toList
def bss (l : List UInt8) : ByteArray := ⟨l.toArray⟩
theorem bss_sbs (s : ByteArray) : bss (sbs s) = s := rfl
theorem sbs_bss (l : List UInt8) : sbs (bss l) = l := rfl
theorem map_bss_sbs (l : List ByteArray) : (l.map sbs).map bss = l := by rw [List.map_map]; exact List.map_id'' (fun _ => rfl) _
def sortI (xs : List Int) : List Int := xs.mergeSort fun x y => decide (x ≤ y)
def sortS (xs : List ByteArray) : List ByteArray := ((xs.map sbs).mergeSort fun x y => decide (x ≤ y)).map bss
def compI (xs : List Int) : List Int := Lib.compact xs
def compS (xs : List ByteArray) : List ByteArray := (Lib.compact (xs.map sbs)).map bss
theorem sortI_len (xs : List Int) : (sortI xs).length = xs.length := List.length_mergeSort _
theorem sortS_len (xs : List ByteArray) : (sortS xs).length = xs.length := by simp [sortS]
theorem comp_len {α : Type} [Inhabited α] [DecidableEq α] (xs : List α) : (Lib.compact xs).length ≤ xs.length := by
  simp only [Lib.compact, Lib.compactUpTo, List.length_map]
  exact Nat.le_trans (List.length_filter_le _ _) (by simp)
theorem compS_len (xs : List ByteArray) : (compS xs).length ≤ xs.length := by
  have := comp_len (xs.map sbs); simpa [compS] using this

theorem sort_int (v : Value) (xs : List Int) (hl : xs.length < 4611686018427387904) :
    Con Try.prog 79 [v] [Own (eInt .i64) 3 v xs] (γ := Unit) (fun _ => .tuple #[]) (fun _ => True) (fun _ => [Own (eInt .i64) 3 v (sortI xs)]) := by
  refine Con.own (v := v) (xs := xs) Has.here ?_ ?_
  · rintro rfl rfl w O hs hd
    exact (Try.slices_Sort_int_none none 0 w).mono fun e w' ⟨he, hw⟩ => by subst hw; exact ⟨(), O, he, trivial, by simpa [sortI] using hs, Rel.refl hd⟩
  · rintro g cap rfl hcap w O hs hd
    obtain ⟨O1, O2, s, ⟨P1, P2, cs, t1, g1, g2, g3⟩, _⟩ := id hs
    rcases g1.2 with ⟨h, _⟩ | ⟨g', cap', cur, hv, _, hg, hle, hmx, hsz, htk⟩
    · cases h
    cases hv
    have hcs := rows_f (f := .int .i64) (fun _ _ _ _ h => h) g3
    have hgs : g < w.heap.size := hd g (by have := g2 g rfl; have := t1.l g; have := s.l g; omega)
    refine (Try.slices_Sort_int g 0 cap xs w (holds_blk hg (by rw [← hcs, ← htk]; show _ = List.take (xs.length * 1) _; rw [Nat.mul_one])) hgs hl).mono fun e w' ⟨he, n, os, hw⟩ => ?_
    obtain ⟨h1, h2⟩ := own_inplace (dec := id) rfl (fun _ _ _ => rfl) hs hd (sortI_len xs) hw
    refine ⟨(), O, he, trivial, ?_, h2⟩
    simpa using h1
theorem sort_str (v : Value) (xs : List ByteArray) (hl : xs.length < 4611686018427387904) :
    Con Try.prog 108 [v] [Own eStr 9 v xs] (γ := Unit) (fun _ => .tuple #[]) (fun _ => True) (fun _ => [Own eStr 9 v (sortS xs)]) := by
  refine Con.own (v := v) (xs := xs) Has.here ?_ ?_
  · rintro rfl rfl w O hs hd
    exact (Try.slices_Sort_string_none none 0 w).mono fun e w' ⟨he, hw⟩ => by subst hw; exact ⟨(), O, he, trivial, by simpa [sortS] using hs, Rel.refl hd⟩
  · rintro g cap rfl hcap w O hs hd
    obtain ⟨O1, O2, s, ⟨P1, P2, cs, t1, g1, g2, g3⟩, _⟩ := id hs
    rcases g1.2 with ⟨h, _⟩ | ⟨g', cap', cur, hv, _, hg, hle, hmx, hsz, htk⟩
    · cases h
    cases hv
    have hcs := rows_f (f := .string) (fun _ _ _ _ h => h) g3
    have hgs : g < w.heap.size := hd g (by have := g2 g rfl; have := t1.l g; have := s.l g; omega)
    have hH := holds_blk (f := encStr) (ss := xs.map sbs) hg (by rw [List.length_map, List.map_map, show (encStr ∘ sbs) = Value.string from rfl, ← hcs, ← htk]; show _ = List.take (xs.length * 1) _; rw [Nat.mul_one])
    have hc := Try.slices_Sort_string g 0 cap (xs.map sbs) w hH hgs (by simpa using hl)
    rw [List.length_map] at hc
    refine hc.mono fun e w' ⟨he, n, os, hw⟩ => ?_
    obtain ⟨h1, h2⟩ := own_inplace (dec := bss) rfl (fun _ _ _ => rfl) hs hd (by simp) hw
    exact ⟨(), O, he, trivial, h1, h2⟩
/-- A cut of what an in-place step has left. -/
theorem stars_cut {α : Type} {e : Enc α} {E : TypeId} {g cap n k0 : Nat} {xs : List α} {w : World} {O : Perm} (hs : Stars [Own e E (.slice (some ⟨g, 0, none⟩) n cap) xs] w O) (hn : n = xs.length) (hk : k0 ≤ xs.length) : Stars [Own e E (.slice (some ⟨g, 0, none⟩) k0 cap) (xs.take k0)] w O := by
  subst hn
  exact Ent.head (fun _ _ h => Own.cut h hk) w O hs
theorem grow_nil (w : World) : grow w #[] = w := by simp [grow]
theorem compact_str (v : Value) (xs : List ByteArray) (hl : xs.length ≤ 9223372036854775807) :
    Con Try.prog 89 [v] [Own eStr 9 v xs] (γ := Value) (fun r => r) (fun _ => True) (fun r => [Own eStr 9 r (compS xs)]) := by
  refine Con.own (v := v) (xs := xs) Has.here ?_ ?_
  · rintro rfl rfl w O hs hd
    exact (Try.slices_Compact_string_empty none 0 w).mono fun e w' ⟨he, hw⟩ => by subst hw; exact ⟨_, O, he, trivial, hs, Rel.refl hd⟩
  · rintro g cap rfl hcap w O hs hd
    obtain ⟨O1, O2, s, ⟨P1, P2, cs, t1, g1, g2, g3⟩, _⟩ := id hs
    rcases g1.2 with ⟨h, _⟩ | ⟨g', cap', cur, hv, _, hg, hle, hmx, hsz, htk⟩
    · cases h
    cases hv
    have hcs := rows_f (f := .string) (fun _ _ _ _ h => h) g3
    have hH := holds_blk (f := encStr) (ss := xs.map sbs) hg (by rw [List.length_map, List.map_map, show (encStr ∘ sbs) = Value.string from rfl, ← hcs, ← htk]; show _ = List.take (xs.length * 1) _; rw [Nat.mul_one])
    have hc := Try.slices_Compact_string g 0 cap (xs.map sbs) w hH (by simpa using hl) (by simpa using hcap)
    rw [List.length_map] at hc
    have hle2 := comp_len (xs.map sbs)
    rw [List.length_map] at hle2
    refine hc.mono fun e w' ⟨he, q, hw⟩ => ?_
    obtain ⟨h1, h2⟩ := own_inplace (w' := w') (dec := bss) (ds := Lib.compact (xs.map sbs) ++ List.replicate (xs.length - (Lib.compact (xs.map sbs)).length) []) (n := q) (os := #[]) rfl (fun _ _ _ => rfl) hs hd (by simp; omega) (by rw [grow_nil]; exact hw)
    have h3 := stars_cut (k0 := (Lib.compact (xs.map sbs)).length) h1 (by simp; omega) (by simp)
    refine ⟨_, O, he, trivial, ?_, h2⟩
    rw [List.map_append, List.take_left' (by simp)] at h3
    exact h3
theorem compact_int (v : Value) (xs : List Int) (hl : xs.length ≤ 9223372036854775807) :
    Con Try.prog 80 [v] [Own (eInt .i64) 3 v xs] (γ := Value) (fun r => r) (fun _ => True) (fun r => [Own (eInt .i64) 3 r (compI xs)]) := by
  refine Con.own (v := v) (xs := xs) Has.here ?_ ?_
  · rintro rfl rfl w O hs hd
    exact (Try.slices_Compact_int_empty none 0 w).mono fun e w' ⟨he, hw⟩ => by subst hw; exact ⟨_, O, he, trivial, hs, Rel.refl hd⟩
  · rintro g cap rfl hcap w O hs hd
    obtain ⟨O1, O2, s, ⟨P1, P2, cs, t1, g1, g2, g3⟩, _⟩ := id hs
    rcases g1.2 with ⟨h, _⟩ | ⟨g', cap', cur, hv, _, hg, hle, hmx, hsz, htk⟩
    · cases h
    cases hv
    have hcs := rows_f (f := .int .i64) (fun _ _ _ _ h => h) g3
    have hle2 := comp_len xs
    refine (Try.slices_Compact_int g 0 cap xs w (holds_blk hg (by rw [← hcs, ← htk]; show _ = List.take (xs.length * 1) _; rw [Nat.mul_one])) hl hcap).mono fun e w' ⟨he, q, hw⟩ => ?_
    obtain ⟨h1, h2⟩ := own_inplace (w' := w') (dec := id) (ds := Lib.compact xs ++ List.replicate (xs.length - (Lib.compact xs).length) 0) (n := q) (os := #[]) rfl (fun _ _ _ => rfl) hs hd (by simp; omega) (by rw [grow_nil]; exact hw)
    have h3 := stars_cut (k0 := (Lib.compact xs).length) h1 (by simp; omega) (by simp)
    refine ⟨_, O, he, trivial, ?_, h2⟩
    rw [List.map_append, List.take_left' (by simp), List.map_id] at h3
    exact h3
theorem hasPrefix_con (s p : ByteArray) : Con Try.prog 95 [.string s, .string p] [] (γ := Unit) (fun _ => .bool (Lib.hasPrefix s.data.toList p.data.toList)) (fun _ => True) (fun _ => []) := con_pure fun w _ _ => Try.strings_HasPrefix s p w
end Go.Proofs.Ytnamhhmfnokfiaa
namespace Go.Proofs.Ytnamhhmfnokfiaa
open Go Go.SL
attribute [local irreducible] Cfg Kont StepK Val Con Qops Any Sl Own Blk BlkR Rd Pu ExA AllA Has Pick Ent Elem Beside Callable TI Lone OwnO AndA

theorem nxL_take {α : Type} {xs : List α} {i : Nat} (h : i < xs.length) : nxL xs (xs.take i) xs[i] := by
  unfold nxL
  rw [← List.take_succ_eq_append_getElem h]
  exact List.take_prefix _ _
theorem nxL_len {α : Type} {xs pre : List α} {x : α} (h : nxL xs pre x) : pre.length < xs.length := by
  have := h.length_le
  simp at this; omega
def nxK {κ : Type} (m : List (κ × Value)) (pre : List κ) (x : κ) : Prop := x ∈ m.map (fun p : κ × Value => p.1) ∧ x ∉ pre ∧ pre.Nodup ∧ ∀ y ∈ pre, y ∈ m.map fun p : κ × Value => p.1
def finK {κ : Type} (m : List (κ × Value)) (pre : List κ) : Prop := pre.Nodup ∧ (∀ y ∈ pre, y ∈ m.map fun p : κ × Value => p.1) ∧ ∀ y ∈ m.map (fun p : κ × Value => p.1), y ∈ pre
theorem ent_swap_it {κ : Type} [DecidableEq κ] {ke : KeyEnc κ} {it c : Nat} {o : Option Nat} {m : List (κ × Value)} {pre : List κ} {T : TypeId} {cs : List Value} {L : List A} : Ent (MapItO ke it o m pre :: BlkR c T cs :: L) (BlkR c T cs :: MapO ke o m :: L) :=
  Ent.trans (Pick.map_itO ke).ent (Ent.perm (List.Perm.swap _ _ _))
theorem nodup_le {κ : Type} [DecidableEq κ] : ∀ {l r : List κ}, l.Nodup → (∀ x ∈ l, x ∈ r) → l.length ≤ r.length
  | [], _, _, _ => Nat.zero_le _
  | x :: l, r, h, hs => by
    have h' := List.nodup_cons.1 h
    have hx := hs x (by simp)
    have := nodup_le (r := r.erase x) h'.2 fun y hy => (List.mem_erase_of_ne (fun e => h'.1 (by rw [← e]; exact hy))).2 (hs y (by simp [hy]))
    rw [List.length_erase_of_mem hx] at this
    have := List.length_pos_of_mem hx
    simp only [List.length_cons]; omega
theorem nxK_len {κ : Type} [DecidableEq κ] {m : List (κ × Value)} {pre : List κ} {x : κ} (h : nxK m pre x) : pre.length ≤ m.length := by
  have := nodup_le h.2.2.1 h.2.2.2; simpa using this
theorem finK_len {κ : Type} [DecidableEq κ] {m : List (κ × Value)} {pre : List κ} (h : finK m pre) : pre.length ≤ m.length := by
  have := nodup_le h.1 h.2.1; simpa using this

set_option maxRecDepth 100000 in
theorem appendSeq_I {g : FuncId} {caps : List Value} {Lg : List A} {nx : List Int → Int → Prop} {fin : List Int → Prop} (cl : Callable Try.prog g) (it : Iter Try.prog g caps Lg nx fin (fun x => [.int .i64 x])) (hb : ∀ pre x, nx pre x → pre.length ≤ 8796093022207) :
    Con Try.prog 114 [.slice none 0 0, .func (.func g) #[] caps.toArray] Lg (γ := Value × List Int) (fun r => r.1) (fun r => fin r.2) (fun r => Own (eInt .i64) 3 r.1 r.2 :: Lg) := by
  refine con_of Try.func114 rfl (dd rfl) fun w0 O0 => ?_
  refine c_seq ?_
  refine c_region ?_
  refine o_step (s_box rfl (dd rfl) (fun b2 => ?_))
  refine o_val (v_assign rfl) (dd rfl) ?_
  refine o_nil ?_
  refine c_seq ?_
  refine c_seq ?_
  refine c_region ?_
  refine o_val (v_move rfl) (dd rfl) ?_
  refine o_nil ?_
  refine c_block ?_
  refine c_ent (Ent.beside (b := Own (eInt .i64) 3 (.slice none 0 0) ([] : List Int)) (fun w O _ => Own.nil (eInt .i64) 3 w _)) ?_
  refine c_rangeFunc (fun pre => [ExA fun u : Value => AllA [Blk b2 35 [u], Own (eInt .i64) 3 u pre]]) (fun _ => [Pu False]) ([]) (it) cl rfl (by refine Ent.trans ?_ Ent.last; exact Pick.ent (Pick.ex (Value.slice none 0 0) (Pick.all (pXs (by repeat constructor))))) rfl (fun _ => rfl) (fun l r pre x w1 O1 hr hx => ?_) (fun D pre hfin => ?_) (fun D j => ?_)
  · refine c_ent (Ent.perm (List.Perm.swap _ _ _)) ?_
    refine c_ex fun u => c_all ?_
    have hlen := hb pre x hx
    refine c_region ?_
    refine o_val (v_assign rfl) (dd rfl) ?_
    refine o_nil ?_
    refine c_beginRound (pX (by repeat constructor)) ‹_› ?_
    refine c_block ?_
    refine c_region ?_
    refine o_val (v_load lone35 rfl (hX (by repeat constructor)) rfl) (dd rfl) ?_
    refine o_val (v_move rfl) (dd rfl) ?_
    refine o_step (s_buildSlice Try.underlying35 ti3 rfl rfl rfl (by decide) (by decide) (beside_int .i64 [x]) rfl rfl (dd rfl) fun v1 => ?_)
    refine o_step (s_append Try.underlying35 ti3 rfl (by decide) rfl rfl (dd rfl) (pB (by repeat constructor)) (pX (by repeat constructor)) rfl (by (first | omega | (simp only [maxLen, List.length_append, List.length_drop, List.length_take, List.length_nil, List.length_cons]; omega))) (by (first | omega | (simp only [maxLen, List.length_append, List.length_drop, List.length_take, List.length_nil, List.length_cons]; omega))) fun v2 => ?_)
    refine o_step (s_store1 ti35 rfl rfl (by first | exact OneC.lit rfl | exact OneC.sl (hX (by repeat constructor)) ) (pB (by repeat constructor)) (by first | decide | exact Nat.le_of_ble_eq_true rfl | simp) (by first | (dsimp only [List.set_cons_succ, List.set_cons_zero]; first | done | exact rfl) | rfl) (?_))
    refine o_nil ?_
    refine c_inBlock ?_
    refine c_roundEnd fun w O hS => ?_
    exact .inl ⟨rfl, Ent.get hS (Picks.ent (Picks.cons (pX (by repeat constructor)) (Picks.cons (Pick.ex v2 (Pick.all (pXs (by repeat constructor)))) Picks.nil)))⟩
  · skip
    refine c_ent (L' := (ExA fun u : Value => AllA [Blk b2 35 [u], Own (eInt .i64) 3 u pre]) :: ObjA D (.deferred (some [])) :: Lg) (Ent.perm (by
      rw [List.append_nil]
      exact List.Perm.trans (List.Perm.cons _ (List.perm_append_singleton _ _)) (List.Perm.swap _ _ _))) ?_
    refine c_ex fun u => c_all ?_
    refine c_inBlock ?_
    refine c_seq ?_
    refine c_region ?_
    refine o_val (v_load lone35 rfl (hX (by repeat constructor)) rfl) (dd rfl) ?_
    refine o_val (v_assign rfl) (dd rfl) ?_
    refine o_nil ?_
    refine c_retm1 Try.func114 rfl rfl (pX (by repeat constructor)) fun w O hS => ?_
    exact ⟨(u, pre), rfl, hfin, Ent.get hS Ent.drop⟩
  · skip
    exact c_never (Has.mem (by simp))
set_option maxRecDepth 100000 in
theorem collect_I {g : FuncId} {caps : List Value} {Lg : List A} {nx : List Int → Int → Prop} {fin : List Int → Prop} (cl : Callable Try.prog g) (it : Iter Try.prog g caps Lg nx fin (fun x => [.int .i64 x])) (hb : ∀ pre x, nx pre x → pre.length ≤ 8796093022207) :
    Con Try.prog 87 [.func (.func g) #[] caps.toArray] Lg (γ := Value × List Int) (fun r => r.1) (fun r => fin r.2) (fun r => Own (eInt .i64) 3 r.1 r.2 :: Lg) := by
  refine con_of Try.func87 rfl (dd rfl) fun w0 O0 => ?_
  refine c_seq ?_
  refine c_region ?_
  refine o_val (v_assign rfl) (dd rfl) ?_
  refine o_nil ?_
  refine c_seq ?_
  refine c_region ?_
  refine o_val (v_move rfl) (dd rfl) ?_
  refine o_step (s_callf cl114 (appendSeq_I cl it hb) rfl (dd rfl) (picks_self Lg) fun r hr => ?_)
  refine o_val (v_assign rfl) (dd rfl) ?_
  refine o_nil ?_
  refine c_ret1 Try.func87 rfl rfl fun w O hS => ?_
  exact ⟨r, rfl, hr, by rw [List.append_nil] at hS; exact hS⟩
set_option maxRecDepth 100000 in
theorem sorted_I {g : FuncId} {caps : List Value} {Lg : List A} {nx : List Int → Int → Prop} {fin : List Int → Prop} (cl : Callable Try.prog g) (it : Iter Try.prog g caps Lg nx fin (fun x => [.int .i64 x])) (hb : ∀ pre x, nx pre x → pre.length ≤ 8796093022207) (hf : ∀ pre, fin pre → pre.length < 4611686018427387904) :
    Con Try.prog 53 [.func (.func g) #[] caps.toArray] Lg (γ := Value × List Int) (fun r => r.1) (fun r => ∃ pre, fin pre ∧ r.2 = sortI pre) (fun r => Own (eInt .i64) 3 r.1 r.2 :: Lg) := by
  refine con_of Try.func53 rfl (dd rfl) fun w0 O0 => ?_
  refine c_seq ?_
  refine c_region ?_
  refine o_val (v_assign rfl) (dd rfl) ?_
  refine o_nil ?_
  refine c_seq ?_
  refine c_region ?_
  refine o_val (v_move rfl) (dd rfl) ?_
  refine o_step (s_callf cl87 (collect_I cl it hb) rfl (dd rfl) (picks_self Lg) fun r hr => ?_)
  refine o_val (v_assign rfl) (dd rfl) ?_
  refine o_nil ?_
  refine c_seq ?_
  refine c_region ?_
  refine o_val (v_move rfl) (dd rfl) ?_
  refine o_step (s_callf cl79 (sort_int r.1 r.2 (hf _ hr)) rfl (dd rfl) (pXs (by repeat constructor)) fun _ _ => ?_)
  refine o_nil ?_
  refine c_seq ?_
  refine c_region ?_
  refine o_val (v_move rfl) (dd rfl) ?_
  refine o_val (v_assign rfl) (dd rfl) ?_
  refine o_nil ?_
  refine c_ret1 Try.func53 rfl rfl fun w O hS => ?_
  exact ⟨(r.1, sortI r.2), rfl, ⟨r.2, hr, rfl⟩, by simpa using hS⟩
set_option maxRecDepth 100000 in
theorem appendSeq_S {g : FuncId} {caps : List Value} {Lg : List A} {nx : List ByteArray → ByteArray → Prop} {fin : List ByteArray → Prop} (cl : Callable Try.prog g) (it : Iter Try.prog g caps Lg nx fin (fun x => [.string x])) (hb : ∀ pre x, nx pre x → pre.length ≤ 8796093022207) :
    Con Try.prog 118 [.slice none 0 0, .func (.func g) #[] caps.toArray] Lg (γ := Value × List ByteArray) (fun r => r.1) (fun r => fin r.2) (fun r => Own eStr 9 r.1 r.2 :: Lg) := by
  refine con_of Try.func118 rfl (dd rfl) fun w0 O0 => ?_
  refine c_seq ?_
  refine c_region ?_
  refine o_step (s_box rfl (dd rfl) (fun b2 => ?_))
  refine o_val (v_assign rfl) (dd rfl) ?_
  refine o_nil ?_
  refine c_seq ?_
  refine c_seq ?_
  refine c_region ?_
  refine o_val (v_move rfl) (dd rfl) ?_
  refine o_nil ?_
  refine c_block ?_
  refine c_ent (Ent.beside (b := Own eStr 9 (.slice none 0 0) ([] : List ByteArray)) (fun w O _ => Own.nil eStr 9 w _)) ?_
  refine c_rangeFunc (fun pre => [ExA fun u : Value => AllA [Blk b2 30 [u], Own eStr 9 u pre]]) (fun _ => [Pu False]) ([]) (it) cl rfl (by refine Ent.trans ?_ Ent.last; exact Pick.ent (Pick.ex (Value.slice none 0 0) (Pick.all (pXs (by repeat constructor))))) rfl (fun _ => rfl) (fun l r pre x w1 O1 hr hx => ?_) (fun D pre hfin => ?_) (fun D j => ?_)
  · refine c_ent (Ent.perm (List.Perm.swap _ _ _)) ?_
    refine c_ex fun u => c_all ?_
    have hlen := hb pre x hx
    refine c_region ?_
    refine o_val (v_assign rfl) (dd rfl) ?_
    refine o_nil ?_
    refine c_beginRound (pX (by repeat constructor)) ‹_› ?_
    refine c_block ?_
    refine c_region ?_
    refine o_val (v_load lone30 rfl (hX (by repeat constructor)) rfl) (dd rfl) ?_
    refine o_val (v_move rfl) (dd rfl) ?_
    refine o_step (s_buildSlice Try.underlying30 ti9 rfl rfl rfl (by decide) (by decide) (beside_str [x]) rfl rfl (dd rfl) fun v1 => ?_)
    refine o_step (s_append Try.underlying30 ti9 rfl (by decide) rfl rfl (dd rfl) (pB (by repeat constructor)) (pX (by repeat constructor)) rfl (by (first | omega | (simp only [maxLen, List.length_append, List.length_drop, List.length_take, List.length_nil, List.length_cons]; omega))) (by (first | omega | (simp only [maxLen, List.length_append, List.length_drop, List.length_take, List.length_nil, List.length_cons]; omega))) fun v2 => ?_)
    refine o_step (s_store1 ti30 rfl rfl (by first | exact OneC.lit rfl | exact OneC.sl (hX (by repeat constructor)) ) (pB (by repeat constructor)) (by first | decide | exact Nat.le_of_ble_eq_true rfl | simp) (by first | (dsimp only [List.set_cons_succ, List.set_cons_zero]; first | done | exact rfl) | rfl) (?_))
    refine o_nil ?_
    refine c_inBlock ?_
    refine c_roundEnd fun w O hS => ?_
    exact .inl ⟨rfl, Ent.get hS (Picks.ent (Picks.cons (pX (by repeat constructor)) (Picks.cons (Pick.ex v2 (Pick.all (pXs (by repeat constructor)))) Picks.nil)))⟩
  · skip
    refine c_ent (L' := (ExA fun u : Value => AllA [Blk b2 30 [u], Own eStr 9 u pre]) :: ObjA D (.deferred (some [])) :: Lg) (Ent.perm (by
      rw [List.append_nil]
      exact List.Perm.trans (List.Perm.cons _ (List.perm_append_singleton _ _)) (List.Perm.swap _ _ _))) ?_
    refine c_ex fun u => c_all ?_
    refine c_inBlock ?_
    refine c_seq ?_
    refine c_region ?_
    refine o_val (v_load lone30 rfl (hX (by repeat constructor)) rfl) (dd rfl) ?_
    refine o_val (v_assign rfl) (dd rfl) ?_
    refine o_nil ?_
    refine c_retm1 Try.func118 rfl rfl (pX (by repeat constructor)) fun w O hS => ?_
    exact ⟨(u, pre), rfl, hfin, Ent.get hS Ent.drop⟩
  · skip
    exact c_never (Has.mem (by simp))
set_option maxRecDepth 100000 in
theorem collect_S {g : FuncId} {caps : List Value} {Lg : List A} {nx : List ByteArray → ByteArray → Prop} {fin : List ByteArray → Prop} (cl : Callable Try.prog g) (it : Iter Try.prog g caps Lg nx fin (fun x => [.string x])) (hb : ∀ pre x, nx pre x → pre.length ≤ 8796093022207) :
    Con Try.prog 107 [.func (.func g) #[] caps.toArray] Lg (γ := Value × List ByteArray) (fun r => r.1) (fun r => fin r.2) (fun r => Own eStr 9 r.1 r.2 :: Lg) := by
  refine con_of Try.func107 rfl (dd rfl) fun w0 O0 => ?_
  refine c_seq ?_
  refine c_region ?_
  refine o_val (v_assign rfl) (dd rfl) ?_
  refine o_nil ?_
  refine c_seq ?_
  refine c_region ?_
  refine o_val (v_move rfl) (dd rfl) ?_
  refine o_step (s_callf cl118 (appendSeq_S cl it hb) rfl (dd rfl) (picks_self Lg) fun r hr => ?_)
  refine o_val (v_assign rfl) (dd rfl) ?_
  refine o_nil ?_
  refine c_ret1 Try.func107 rfl rfl fun w O hS => ?_
  exact ⟨r, rfl, hr, by rw [List.append_nil] at hS; exact hS⟩
set_option maxRecDepth 100000 in
theorem sorted_S {g : FuncId} {caps : List Value} {Lg : List A} {nx : List ByteArray → ByteArray → Prop} {fin : List ByteArray → Prop} (cl : Callable Try.prog g) (it : Iter Try.prog g caps Lg nx fin (fun x => [.string x])) (hb : ∀ pre x, nx pre x → pre.length ≤ 8796093022207) (hf : ∀ pre, fin pre → pre.length < 4611686018427387904) :
    Con Try.prog 75 [.func (.func g) #[] caps.toArray] Lg (γ := Value × List ByteArray) (fun r => r.1) (fun r => ∃ pre, fin pre ∧ r.2 = sortS pre) (fun r => Own eStr 9 r.1 r.2 :: Lg) := by
  refine con_of Try.func75 rfl (dd rfl) fun w0 O0 => ?_
  refine c_seq ?_
  refine c_region ?_
  refine o_val (v_assign rfl) (dd rfl) ?_
  refine o_nil ?_
  refine c_seq ?_
  refine c_region ?_
  refine o_val (v_move rfl) (dd rfl) ?_
  refine o_step (s_callf cl107 (collect_S cl it hb) rfl (dd rfl) (picks_self Lg) fun r hr => ?_)
  refine o_val (v_assign rfl) (dd rfl) ?_
  refine o_nil ?_
  refine c_seq ?_
  refine c_region ?_
  refine o_val (v_move rfl) (dd rfl) ?_
  refine o_step (s_callf cl108 (sort_str r.1 r.2 (hf _ hr)) rfl (dd rfl) (pXs (by repeat constructor)) fun _ _ => ?_)
  refine o_nil ?_
  refine c_seq ?_
  refine c_region ?_
  refine o_val (v_move rfl) (dd rfl) ?_
  refine o_val (v_assign rfl) (dd rfl) ?_
  refine o_nil ?_
  refine c_ret1 Try.func75 rfl rfl fun w O hS => ?_
  exact ⟨(r.1, sortS r.2), rfl, ⟨r.2, hr, rfl⟩, by simpa using hS⟩

set_option maxRecDepth 100000 in
theorem values_iter (c : Nat) (v : Value) (xs : List ByteArray) (hx : xs.length ≤ 9223372036854775807) : Iter Try.prog 115 [.pointer (some ⟨c, 0, none⟩)] [BlkR c 30 [v], Sl eStr v xs] (nxL xs) (finL xs) (fun s => [.string s]) := by
  intro l I Z hy
  refine con_of Try.func115 rfl (dd rfl) fun w0 O0 => ?_
  refine c_seq ?_
  refine c_region ?_
  refine o_val (v_load lone30 rfl (hX (by repeat constructor)) rfl) (dd rfl) ?_
  refine o_val ((by first | exact v_len_form Try.underlying30 rfl | exact v_len_sl Try.underlying30 rfl (hX (by repeat constructor)))) (dd rfl) ?_
  refine o_val (v_move rfl) (dd rfl) ?_
  refine o_nil ?_
  refine c_block ?_
  refine c_loop (γ := Nat) (fun i => xs.length - i) (fun i => i ≤ xs.length) (fun i => [(7, .int .i64 i), (6, .int .i64 xs.length), (5, v), (0, .func (.yield l) #[] #[])]) (fun i => BlkR c 30 [v] :: Sl eStr v xs :: I (xs.take i)) 0 (Nat.zero_le _) ⟨rfl, rfl, rfl, rfl, trivial⟩ (Ent.refl _) ?_
  intro i hi IH
  try dsimp only [List.cons_append, List.nil_append]
  refine c_seq ?_
  refine c_region ?_
  refine o_val (v_lt rfl rfl) (dd rfl) ?_
  refine o_nil ?_
  refine c_seq ?_
  refine c_cond_p rfl (fun hlt => ?_) (fun hlt => ?_)
  · refine c_skip ?_
    refine c_seq ?_
    refine c_block ?_
    refine c_seq ?_
    refine c_region ?_
    refine o_val ((by first | exact v_indexAddrN Try.underlying30 ti9 rfl rfl (hX (by repeat constructor)) (by omega) | exact v_indexAddr Try.underlying30 ti9 rfl rfl (hX (by repeat constructor)) (by omega))) (dd rfl) ?_
    refine o_val (v_load_str lone9 rfl (by repeat (first | exact Elem.sl (List.getElem?_eq_getElem (by omega)) | exact Elem.own (List.getElem?_eq_getElem (by omega)) | exact Elem.ownO (List.getElem?_eq_getElem (by omega)) | apply Elem.there))) (dd rfl) ?_
    refine o_val (v_assign rfl) (dd rfl) ?_
    refine o_nil ?_
    refine c_seq ?_
    refine c_region ?_
    refine o_val (v_move rfl) (dd rfl) ?_
    refine o_val (v_move rfl) (dd rfl) ?_
    refine o_yield (hy (xs.take i) (xs[i]'(by omega)) (nxL_take (by omega))) (Lr := [BlkR c 30 [v], Sl eStr v xs]) rfl rfl (dd rfl) (by exact Ent.perm (List.perm_append_comm (l₁ := [BlkR c 30 [v], Sl eStr v xs]))) ?_ ?_
    · refine o_val (v_not rfl) (dd rfl) ?_
      refine o_nil ?_
      refine c_cond_f rfl ?_
      refine c_skip ?_
      refine c_inBlock ?_
      refine c_region ?_
      refine o_val ((by first | exact v_add64 rfl rfl (by omega) | exact v_add rfl rfl)) (dd rfl) ?_
      refine o_val (v_move rfl) (dd rfl) ?_
      refine o_nil ?_
      refine c_use (IH (i + 1) (by omega) (by omega)) ⟨rfl, rfl, rfl, rfl, trivial⟩ ?_
      rw [List.take_succ_eq_append_getElem (by omega)]
      exact Ent.perm (List.perm_append_comm (l₂ := [BlkR c 30 [v], Sl eStr v xs]))
    · refine o_val (v_not rfl) (dd rfl) ?_
      refine o_nil ?_
      refine c_cond_t rfl ?_
      refine c_ret0 Try.func115 rfl fun w O hS => ?_
      refine ⟨none, rfl, (fun _ h => by cases h), Ent.get hS ?_⟩
      exact Ent.perm (List.perm_append_comm (l₂ := [BlkR c 30 [v], Sl eStr v xs]))
  · refine c_exit rfl ?_
    refine c_end0 Try.func115 rfl fun w O hS => ?_
    rw [List.take_of_length_le (by omega)] at hS
    exact ⟨some xs, rfl, (fun pre h => by cases h; rfl), hS⟩

set_option maxRecDepth 100000 in
theorem keysIter_W (c : Nat) (o : Option Nat) (m : List (Int × Value)) : Iter Try.prog 88 [.pointer (some ⟨c, 0, none⟩)] [BlkR c 26 [.map o], MapO kInt o m] (nxK m) (finK m) (fun s => [.int .i64 s]) := by
  intro l I Z hy
  refine con_of Try.func88 rfl (dd rfl) fun w0 O0 => ?_
  refine c_seq ?_
  refine c_region ?_
  refine o_val (v_load lone26 rfl (hX (by repeat constructor)) rfl) (dd rfl) ?_
  refine o_step (s_range_mapO kInt Try.underlying26 rfl (dd rfl) (pX (by repeat constructor)) (fun it5 => ?_))
  refine o_nil ?_
  refine c_block ?_
  refine c_loop (γ := List Int) (fun pre => m.length - pre.length) (fun pre => pre.Nodup ∧ ∀ y ∈ pre, y ∈ m.map fun p : Int × Value => p.1) (fun _ => [(5, .pointer (some ⟨it5, 0, none⟩)), (0, .func (.yield l) #[] #[])]) (fun pre => MapItO kInt it5 o m pre :: BlkR c 26 [.map o] :: I pre) [] ⟨by simp, by simp⟩ ⟨rfl, rfl, trivial⟩ (Ent.refl _) ?_
  intro pre ⟨hnd, hsub⟩ IH
  try dsimp only [List.cons_append, List.nil_append]
  refine c_seq ?_
  refine c_region ?_
  refine o_step (s_nextO kInt rfl (dd rfl) (pX (by repeat constructor)) (fun k v hk hn => ?_) (fun hall => ?_))
  · have hkm : k ∈ m.map fun p : Int × Value => p.1 := List.mem_map.2 ⟨_, hk, rfl⟩
    have hnd' : (pre ++ [k]).Nodup := List.nodup_append.2 ⟨hnd, by simp, fun a ha b hb e => hn (by rw [List.mem_singleton.1 hb] at e; rw [← e]; exact ha)⟩
    have hsub' : ∀ y ∈ pre ++ [k], y ∈ m.map fun p : Int × Value => p.1 := fun y hy => by
      rcases List.mem_append.1 hy with h | h
      · exact hsub y h
      · rw [List.mem_singleton.1 h]; exact hkm
    have hlen := nodup_le hnd' hsub'
    simp only [List.length_append, List.length_singleton, List.length_map] at hlen
    refine o_val (v_extract rfl rfl) (dd rfl) ?_
    refine o_nil ?_
    refine c_seq ?_
    refine c_cond_t rfl ?_
    refine c_skip ?_
    refine c_block ?_
    refine c_seq ?_
    refine c_region ?_
    refine o_val (v_entryO kInt rfl hk (hX (by repeat constructor))) (dd rfl) ?_
    refine o_val (v_extract rfl rfl) (dd rfl) ?_
    refine o_val (v_assign rfl) (dd rfl) ?_
    refine o_nil ?_
    refine c_seq ?_
    refine c_region ?_
    refine o_val (v_move rfl) (dd rfl) ?_
    refine o_val (v_move rfl) (dd rfl) ?_
    refine o_yield (hy pre k ⟨hkm, hn, hnd, hsub⟩) (Lr := [MapItO kInt it5 o m (pre ++ [k]), BlkR c 26 [.map o]]) rfl rfl (dd rfl) (by exact Ent.perm (List.perm_append_comm (l₁ := [MapItO kInt it5 o m (pre ++ [k]), BlkR c 26 [.map o]]))) ?_ ?_
    · refine o_val (v_not rfl) (dd rfl) ?_
      refine o_nil ?_
      refine c_cond_f rfl ?_
      refine c_skip ?_
      refine c_inBlock ?_
      refine c_use (IH (pre ++ [k]) (by simp only [List.length_append, List.length_singleton]; omega) ⟨hnd', hsub'⟩) ⟨rfl, rfl, trivial⟩ ?_
      exact Ent.perm (List.perm_append_comm (l₂ := [MapItO kInt it5 o m (pre ++ [k]), BlkR c 26 [.map o]]))
    · refine o_val (v_not rfl) (dd rfl) ?_
      refine o_nil ?_
      refine c_cond_t rfl ?_
      refine c_ret0 Try.func88 rfl fun w O hS => ?_
      refine ⟨none, rfl, (fun _ h => by cases h), Ent.get (Ent.get hS (Ent.perm (List.perm_append_comm (l₂ := [MapItO kInt it5 o m (pre ++ [k]), BlkR c 26 [.map o]])))) ?_⟩
      exact (ent_swap_it : Ent (MapItO kInt it5 o m (pre ++ [k]) :: BlkR c 26 [.map o] :: Z) (BlkR c 26 [.map o] :: MapO kInt o m :: Z))
  · refine o_val (v_extract rfl rfl) (dd rfl) ?_
    refine o_nil ?_
    refine c_seq ?_
    refine c_cond_f rfl ?_
    refine c_exit rfl ?_
    refine c_end0 Try.func88 rfl fun w O hS => ?_
    exact ⟨some pre, rfl, (fun q h => by cases h; exact ⟨hnd, hsub, hall⟩), Ent.get hS (ent_swap_it : Ent (MapItO kInt it5 o m pre :: BlkR c 26 [.map o] :: I pre) (BlkR c 26 [.map o] :: MapO kInt o m :: I pre))⟩
set_option maxRecDepth 100000 in
theorem keys_W (o : Option Nat) : Con Try.prog 54 [.map o] [] (γ := Nat) (fun c => .func (.func 88) #[] #[.pointer (some ⟨c, 0, none⟩)]) (fun _ => True) (fun c => [Blk c 26 [.map o]]) := by
  refine con_of Try.func54 rfl (dd rfl) fun w0 O0 => ?_
  refine c_seq ?_
  refine c_region ?_
  refine o_step (s_box rfl (dd rfl) (fun b1 => ?_))
  refine o_val (v_assign rfl) (dd rfl) ?_
  refine o_nil ?_
  refine c_seq ?_
  refine c_region ?_
  refine o_val (v_makeFunc rfl rfl) (dd rfl) ?_
  refine o_val (v_assign rfl) (dd rfl) ?_
  refine o_nil ?_
  refine c_ret1 Try.func54 rfl rfl fun w O hS => ?_
  exact ⟨b1, rfl, trivial, hS⟩
set_option maxRecDepth 100000 in
theorem keysIter_II (c : Nat) (o : Option Nat) (m : List (Int × Value)) : Iter Try.prog 101 [.pointer (some ⟨c, 0, none⟩)] [BlkR c 97 [.map o], MapO kInt o m] (nxK m) (finK m) (fun s => [.int .i64 s]) := by
  intro l I Z hy
  refine con_of Try.func101 rfl (dd rfl) fun w0 O0 => ?_
  refine c_seq ?_
  refine c_region ?_
  refine o_val (v_load lone97 rfl (hX (by repeat constructor)) rfl) (dd rfl) ?_
  refine o_step (s_range_mapO kInt Try.underlying97 rfl (dd rfl) (pX (by repeat constructor)) (fun it5 => ?_))
  refine o_nil ?_
  refine c_block ?_
  refine c_loop (γ := List Int) (fun pre => m.length - pre.length) (fun pre => pre.Nodup ∧ ∀ y ∈ pre, y ∈ m.map fun p : Int × Value => p.1) (fun _ => [(5, .pointer (some ⟨it5, 0, none⟩)), (0, .func (.yield l) #[] #[])]) (fun pre => MapItO kInt it5 o m pre :: BlkR c 97 [.map o] :: I pre) [] ⟨by simp, by simp⟩ ⟨rfl, rfl, trivial⟩ (Ent.refl _) ?_
  intro pre ⟨hnd, hsub⟩ IH
  try dsimp only [List.cons_append, List.nil_append]
  refine c_seq ?_
  refine c_region ?_
  refine o_step (s_nextO kInt rfl (dd rfl) (pX (by repeat constructor)) (fun k v hk hn => ?_) (fun hall => ?_))
  · have hkm : k ∈ m.map fun p : Int × Value => p.1 := List.mem_map.2 ⟨_, hk, rfl⟩
    have hnd' : (pre ++ [k]).Nodup := List.nodup_append.2 ⟨hnd, by simp, fun a ha b hb e => hn (by rw [List.mem_singleton.1 hb] at e; rw [← e]; exact ha)⟩
    have hsub' : ∀ y ∈ pre ++ [k], y ∈ m.map fun p : Int × Value => p.1 := fun y hy => by
      rcases List.mem_append.1 hy with h | h
      · exact hsub y h
      · rw [List.mem_singleton.1 h]; exact hkm
    have hlen := nodup_le hnd' hsub'
    simp only [List.length_append, List.length_singleton, List.length_map] at hlen
    refine o_val (v_extract rfl rfl) (dd rfl) ?_
    refine o_nil ?_
    refine c_seq ?_
    refine c_cond_t rfl ?_
    refine c_skip ?_
    refine c_block ?_
    refine c_seq ?_
    refine c_region ?_
    refine o_val (v_entryO kInt rfl hk (hX (by repeat constructor))) (dd rfl) ?_
    refine o_val (v_extract rfl rfl) (dd rfl) ?_
    refine o_val (v_assign rfl) (dd rfl) ?_
    refine o_nil ?_
    refine c_seq ?_
    refine c_region ?_
    refine o_val (v_move rfl) (dd rfl) ?_
    refine o_val (v_move rfl) (dd rfl) ?_
    refine o_yield (hy pre k ⟨hkm, hn, hnd, hsub⟩) (Lr := [MapItO kInt it5 o m (pre ++ [k]), BlkR c 97 [.map o]]) rfl rfl (dd rfl) (by exact Ent.perm (List.perm_append_comm (l₁ := [MapItO kInt it5 o m (pre ++ [k]), BlkR c 97 [.map o]]))) ?_ ?_
    · refine o_val (v_not rfl) (dd rfl) ?_
      refine o_nil ?_
      refine c_cond_f rfl ?_
      refine c_skip ?_
      refine c_inBlock ?_
      refine c_use (IH (pre ++ [k]) (by simp only [List.length_append, List.length_singleton]; omega) ⟨hnd', hsub'⟩) ⟨rfl, rfl, trivial⟩ ?_
      exact Ent.perm (List.perm_append_comm (l₂ := [MapItO kInt it5 o m (pre ++ [k]), BlkR c 97 [.map o]]))
    · refine o_val (v_not rfl) (dd rfl) ?_
      refine o_nil ?_
      refine c_cond_t rfl ?_
      refine c_ret0 Try.func101 rfl fun w O hS => ?_
      refine ⟨none, rfl, (fun _ h => by cases h), Ent.get (Ent.get hS (Ent.perm (List.perm_append_comm (l₂ := [MapItO kInt it5 o m (pre ++ [k]), BlkR c 97 [.map o]])))) ?_⟩
      exact (ent_swap_it : Ent (MapItO kInt it5 o m (pre ++ [k]) :: BlkR c 97 [.map o] :: Z) (BlkR c 97 [.map o] :: MapO kInt o m :: Z))
  · refine o_val (v_extract rfl rfl) (dd rfl) ?_
    refine o_nil ?_
    refine c_seq ?_
    refine c_cond_f rfl ?_
    refine c_exit rfl ?_
    refine c_end0 Try.func101 rfl fun w O hS => ?_
    exact ⟨some pre, rfl, (fun q h => by cases h; exact ⟨hnd, hsub, hall⟩), Ent.get hS (ent_swap_it : Ent (MapItO kInt it5 o m pre :: BlkR c 97 [.map o] :: I pre) (BlkR c 97 [.map o] :: MapO kInt o m :: I pre))⟩
set_option maxRecDepth 100000 in
theorem keys_II (o : Option Nat) : Con Try.prog 67 [.map o] [] (γ := Nat) (fun c => .func (.func 101) #[] #[.pointer (some ⟨c, 0, none⟩)]) (fun _ => True) (fun c => [Blk c 97 [.map o]]) := by
  refine con_of Try.func67 rfl (dd rfl) fun w0 O0 => ?_
  refine c_seq ?_
  refine c_region ?_
  refine o_step (s_box rfl (dd rfl) (fun b1 => ?_))
  refine o_val (v_assign rfl) (dd rfl) ?_
  refine o_nil ?_
  refine c_seq ?_
  refine c_region ?_
  refine o_val (v_makeFunc rfl rfl) (dd rfl) ?_
  refine o_val (v_assign rfl) (dd rfl) ?_
  refine o_nil ?_
  refine c_ret1 Try.func67 rfl rfl fun w O hS => ?_
  exact ⟨b1, rfl, trivial, hS⟩
set_option maxRecDepth 100000 in
theorem keysIter_G (c : Nat) (o : Option Nat) (m : List (Int × Value)) : Iter Try.prog 103 [.pointer (some ⟨c, 0, none⟩)] [BlkR c 73 [.map o], MapO kInt o m] (nxK m) (finK m) (fun s => [.int .i64 s]) := by
  intro l I Z hy
  refine con_of Try.func103 rfl (dd rfl) fun w0 O0 => ?_
  refine c_seq ?_
  refine c_region ?_
  refine o_val (v_load lone73 rfl (hX (by repeat constructor)) rfl) (dd rfl) ?_
  refine o_step (s_range_mapO kInt Try.underlying73 rfl (dd rfl) (pX (by repeat constructor)) (fun it5 => ?_))
  refine o_nil ?_
  refine c_block ?_
  refine c_loop (γ := List Int) (fun pre => m.length - pre.length) (fun pre => pre.Nodup ∧ ∀ y ∈ pre, y ∈ m.map fun p : Int × Value => p.1) (fun _ => [(5, .pointer (some ⟨it5, 0, none⟩)), (0, .func (.yield l) #[] #[])]) (fun pre => MapItO kInt it5 o m pre :: BlkR c 73 [.map o] :: I pre) [] ⟨by simp, by simp⟩ ⟨rfl, rfl, trivial⟩ (Ent.refl _) ?_
  intro pre ⟨hnd, hsub⟩ IH
  try dsimp only [List.cons_append, List.nil_append]
  refine c_seq ?_
  refine c_region ?_
  refine o_step (s_nextO kInt rfl (dd rfl) (pX (by repeat constructor)) (fun k v hk hn => ?_) (fun hall => ?_))
  · have hkm : k ∈ m.map fun p : Int × Value => p.1 := List.mem_map.2 ⟨_, hk, rfl⟩
    have hnd' : (pre ++ [k]).Nodup := List.nodup_append.2 ⟨hnd, by simp, fun a ha b hb e => hn (by rw [List.mem_singleton.1 hb] at e; rw [← e]; exact ha)⟩
    have hsub' : ∀ y ∈ pre ++ [k], y ∈ m.map fun p : Int × Value => p.1 := fun y hy => by
      rcases List.mem_append.1 hy with h | h
      · exact hsub y h
      · rw [List.mem_singleton.1 h]; exact hkm
    have hlen := nodup_le hnd' hsub'
    simp only [List.length_append, List.length_singleton, List.length_map] at hlen
    refine o_val (v_extract rfl rfl) (dd rfl) ?_
    refine o_nil ?_
    refine c_seq ?_
    refine c_cond_t rfl ?_
    refine c_skip ?_
    refine c_block ?_
    refine c_seq ?_
    refine c_region ?_
    refine o_val (v_entryO kInt rfl hk (hX (by repeat constructor))) (dd rfl) ?_
    refine o_val (v_extract rfl rfl) (dd rfl) ?_
    refine o_val (v_assign rfl) (dd rfl) ?_
    refine o_nil ?_
    refine c_seq ?_
    refine c_region ?_
    refine o_val (v_move rfl) (dd rfl) ?_
    refine o_val (v_move rfl) (dd rfl) ?_
    refine o_yield (hy pre k ⟨hkm, hn, hnd, hsub⟩) (Lr := [MapItO kInt it5 o m (pre ++ [k]), BlkR c 73 [.map o]]) rfl rfl (dd rfl) (by exact Ent.perm (List.perm_append_comm (l₁ := [MapItO kInt it5 o m (pre ++ [k]), BlkR c 73 [.map o]]))) ?_ ?_
    · refine o_val (v_not rfl) (dd rfl) ?_
      refine o_nil ?_
      refine c_cond_f rfl ?_
      refine c_skip ?_
      refine c_inBlock ?_
      refine c_use (IH (pre ++ [k]) (by simp only [List.length_append, List.length_singleton]; omega) ⟨hnd', hsub'⟩) ⟨rfl, rfl, trivial⟩ ?_
      exact Ent.perm (List.perm_append_comm (l₂ := [MapItO kInt it5 o m (pre ++ [k]), BlkR c 73 [.map o]]))
    · refine o_val (v_not rfl) (dd rfl) ?_
      refine o_nil ?_
      refine c_cond_t rfl ?_
      refine c_ret0 Try.func103 rfl fun w O hS => ?_
      refine ⟨none, rfl, (fun _ h => by cases h), Ent.get (Ent.get hS (Ent.perm (List.perm_append_comm (l₂ := [MapItO kInt it5 o m (pre ++ [k]), BlkR c 73 [.map o]])))) ?_⟩
      exact (ent_swap_it : Ent (MapItO kInt it5 o m (pre ++ [k]) :: BlkR c 73 [.map o] :: Z) (BlkR c 73 [.map o] :: MapO kInt o m :: Z))
  · refine o_val (v_extract rfl rfl) (dd rfl) ?_
    refine o_nil ?_
    refine c_seq ?_
    refine c_cond_f rfl ?_
    refine c_exit rfl ?_
    refine c_end0 Try.func103 rfl fun w O hS => ?_
    exact ⟨some pre, rfl, (fun q h => by cases h; exact ⟨hnd, hsub, hall⟩), Ent.get hS (ent_swap_it : Ent (MapItO kInt it5 o m pre :: BlkR c 73 [.map o] :: I pre) (BlkR c 73 [.map o] :: MapO kInt o m :: I pre))⟩
set_option maxRecDepth 100000 in
theorem keys_G (o : Option Nat) : Con Try.prog 69 [.map o] [] (γ := Nat) (fun c => .func (.func 103) #[] #[.pointer (some ⟨c, 0, none⟩)]) (fun _ => True) (fun c => [Blk c 73 [.map o]]) := by
  refine con_of Try.func69 rfl (dd rfl) fun w0 O0 => ?_
  refine c_seq ?_
  refine c_region ?_
  refine o_step (s_box rfl (dd rfl) (fun b1 => ?_))
  refine o_val (v_assign rfl) (dd rfl) ?_
  refine o_nil ?_
  refine c_seq ?_
  refine c_region ?_
  refine o_val (v_makeFunc rfl rfl) (dd rfl) ?_
  refine o_val (v_assign rfl) (dd rfl) ?_
  refine o_nil ?_
  refine c_ret1 Try.func69 rfl rfl fun w O hS => ?_
  exact ⟨b1, rfl, trivial, hS⟩
set_option maxRecDepth 100000 in
theorem keysIter_P (c : Nat) (o : Option Nat) (m : List (ByteArray × Value)) : Iter Try.prog 109 [.pointer (some ⟨c, 0, none⟩)] [BlkR c 72 [.map o], MapO kStr o m] (nxK m) (finK m) (fun s => [.string s]) := by
  intro l I Z hy
  refine con_of Try.func109 rfl (dd rfl) fun w0 O0 => ?_
  refine c_seq ?_
  refine c_region ?_
  refine o_val (v_load lone72 rfl (hX (by repeat constructor)) rfl) (dd rfl) ?_
  refine o_step (s_range_mapO kStr Try.underlying72 rfl (dd rfl) (pX (by repeat constructor)) (fun it5 => ?_))
  refine o_nil ?_
  refine c_block ?_
  refine c_loop (γ := List ByteArray) (fun pre => m.length - pre.length) (fun pre => pre.Nodup ∧ ∀ y ∈ pre, y ∈ m.map fun p : ByteArray × Value => p.1) (fun _ => [(5, .pointer (some ⟨it5, 0, none⟩)), (0, .func (.yield l) #[] #[])]) (fun pre => MapItO kStr it5 o m pre :: BlkR c 72 [.map o] :: I pre) [] ⟨by simp, by simp⟩ ⟨rfl, rfl, trivial⟩ (Ent.refl _) ?_
  intro pre ⟨hnd, hsub⟩ IH
  try dsimp only [List.cons_append, List.nil_append]
  refine c_seq ?_
  refine c_region ?_
  refine o_step (s_nextO kStr rfl (dd rfl) (pX (by repeat constructor)) (fun k v hk hn => ?_) (fun hall => ?_))
  · have hkm : k ∈ m.map fun p : ByteArray × Value => p.1 := List.mem_map.2 ⟨_, hk, rfl⟩
    have hnd' : (pre ++ [k]).Nodup := List.nodup_append.2 ⟨hnd, by simp, fun a ha b hb e => hn (by rw [List.mem_singleton.1 hb] at e; rw [← e]; exact ha)⟩
    have hsub' : ∀ y ∈ pre ++ [k], y ∈ m.map fun p : ByteArray × Value => p.1 := fun y hy => by
      rcases List.mem_append.1 hy with h | h
      · exact hsub y h
      · rw [List.mem_singleton.1 h]; exact hkm
    have hlen := nodup_le hnd' hsub'
    simp only [List.length_append, List.length_singleton, List.length_map] at hlen
    refine o_val (v_extract rfl rfl) (dd rfl) ?_
    refine o_nil ?_
    refine c_seq ?_
    refine c_cond_t rfl ?_
    refine c_skip ?_
    refine c_block ?_
    refine c_seq ?_
    refine c_region ?_
    refine o_val (v_entryO kStr rfl hk (hX (by repeat constructor))) (dd rfl) ?_
    refine o_val (v_extract rfl rfl) (dd rfl) ?_
    refine o_val (v_assign rfl) (dd rfl) ?_
    refine o_nil ?_
    refine c_seq ?_
    refine c_region ?_
    refine o_val (v_move rfl) (dd rfl) ?_
    refine o_val (v_move rfl) (dd rfl) ?_
    refine o_yield (hy pre k ⟨hkm, hn, hnd, hsub⟩) (Lr := [MapItO kStr it5 o m (pre ++ [k]), BlkR c 72 [.map o]]) rfl rfl (dd rfl) (by exact Ent.perm (List.perm_append_comm (l₁ := [MapItO kStr it5 o m (pre ++ [k]), BlkR c 72 [.map o]]))) ?_ ?_
    · refine o_val (v_not rfl) (dd rfl) ?_
      refine o_nil ?_
      refine c_cond_f rfl ?_
      refine c_skip ?_
      refine c_inBlock ?_
      refine c_use (IH (pre ++ [k]) (by simp only [List.length_append, List.length_singleton]; omega) ⟨hnd', hsub'⟩) ⟨rfl, rfl, trivial⟩ ?_
      exact Ent.perm (List.perm_append_comm (l₂ := [MapItO kStr it5 o m (pre ++ [k]), BlkR c 72 [.map o]]))
    · refine o_val (v_not rfl) (dd rfl) ?_
      refine o_nil ?_
      refine c_cond_t rfl ?_
      refine c_ret0 Try.func109 rfl fun w O hS => ?_
      refine ⟨none, rfl, (fun _ h => by cases h), Ent.get (Ent.get hS (Ent.perm (List.perm_append_comm (l₂ := [MapItO kStr it5 o m (pre ++ [k]), BlkR c 72 [.map o]])))) ?_⟩
      exact (ent_swap_it : Ent (MapItO kStr it5 o m (pre ++ [k]) :: BlkR c 72 [.map o] :: Z) (BlkR c 72 [.map o] :: MapO kStr o m :: Z))
  · refine o_val (v_extract rfl rfl) (dd rfl) ?_
    refine o_nil ?_
    refine c_seq ?_
    refine c_cond_f rfl ?_
    refine c_exit rfl ?_
    refine c_end0 Try.func109 rfl fun w O hS => ?_
    exact ⟨some pre, rfl, (fun q h => by cases h; exact ⟨hnd, hsub, hall⟩), Ent.get hS (ent_swap_it : Ent (MapItO kStr it5 o m pre :: BlkR c 72 [.map o] :: I pre) (BlkR c 72 [.map o] :: MapO kStr o m :: I pre))⟩
set_option maxRecDepth 100000 in
theorem keys_P (o : Option Nat) : Con Try.prog 76 [.map o] [] (γ := Nat) (fun c => .func (.func 109) #[] #[.pointer (some ⟨c, 0, none⟩)]) (fun _ => True) (fun c => [Blk c 72 [.map o]]) := by
  refine con_of Try.func76 rfl (dd rfl) fun w0 O0 => ?_
  refine c_seq ?_
  refine c_region ?_
  refine o_step (s_box rfl (dd rfl) (fun b1 => ?_))
  refine o_val (v_assign rfl) (dd rfl) ?_
  refine o_nil ?_
  refine c_seq ?_
  refine c_region ?_
  refine o_val (v_makeFunc rfl rfl) (dd rfl) ?_
  refine o_val (v_assign rfl) (dd rfl) ?_
  refine o_nil ?_
  refine c_ret1 Try.func76 rfl rfl fun w O hS => ?_
  exact ⟨b1, rfl, trivial, hS⟩
set_option maxRecDepth 100000 in
theorem values_con (v : Value) (xs : List ByteArray) : Con Try.prog 90 [v] [Sl eStr v xs] (γ := Nat) (fun c => .func (.func 115) #[] #[.pointer (some ⟨c, 0, none⟩)]) (fun _ => True) (fun c => [Blk c 30 [v], Sl eStr v xs]) := by
  refine Con.form (v := v) (xs := xs) (hX (by repeat constructor)) ?_
  rintro a0 c0 rfl hc0 -
  refine con_of Try.func90 rfl (dd rfl) fun w0 O0 => ?_
  refine c_seq ?_
  refine c_region ?_
  refine o_step (s_box rfl (dd rfl) (fun b1 => ?_))
  refine o_val (v_assign rfl) (dd rfl) ?_
  refine o_nil ?_
  refine c_seq ?_
  refine c_region ?_
  refine o_val (v_makeFunc rfl rfl) (dd rfl) ?_
  refine o_val (v_assign rfl) (dd rfl) ?_
  refine o_nil ?_
  refine c_ret1 Try.func90 rfl rfl fun w O hS => ?_
  exact ⟨b1, rfl, trivial, hS⟩

set_option maxRecDepth 100000 in
theorem clone_N {α : Type} (e : Enc α) (v : Value) (xs : List α) (hn : e.n = 3) (hx : xs.length ≤ 2932031007402) :
    Con Try.prog 55 [v] [Sl e v xs] (γ := Value) (fun r => r) (fun _ => True) (fun r => [Own e 60 r xs]) := by
  refine Con.form (v := v) (xs := xs) (hX (by repeat constructor)) ?_
  rintro a0 c0 rfl hc0 -
  refine con_of Try.func55 rfl (dd rfl) fun w0 O0 => ?_
  refine c_seq ?_
  refine c_region ?_
  refine o_val (v_assign rfl) (dd rfl) ?_
  refine o_nil ?_
  refine c_seq ?_
  refine c_seq ?_
  refine c_region ?_
  refine o_val (v_move rfl) (dd rfl) ?_
  refine o_val (v_eq_sl_nil Try.underlying49 rfl rfl) (dd rfl) ?_
  refine o_nil ?_
  refine c_cond rfl (fun h => ?_) (fun h => ?_)
  · refine c_seq ?_
    refine c_region ?_
    refine o_val (v_assign rfl) (dd rfl) ?_
    refine o_nil ?_
    refine c_ret1 Try.func55 rfl rfl fun w O hS => ?_
    have : xs = [] := by
      cases a0 with
      | none => obtain ⟨_, _, _, h1, _⟩ := hS; exact Sl.none_nil h1
      | some _ => cases h
    subst this
    exact ⟨.slice none 0 0, rfl, trivial, stars_own_nil⟩
  · refine c_skip ?_
    refine c_seq ?_
    refine c_region ?_
    refine o_step (s_buildSlice (e := e) (zs := []) Try.underlying49 ti60 rfl rfl rfl (by decide) (by decide) (Beside.pure fun _ => ⟨rfl, fun _ h => by cases h⟩) rfl hn (dd rfl) fun v1 => ?_)
    refine o_val (v_move rfl) (dd rfl) ?_
    refine o_step (s_append Try.underlying49 ti60 rfl (by decide) rfl rfl (dd rfl) (pB (by repeat constructor)) (pX (by repeat constructor)) hn (by simp only [List.length_nil]; omega) (by simp only [maxLen, List.length_nil]; omega) fun v2 => ?_)
    refine o_val (v_assign rfl) (dd rfl) ?_
    refine o_nil ?_
    refine c_ret1 Try.func55 rfl rfl fun w O hS => ?_
    exact ⟨v2, rfl, trivial, Ent.get hS (eX (by repeat constructor))⟩
set_option maxRecDepth 100000 in
theorem clone_S {α : Type} (e : Enc α) (v : Value) (xs : List α) (hn : e.n = 1) (hx : xs.length ≤ 8796093022207) :
    Con Try.prog 93 [v] [Sl e v xs] (γ := Value) (fun r => r) (fun _ => True) (fun r => [Own e 9 r xs]) := by
  refine Con.form (v := v) (xs := xs) (hX (by repeat constructor)) ?_
  rintro a0 c0 rfl hc0 -
  refine con_of Try.func93 rfl (dd rfl) fun w0 O0 => ?_
  refine c_seq ?_
  refine c_region ?_
  refine o_val (v_assign rfl) (dd rfl) ?_
  refine o_nil ?_
  refine c_seq ?_
  refine c_seq ?_
  refine c_region ?_
  refine o_val (v_move rfl) (dd rfl) ?_
  refine o_val (v_eq_sl_nil Try.underlying30 rfl rfl) (dd rfl) ?_
  refine o_nil ?_
  refine c_cond rfl (fun h => ?_) (fun h => ?_)
  · refine c_seq ?_
    refine c_region ?_
    refine o_val (v_assign rfl) (dd rfl) ?_
    refine o_nil ?_
    refine c_ret1 Try.func93 rfl rfl fun w O hS => ?_
    have : xs = [] := by
      cases a0 with
      | none => obtain ⟨_, _, _, h1, _⟩ := hS; exact Sl.none_nil h1
      | some _ => cases h
    subst this
    exact ⟨.slice none 0 0, rfl, trivial, stars_own_nil⟩
  · refine c_skip ?_
    refine c_seq ?_
    refine c_region ?_
    refine o_step (s_buildSlice (e := e) (zs := []) Try.underlying30 ti9 rfl rfl rfl (by decide) (by decide) (Beside.pure fun _ => ⟨rfl, fun _ h => by cases h⟩) rfl hn (dd rfl) fun v1 => ?_)
    refine o_val (v_move rfl) (dd rfl) ?_
    refine o_step (s_append Try.underlying30 ti9 rfl (by decide) rfl rfl (dd rfl) (pB (by repeat constructor)) (pX (by repeat constructor)) hn (by simp only [List.length_nil]; omega) (by simp only [maxLen, List.length_nil]; omega) fun v2 => ?_)
    refine o_val (v_assign rfl) (dd rfl) ?_
    refine o_nil ?_
    refine c_ret1 Try.func93 rfl rfl fun w O hS => ?_
    exact ⟨v2, rfl, trivial, Ent.get hS (eX (by repeat constructor))⟩
set_option maxRecDepth 100000 in
theorem clone_Wt {α : Type} (e : Enc α) (v : Value) (xs : List α) (hn : e.n = 2) (hx : xs.length ≤ 8796093022207) :
    Con Try.prog 85 [v] [Sl e v xs] (γ := Value) (fun r => r) (fun _ => True) (fun r => [Own e 137 r xs]) := by
  refine Con.form (v := v) (xs := xs) (hX (by repeat constructor)) ?_
  rintro a0 c0 rfl hc0 -
  refine con_of Try.func85 rfl (dd rfl) fun w0 O0 => ?_
  refine c_seq ?_
  refine c_region ?_
  refine o_val (v_assign rfl) (dd rfl) ?_
  refine o_nil ?_
  refine c_seq ?_
  refine c_seq ?_
  refine c_region ?_
  refine o_val (v_move rfl) (dd rfl) ?_
  refine o_val (v_eq_sl_nil Try.underlying133 rfl rfl) (dd rfl) ?_
  refine o_nil ?_
  refine c_cond rfl (fun h => ?_) (fun h => ?_)
  · refine c_seq ?_
    refine c_region ?_
    refine o_val (v_assign rfl) (dd rfl) ?_
    refine o_nil ?_
    refine c_ret1 Try.func85 rfl rfl fun w O hS => ?_
    have : xs = [] := by
      cases a0 with
      | none => obtain ⟨_, _, _, h1, _⟩ := hS; exact Sl.none_nil h1
      | some _ => cases h
    subst this
    exact ⟨.slice none 0 0, rfl, trivial, stars_own_nil⟩
  · refine c_skip ?_
    refine c_seq ?_
    refine c_region ?_
    refine o_step (s_buildSlice (e := e) (zs := []) Try.underlying133 ti137 rfl rfl rfl (by decide) (by decide) (Beside.pure fun _ => ⟨rfl, fun _ h => by cases h⟩) rfl hn (dd rfl) fun v1 => ?_)
    refine o_val (v_move rfl) (dd rfl) ?_
    refine o_step (s_append Try.underlying133 ti137 rfl (by decide) rfl rfl (dd rfl) (pB (by repeat constructor)) (pX (by repeat constructor)) hn (by simp only [List.length_nil]; omega) (by simp only [maxLen, List.length_nil]; omega) fun v2 => ?_)
    refine o_val (v_assign rfl) (dd rfl) ?_
    refine o_nil ?_
    refine c_ret1 Try.func85 rfl rfl fun w O hS => ?_
    exact ⟨v2, rfl, trivial, Ent.get hS (eX (by repeat constructor))⟩
end Go.Proofs.Ytnamhhmfnokfiaa
namespace Go.Proofs.Ytnamhhmfnokfiaa
open Go Go.SL
attribute [local irreducible] Cfg Kont StepK Val Con Qops Any Sl Own Blk BlkR Rd Pu ExA AllA Has Pick Ent Elem Beside Callable TI Lone OwnO AndA

def idxF {α : Type} (p : α → Bool) (xs : List α) : Int := match xs.findIdx? p with
  | some i => (i : Int)
  | none => -1
theorem idxF_some {α : Type} {p : α → Bool} {xs : List α} {i : Nat} (hi : i < xs.length) (h : p xs[i] = true) (hb : ∀ (j : Nat) (hj : j < i), p (xs[j]'(by omega)) = false) : idxF p xs = i := by
  have : xs.findIdx? p = some i := List.findIdx?_eq_some_iff_getElem.2 ⟨hi, h, fun j hj => by simp [hb j hj]⟩
  simp [idxF, this]
theorem idxF_none {α : Type} {p : α → Bool} {xs : List α} (hb : ∀ (j : Nat) (hj : j < xs.length), p xs[j] = false) : idxF p xs = -1 := by
  have : xs.findIdx? p = none := List.findIdx?_eq_none_iff.2 fun x hx => by
    obtain ⟨j, hj, rfl⟩ := List.mem_iff_getElem.1 hx
    exact hb j hj
  simp [idxF, this]
theorem idxF_cases {α : Type} (p : α → Bool) (xs : List α) : (idxF p xs = -1 ∧ ∀ x ∈ xs, p x = false) ∨ ∃ (i : Nat) (hi : i < xs.length), idxF p xs = i ∧ p xs[i] = true ∧ ∀ (j : Nat) (hj : j < i), p (xs[j]'(by omega)) = false := by
  cases h : xs.findIdx? p with
  | none => exact .inl ⟨by simp [idxF, h], fun x hx => by simpa using List.findIdx?_eq_none_iff.1 h x hx⟩
  | some i =>
    obtain ⟨h1, h2, h3⟩ := List.findIdx?_eq_some_iff_getElem.1 h
    exact .inr ⟨i, h1, by simp [idxF, h], h2, fun j hj => by simpa using h3 j hj⟩

set_option maxRecDepth 100000 in
theorem indexFunc_S {gp : FuncId} {caps : List Value} {R : A} {p : ByteArray → Bool} (clp : Callable Try.prog gp) (v : Value) (xs : List (ByteArray)) (hp : ∀ x ∈ xs, Con Try.prog gp (.string x :: caps) [R] (γ := Unit) (fun _ => .bool (p x)) (fun _ => True) (fun _ => [R])) (hx : xs.length ≤ 9223372036854775807) :
    Con Try.prog 116 [v, .func (.func gp) #[] caps.toArray] [Own eStr 9 v xs, R] (γ := Unit) (fun _ => .int .i64 (idxF p xs)) (fun _ => True) (fun _ => [Own eStr 9 v xs, R]) := by
  refine con_of Try.func116 rfl (dd rfl) fun w0 O0 => ?_
  refine c_seq ?_
  refine c_region ?_
  refine o_val (v_assign rfl) (dd rfl) ?_
  refine o_nil ?_
  refine c_seq ?_
  refine c_seq ?_
  refine c_region ?_
  refine o_val (v_move rfl) (dd rfl) ?_
  refine o_val ((by first | exact v_len_form Try.underlying30 rfl | exact v_len_sl Try.underlying30 rfl (hX (by repeat constructor)))) (dd rfl) ?_
  refine o_val (v_move rfl) (dd rfl) ?_
  refine o_nil ?_
  refine c_block ?_
  refine c_loop (γ := Nat) (fun i => xs.length - i) (fun i => i ≤ xs.length ∧ ∀ (j : Nat) (hj : j < xs.length), j < i → p xs[j] = false) (fun i => [(8, .int .i64 i), (7, .int .i64 xs.length), (1, .func (.func gp) #[] caps.toArray), (0, v)]) (fun _ => [Own eStr 9 v xs, R]) 0 ⟨Nat.zero_le _, fun _ _ h => by omega⟩ ⟨rfl, rfl, rfl, rfl, trivial⟩ (eX (by repeat constructor)) ?_
  rintro i ⟨hi, hall⟩ IH
  try dsimp only [List.cons_append, List.nil_append]
  refine c_seq ?_
  refine c_region ?_
  refine o_val (v_lt rfl rfl) (dd rfl) ?_
  refine o_nil ?_
  refine c_seq ?_
  refine c_cond_p rfl (fun hlt => ?_) (fun hlt => ?_)
  · refine c_skip ?_
    refine c_seq ?_
    refine c_block ?_
    refine c_seq ?_
    refine c_region ?_
    refine o_val (v_move rfl) (dd rfl) ?_
    refine o_val (v_assign rfl) (dd rfl) ?_
    refine o_nil ?_
    refine c_seq ?_
    refine c_region ?_
    refine o_val (v_move rfl) (dd rfl) ?_
    refine o_val (v_move rfl) (dd rfl) ?_
    refine o_val (v_move rfl) (dd rfl) ?_
    refine o_val ((by first | exact v_indexAddrN Try.underlying30 ti9 rfl rfl (hX (by repeat constructor)) (by omega) | exact v_indexAddr Try.underlying30 ti9 rfl rfl (hX (by repeat constructor)) (by omega))) (dd rfl) ?_
    refine o_val (v_load_str lone9 rfl (by repeat (first | exact Elem.sl (List.getElem?_eq_getElem (by omega)) | exact Elem.own (List.getElem?_eq_getElem (by omega)) | exact Elem.ownO (List.getElem?_eq_getElem (by omega)) | apply Elem.there))) (dd rfl) ?_
    refine o_step (s_call clp (hp (xs[i]'(by omega)) (List.getElem_mem _)) (first := []) (cap := caps) rfl rfl (by rfl) (dd rfl) (pXs (by repeat constructor)) fun _ _ => ?_)
    refine o_nil ?_
    refine c_cond rfl (fun hc => ?_) (fun hc => ?_)
    · refine c_seq ?_
      refine c_region ?_
      refine o_val (v_move rfl) (dd rfl) ?_
      refine o_val (v_assign rfl) (dd rfl) ?_
      refine o_nil ?_
      refine c_ret1 Try.func116 rfl rfl fun w O hS => ?_
      exact ⟨(), congrArg (Value.int .i64) (idxF_some (by omega) hc fun j hj => hall j (by omega) hj).symm, trivial, Ent.get hS (eX (by repeat constructor))⟩
    · refine c_skip ?_
      refine c_inBlock ?_
      refine c_region ?_
      refine o_val ((by first | exact v_add64 rfl rfl (by omega) | exact v_add rfl rfl)) (dd rfl) ?_
      refine o_val (v_move rfl) (dd rfl) ?_
      refine o_nil ?_
      refine c_use (IH (i + 1) (by omega) ⟨by omega, fun j hj hji => ?_⟩) ⟨rfl, rfl, rfl, rfl, trivial⟩ (eX (by repeat constructor))
      by_cases h : j = i
      · subst h; exact hc
      · exact hall j hj (by omega)
  · refine c_exit rfl ?_
    refine c_seq ?_
    refine c_region ?_
    refine o_val (v_assign rfl) (dd rfl) ?_
    refine o_nil ?_
    refine c_ret1 Try.func116 rfl rfl fun w O hS => ?_
    exact ⟨(), congrArg (Value.int .i64) (idxF_none fun j hj => hall j hj (by omega)).symm, trivial, Ent.get hS (eX (by repeat constructor))⟩
set_option maxRecDepth 100000 in
theorem indexFunc_I {gp : FuncId} {caps : List Value} {R : A} {p : Int → Bool} (clp : Callable Try.prog gp) (v : Value) (xs : List (Int)) (hp : ∀ x ∈ xs, Con Try.prog gp (.int .i64 x :: caps) [R] (γ := Unit) (fun _ => .bool (p x)) (fun _ => True) (fun _ => [R])) (hx : xs.length ≤ 9223372036854775807) :
    Con Try.prog 104 [v, .func (.func gp) #[] caps.toArray] [Own (eInt .i64) 3 v xs, R] (γ := Unit) (fun _ => .int .i64 (idxF p xs)) (fun _ => True) (fun _ => [Own (eInt .i64) 3 v xs, R]) := by
  refine con_of Try.func104 rfl (dd rfl) fun w0 O0 => ?_
  refine c_seq ?_
  refine c_region ?_
  refine o_val (v_assign rfl) (dd rfl) ?_
  refine o_nil ?_
  refine c_seq ?_
  refine c_seq ?_
  refine c_region ?_
  refine o_val (v_move rfl) (dd rfl) ?_
  refine o_val ((by first | exact v_len_form Try.underlying35 rfl | exact v_len_sl Try.underlying35 rfl (hX (by repeat constructor)))) (dd rfl) ?_
  refine o_val (v_move rfl) (dd rfl) ?_
  refine o_nil ?_
  refine c_block ?_
  refine c_loop (γ := Nat) (fun i => xs.length - i) (fun i => i ≤ xs.length ∧ ∀ (j : Nat) (hj : j < xs.length), j < i → p xs[j] = false) (fun i => [(8, .int .i64 i), (7, .int .i64 xs.length), (1, .func (.func gp) #[] caps.toArray), (0, v)]) (fun _ => [Own (eInt .i64) 3 v xs, R]) 0 ⟨Nat.zero_le _, fun _ _ h => by omega⟩ ⟨rfl, rfl, rfl, rfl, trivial⟩ (eX (by repeat constructor)) ?_
  rintro i ⟨hi, hall⟩ IH
  try dsimp only [List.cons_append, List.nil_append]
  refine c_seq ?_
  refine c_region ?_
  refine o_val (v_lt rfl rfl) (dd rfl) ?_
  refine o_nil ?_
  refine c_seq ?_
  refine c_cond_p rfl (fun hlt => ?_) (fun hlt => ?_)
  · refine c_skip ?_
    refine c_seq ?_
    refine c_block ?_
    refine c_seq ?_
    refine c_region ?_
    refine o_val (v_move rfl) (dd rfl) ?_
    refine o_val (v_assign rfl) (dd rfl) ?_
    refine o_nil ?_
    refine c_seq ?_
    refine c_region ?_
    refine o_val (v_move rfl) (dd rfl) ?_
    refine o_val (v_move rfl) (dd rfl) ?_
    refine o_val (v_move rfl) (dd rfl) ?_
    refine o_val ((by first | exact v_indexAddrN Try.underlying35 ti3 rfl rfl (hX (by repeat constructor)) (by omega) | exact v_indexAddr Try.underlying35 ti3 rfl rfl (hX (by repeat constructor)) (by omega))) (dd rfl) ?_
    refine o_val (v_load_int lone3 rfl (by repeat (first | exact Elem.sl (List.getElem?_eq_getElem (by omega)) | exact Elem.own (List.getElem?_eq_getElem (by omega)) | exact Elem.ownO (List.getElem?_eq_getElem (by omega)) | apply Elem.there))) (dd rfl) ?_
    refine o_step (s_call clp (hp (xs[i]'(by omega)) (List.getElem_mem _)) (first := []) (cap := caps) rfl rfl (by rfl) (dd rfl) (pXs (by repeat constructor)) fun _ _ => ?_)
    refine o_nil ?_
    refine c_cond rfl (fun hc => ?_) (fun hc => ?_)
    · refine c_seq ?_
      refine c_region ?_
      refine o_val (v_move rfl) (dd rfl) ?_
      refine o_val (v_assign rfl) (dd rfl) ?_
      refine o_nil ?_
      refine c_ret1 Try.func104 rfl rfl fun w O hS => ?_
      exact ⟨(), congrArg (Value.int .i64) (idxF_some (by omega) hc fun j hj => hall j (by omega) hj).symm, trivial, Ent.get hS (eX (by repeat constructor))⟩
    · refine c_skip ?_
      refine c_inBlock ?_
      refine c_region ?_
      refine o_val ((by first | exact v_add64 rfl rfl (by omega) | exact v_add rfl rfl)) (dd rfl) ?_
      refine o_val (v_move rfl) (dd rfl) ?_
      refine o_nil ?_
      refine c_use (IH (i + 1) (by omega) ⟨by omega, fun j hj hji => ?_⟩) ⟨rfl, rfl, rfl, rfl, trivial⟩ (eX (by repeat constructor))
      by_cases h : j = i
      · subst h; exact hc
      · exact hall j hj (by omega)
  · refine c_exit rfl ?_
    refine c_seq ?_
    refine c_region ?_
    refine o_val (v_assign rfl) (dd rfl) ?_
    refine o_nil ?_
    refine c_ret1 Try.func104 rfl rfl fun w O hS => ?_
    exact ⟨(), congrArg (Value.int .i64) (idxF_none fun j hj => hall j hj (by omega)).symm, trivial, Ent.get hS (eX (by repeat constructor))⟩
set_option maxRecDepth 100000 in
theorem indexFunc_W {gp : FuncId} {caps : List Value} {R : A} {p : Int × Int → Bool} (clp : Callable Try.prog gp) (v : Value) (xs : List (Int × Int)) (hp : ∀ x ∈ xs, Con Try.prog gp (Value.agg ([Value.int .i64 x.1] ++ [Value.int .i64 x.2]).toArray :: caps) [R] (γ := Unit) (fun _ => .bool (p x)) (fun _ => True) (fun _ => [R])) (hx : xs.length ≤ 9223372036854775807) :
    Con Try.prog 82 [v, .func (.func gp) #[] caps.toArray] [Own (ePair (eInt .i64) (eInt .i64)) 137 v xs, R] (γ := Unit) (fun _ => .int .i64 (idxF p xs)) (fun _ => True) (fun _ => [Own (ePair (eInt .i64) (eInt .i64)) 137 v xs, R]) := by
  refine con_of Try.func82 rfl (dd rfl) fun w0 O0 => ?_
  refine c_seq ?_
  refine c_region ?_
  refine o_val (v_assign rfl) (dd rfl) ?_
  refine o_nil ?_
  refine c_seq ?_
  refine c_seq ?_
  refine c_region ?_
  refine o_val (v_move rfl) (dd rfl) ?_
  refine o_val ((by first | exact v_len_form Try.underlying133 rfl | exact v_len_sl Try.underlying133 rfl (hX (by repeat constructor)))) (dd rfl) ?_
  refine o_val (v_move rfl) (dd rfl) ?_
  refine o_nil ?_
  refine c_block ?_
  refine c_loop (γ := Nat) (fun i => xs.length - i) (fun i => i ≤ xs.length ∧ ∀ (j : Nat) (hj : j < xs.length), j < i → p xs[j] = false) (fun i => [(8, .int .i64 i), (7, .int .i64 xs.length), (1, .func (.func gp) #[] caps.toArray), (0, v)]) (fun _ => [Own (ePair (eInt .i64) (eInt .i64)) 137 v xs, R]) 0 ⟨Nat.zero_le _, fun _ _ h => by omega⟩ ⟨rfl, rfl, rfl, rfl, trivial⟩ (eX (by repeat constructor)) ?_
  rintro i ⟨hi, hall⟩ IH
  try dsimp only [List.cons_append, List.nil_append]
  refine c_seq ?_
  refine c_region ?_
  refine o_val (v_lt rfl rfl) (dd rfl) ?_
  refine o_nil ?_
  refine c_seq ?_
  refine c_cond_p rfl (fun hlt => ?_) (fun hlt => ?_)
  · refine c_skip ?_
    refine c_seq ?_
    refine c_block ?_
    refine c_seq ?_
    refine c_region ?_
    refine o_val (v_move rfl) (dd rfl) ?_
    refine o_val (v_assign rfl) (dd rfl) ?_
    refine o_nil ?_
    refine c_seq ?_
    refine c_region ?_
    refine o_val (v_move rfl) (dd rfl) ?_
    refine o_val (v_move rfl) (dd rfl) ?_
    refine o_val (v_move rfl) (dd rfl) ?_
    refine o_val ((by first | exact v_indexAddrN Try.underlying133 ti137 rfl rfl (hX (by repeat constructor)) (by omega) | exact v_indexAddr Try.underlying133 ti137 rfl rfl (hX (by repeat constructor)) (by omega))) (dd rfl) ?_
    refine o_val (v_load_p (by repeat (first | exact PEnc.int _ | exact PEnc.str | exact PEnc.bool | exact PEnc.byte | exact PEnc.raw | apply PEnc.pair | apply PEnc.map)) ⟨_, Try.underlying137⟩ ti137 rfl (by repeat (first|exact el1 (by omega)|exact el2 (by omega)|exact el3 (by omega)|apply Elem.there))) (dd rfl) ?_
    refine o_step (s_call clp (hp (xs[i]'(by omega)) (List.getElem_mem _)) (first := []) (cap := caps) rfl rfl (by rfl) (dd rfl) (pXs (by repeat constructor)) fun _ _ => ?_)
    refine o_nil ?_
    refine c_cond rfl (fun hc => ?_) (fun hc => ?_)
    · refine c_seq ?_
      refine c_region ?_
      refine o_val (v_move rfl) (dd rfl) ?_
      refine o_val (v_assign rfl) (dd rfl) ?_
      refine o_nil ?_
      refine c_ret1 Try.func82 rfl rfl fun w O hS => ?_
      exact ⟨(), congrArg (Value.int .i64) (idxF_some (by omega) hc fun j hj => hall j (by omega) hj).symm, trivial, Ent.get hS (eX (by repeat constructor))⟩
    · refine c_skip ?_
      refine c_inBlock ?_
      refine c_region ?_
      refine o_val ((by first | exact v_add64 rfl rfl (by omega) | exact v_add rfl rfl)) (dd rfl) ?_
      refine o_val (v_move rfl) (dd rfl) ?_
      refine o_nil ?_
      refine c_use (IH (i + 1) (by omega) ⟨by omega, fun j hj hji => ?_⟩) ⟨rfl, rfl, rfl, rfl, trivial⟩ (eX (by repeat constructor))
      by_cases h : j = i
      · subst h; exact hc
      · exact hall j hj (by omega)
  · refine c_exit rfl ?_
    refine c_seq ?_
    refine c_region ?_
    refine o_val (v_assign rfl) (dd rfl) ?_
    refine o_nil ?_
    refine c_ret1 Try.func82 rfl rfl fun w O hS => ?_
    exact ⟨(), congrArg (Value.int .i64) (idxF_none fun j hj => hall j hj (by omega)).symm, trivial, Ent.get hS (eX (by repeat constructor))⟩

theorem del_step {α : Type} {q : α → Bool} {xs ws : List α} {i j : Nat} (hj : j < xs.length) (hl : ws.length = xs.length) (hi : i = ((xs.take j).filter q).length) (ht : ws.take i = (xs.take j).filter q) (hd : ws.drop j = xs.drop j) :
    ws[j]'(by omega) = xs[j] ∧ i ≤ j ∧ (q xs[j] = true → i + 1 = ((xs.take (j + 1)).filter q).length ∧ (ws.set i xs[j]).take (i + 1) = (xs.take (j + 1)).filter q ∧ (ws.set i xs[j]).drop (j + 1) = xs.drop (j + 1)) ∧
      (q xs[j] = false → i = ((xs.take (j + 1)).filter q).length ∧ ws.take i = (xs.take (j + 1)).filter q ∧ ws.drop (j + 1) = xs.drop (j + 1)) := by
  have e1 : ws[j]'(by omega) = xs[j] := by
    have := congrArg (fun l => l[0]?) hd
    simpa [List.getElem?_drop, List.getElem?_eq_getElem hj, List.getElem?_eq_getElem (show j < ws.length by omega)] using this
  have hij : i ≤ j := by
    rw [hi]; exact Nat.le_trans (List.length_filter_le _ _) (by simp; omega)
  have hd1 : ws.drop (j + 1) = xs.drop (j + 1) := by
    have := congrArg (List.drop 1) hd
    simpa [List.drop_drop, Nat.add_comm] using this
  have htk : xs.take (j + 1) = xs.take j ++ [xs[j]] := List.take_succ_eq_append_getElem hj
  refine ⟨e1, hij, fun hq => ?_, fun hq => ?_⟩
  · refine ⟨by rw [htk, List.filter_append, List.length_append, ← hi]; simp [hq], ?_, ?_⟩
    · rw [htk, List.filter_append, ← ht]
      rw [List.take_succ_eq_append_getElem (by simp; omega), List.take_set_of_le (Nat.le_refl _)]
      simp [hq]
    · rw [List.drop_set_of_lt (by omega), hd1]
  · refine ⟨by rw [htk, List.filter_append, List.length_append, ← hi]; simp [hq], ?_, hd1⟩
    rw [htk, List.filter_append, ← ht]; simp [hq]
set_option maxRecDepth 100000 in
theorem deleteFunc_S {gp : FuncId} {caps : List Value} {R : A} {p : ByteArray → Bool} (clp : Callable Try.prog gp) (v : Value) (xs : List (ByteArray)) (hp : ∀ x ∈ xs, Con Try.prog gp (.string x :: caps) [R] (γ := Unit) (fun _ => .bool (p x)) (fun _ => True) (fun _ => [R])) (hx : xs.length ≤ 9223372036854775806) :
    Con Try.prog 92 [v, .func (.func gp) #[] caps.toArray] [Own eStr 9 v xs, R] (γ := Value) (fun r => r) (fun _ => True) (fun r => [Own eStr 9 r (xs.filter fun x => !p x), R]) := by
  refine Con.own (v := v) (xs := xs) Has.here ?_ ?_
  · rintro rfl rfl
    refine con_of Try.func92 rfl (dd rfl) fun w0 O0 => ?_
    refine c_seq ?_
    refine c_region ?_
    refine o_val (v_assign rfl) (dd rfl) ?_
    refine o_nil ?_
    refine c_seq ?_
    refine c_region ?_
    refine o_val (v_move rfl) (dd rfl) ?_
    refine o_val (v_move rfl) (dd rfl) ?_
    refine o_step (s_callf cl116 (indexFunc_S clp (.slice none 0 0) [] hp (by omega)) rfl (dd rfl) (pXs (by repeat constructor)) fun _ _ => ?_)
    refine o_val (v_assign rfl) (dd rfl) ?_
    refine o_nil ?_
    refine c_seq ?_
    refine c_seq ?_
    refine c_region ?_
    refine o_val (v_move rfl) (dd rfl) ?_
    refine o_val (v_eq rfl rfl) (dd rfl) ?_
    refine o_nil ?_
    refine c_cond_p rfl (fun hm => ?_) (fun hm => ?_)
    · refine c_seq ?_
      refine c_region ?_
      refine o_val (v_move rfl) (dd rfl) ?_
      refine o_val (v_assign rfl) (dd rfl) ?_
      refine o_nil ?_
      refine c_ret1 Try.func92 rfl rfl fun w O hS => ?_
      exact ⟨_, rfl, trivial, Ent.get hS (eX (by repeat constructor))⟩
    · skip
      exact absurd rfl hm
  · rintro g cap rfl hcap
    refine con_of Try.func92 rfl (dd rfl) fun w0 O0 => ?_
    refine c_seq ?_
    refine c_region ?_
    refine o_val (v_assign rfl) (dd rfl) ?_
    refine o_nil ?_
    refine c_seq ?_
    refine c_region ?_
    refine o_val (v_move rfl) (dd rfl) ?_
    refine o_val (v_move rfl) (dd rfl) ?_
    refine o_step (s_callf cl116 (indexFunc_S clp (.slice (some ⟨g, 0, none⟩) xs.length cap) xs hp (by omega)) rfl (dd rfl) (pXs (by repeat constructor)) fun _ _ => ?_)
    refine o_val (v_assign rfl) (dd rfl) ?_
    refine o_nil ?_
    refine c_seq ?_
    refine c_seq ?_
    refine c_region ?_
    refine o_val (v_move rfl) (dd rfl) ?_
    refine o_val (v_eq rfl rfl) (dd rfl) ?_
    refine o_nil ?_
    refine c_cond_p rfl (fun hm => ?_) (fun hm => ?_)
    · refine c_seq ?_
      refine c_region ?_
      refine o_val (v_move rfl) (dd rfl) ?_
      refine o_val (v_assign rfl) (dd rfl) ?_
      refine o_nil ?_
      refine c_ret1 Try.func92 rfl rfl fun w O hS => ?_
      refine ⟨_, rfl, trivial, ?_⟩
      have : xs.filter (fun x => !p x) = xs := List.filter_eq_self.2 fun x hxm => by
        rcases idxF_cases p xs with ⟨_, h⟩ | ⟨i, hi, h, _⟩
        · simp [h x hxm]
        · omega
      rw [this]
      exact Ent.get hS (eX (by repeat constructor))
    · obtain ⟨i0, hi0, he, hp1, hp2⟩ := (idxF_cases p xs).resolve_left fun h => hm h.1
      rw [he]
      refine c_skip ?_
      refine c_seq ?_
      refine c_seq ?_
      refine c_region ?_
      refine o_val (v_move rfl) (dd rfl) ?_
      refine o_val ((by first | exact v_add64 rfl rfl (by omega) | exact v_add rfl rfl)) (dd rfl) ?_
      refine o_val (v_assign rfl) (dd rfl) ?_
      refine o_nil ?_
      refine c_block ?_
      have hf0 : (xs.take i0).filter (fun x => !p x) = xs.take i0 := List.filter_eq_self.2 fun x hxm => by
        obtain ⟨j, hj, rfl⟩ := List.mem_iff_getElem.1 hxm
        simp only [List.length_take] at hj
        simp [hp2 j (by omega)]
      have hf1 : (xs.take (i0 + 1)).filter (fun x => !p x) = xs.take i0 := by
        rw [List.take_succ_eq_append_getElem hi0, List.filter_append, hf0]; simp [hp1]
      refine c_loop (γ := Nat × Nat × List (ByteArray)) (fun s => xs.length - s.1) (fun s => s.1 ≤ xs.length ∧ s.2.2.length = xs.length ∧ s.2.1 = ((xs.take s.1).filter fun x => !p x).length ∧ s.2.2.take s.2.1 = (xs.take s.1).filter (fun x => !p x) ∧ s.2.2.drop s.1 = xs.drop s.1) (fun s => [(6, .int .i64 s.1), (5, .int .i64 s.2.1), (1, .func (.func gp) #[] caps.toArray), (0, .slice (some ⟨g, 0, none⟩) s.2.2.length cap)]) (fun s => [Own eStr 9 (.slice (some ⟨g, 0, none⟩) s.2.2.length cap) s.2.2, R]) (i0 + 1, i0, xs) ⟨by omega, rfl, by rw [hf1]; simp; omega, by rw [hf1], rfl⟩ ⟨rfl, rfl, rfl, rfl, trivial⟩ (eX (by repeat constructor)) ?_
      rintro ⟨j, i, ws⟩ ⟨hj, hl, hi, ht, hd⟩ IH
      dsimp only at hj hl hi ht hd ⊢
      try dsimp only [List.cons_append, List.nil_append]
      refine c_seq ?_
      refine c_seq ?_
      refine c_region ?_
      refine o_val (v_move rfl) (dd rfl) ?_
      refine o_val (v_move rfl) (dd rfl) ?_
      refine o_val ((by first | exact v_len_form Try.underlying30 rfl | exact v_len_sl Try.underlying30 rfl (hX (by repeat constructor)))) (dd rfl) ?_
      refine o_val (v_lt rfl rfl) (dd rfl) ?_
      refine o_nil ?_
      refine c_cond_p rfl (fun hlt => ?_) (fun hlt => ?_)
      · have hlt' : j < xs.length := by omega
        obtain ⟨e1, hij, hs1, hs2⟩ := del_step hlt' hl hi ht hd
        refine c_skip ?_
        refine c_seq ?_
        refine c_block ?_
        refine c_seq ?_
        refine c_region ?_
        refine o_val (v_move rfl) (dd rfl) ?_
        refine o_val (v_move rfl) (dd rfl) ?_
        refine o_val ((by first | exact v_indexAddrN Try.underlying30 ti9 rfl rfl (hX (by repeat constructor)) (by omega) | exact v_indexAddr Try.underlying30 ti9 rfl rfl (hX (by repeat constructor)) (by omega))) (dd rfl) ?_
        refine o_val (v_load_str lone9 rfl (by repeat (first | exact Elem.sl (List.getElem?_eq_getElem (by omega)) | exact Elem.own (List.getElem?_eq_getElem (by omega)) | exact Elem.ownO (List.getElem?_eq_getElem (by omega)) | apply Elem.there))) (dd rfl) ?_
        refine o_val (v_assign rfl) (dd rfl) ?_
        refine o_nil ?_
        refine c_seq ?_
        refine c_region ?_
        refine o_val (v_move rfl) (dd rfl) ?_
        refine o_val (v_move rfl) (dd rfl) ?_
        refine o_step (s_call clp (hp (ws[j]'(by omega)) (by rw [e1]; exact List.getElem_mem _)) (first := []) (cap := caps) rfl rfl (by rfl) (dd rfl) (pXs (by repeat constructor)) fun _ _ => ?_)
        refine o_val (v_not rfl) (dd rfl) ?_
        refine o_nil ?_
        refine c_cond rfl (fun hc => ?_) (fun hc => ?_)
        · refine c_seq ?_
          refine c_region ?_
          refine o_val (v_move rfl) (dd rfl) ?_
          refine o_val (v_move rfl) (dd rfl) ?_
          refine o_val (v_move rfl) (dd rfl) ?_
          refine o_val ((by first | exact v_indexAddrN Try.underlying30 ti9 rfl rfl (hX (by repeat constructor)) (by omega) | exact v_indexAddr Try.underlying30 ti9 rfl rfl (hX (by repeat constructor)) (by omega))) (dd rfl) ?_
          refine o_step (s_store_elem (z := ws[j]'(by omega)) ti9 rfl rfl (by first | exact CellsV.lit rfl | exact CellsV.one (by first | exact OneC.lit rfl | exact OneC.sl (hX (by repeat constructor)) )) (pB (by repeat constructor)) (by exact (by first | exact Beside.rd fun _ _ => rfl | exact Beside.rd fun _ _ => ⟨_, _, rfl, rfl, rfl⟩)) (by omega) (?_))
          refine o_nil ?_
          refine c_region ?_
          refine o_val (v_move rfl) (dd rfl) ?_
          refine o_val ((by first | exact v_add64 rfl rfl (by omega) | exact v_add rfl rfl)) (dd rfl) ?_
          refine o_val (v_assign rfl) (dd rfl) ?_
          refine o_nil ?_
          refine c_inBlock ?_
          refine c_region ?_
          refine o_val (v_move rfl) (dd rfl) ?_
          refine o_val ((by first | exact v_add64 rfl rfl (by omega) | exact v_add rfl rfl)) (dd rfl) ?_
          refine o_val (v_assign rfl) (dd rfl) ?_
          refine o_nil ?_
          have hq : (fun x => !p x) xs[j] = true := by rw [← e1]; exact hc
          refine c_use (IH (j + 1, i + 1, ws.set i (ws[j]'(by omega))) (by simp only; omega) ⟨by simp only; omega, by simp only [List.length_set]; exact hl, ?_⟩) ⟨rfl, rfl, rfl, by simp only [List.length_set]; rfl, trivial⟩ (by simp only [List.length_set]; exact (eX (by repeat constructor)))
          simp only [e1]
          exact hs1 hq
        · refine c_skip ?_
          refine c_inBlock ?_
          refine c_region ?_
          refine o_val (v_move rfl) (dd rfl) ?_
          refine o_val ((by first | exact v_add64 rfl rfl (by omega) | exact v_add rfl rfl)) (dd rfl) ?_
          refine o_val (v_assign rfl) (dd rfl) ?_
          refine o_nil ?_
          have hq : (fun x => !p x) xs[j] = false := by rw [← e1]; exact hc
          refine c_use (IH (j + 1, i, ws) (by simp only; omega) ⟨by simp only; omega, hl, hs2 hq⟩) ⟨rfl, rfl, rfl, rfl, trivial⟩ (eX (by repeat constructor))
      · have hje : j = xs.length := by omega
        have hij : i ≤ ws.length := by rw [hi]; exact Nat.le_trans (List.length_filter_le _ _) (by simp; omega)
        refine c_exit rfl ?_
        refine c_seq ?_
        refine c_region ?_
        refine o_val (v_move rfl) (dd rfl) ?_
        refine o_val (v_move rfl) (dd rfl) ?_
        refine o_val (v_slice Try.underlying30 ti9 rfl (.inr ⟨_, _, _, rfl, rfl, by omega, rfl⟩) (.inl ⟨rfl, rfl, rfl⟩) (.inl ⟨rfl, rfl⟩) (by omega) (by omega) (by omega)) (dd rfl) ?_
        simp only [Int.toNat_natCast]
        refine o_step (s_clear_tail (e := eStr) (zs := ws) (z := .string ⟨#[]⟩) rfl Try.underlying30 ti9 rfl (fun _ _ => rfl) (by decide) rfl rfl (by omega) (by omega) (pB (by repeat constructor)) fun ys hys => ?_)
        refine o_nil ?_
        refine c_seq ?_
        refine c_region ?_
        refine o_val (v_move rfl) (dd rfl) ?_
        refine o_val (v_move rfl) (dd rfl) ?_
        refine o_val (v_slice Try.underlying30 ti9 rfl (.inl ⟨rfl, rfl⟩) (.inr ⟨_, _, _, rfl, rfl, by omega, rfl⟩) (.inl ⟨rfl, rfl⟩) (by omega) (by omega) (by omega)) (dd rfl) ?_
        refine o_val (v_assign rfl) (dd rfl) ?_
        refine o_nil ?_
        refine c_ret1 Try.func92 rfl rfl fun w O hS => ?_
        refine ⟨_, rfl, trivial, ?_⟩
        rw [Int.toNat_natCast, cutV_zero]
        have e2 : (ws.take i ++ ys).take i = xs.filter fun x => !p x := by
          rw [List.take_left' (by simp; omega), ht, hje, List.take_length]
        rw [← e2]
        refine Ent.get (Ent.get hS (L' := [Own eStr 9 (.slice (some ⟨g, 0, none⟩) (ws.take i ++ ys).length cap) (ws.take i ++ ys), R]) ?_) (Ent.head fun _ _ h => Own.cut h (by simp; omega))
        have e3 : (ws.take i ++ ys).length = ws.length := by simp; omega
        rw [e3]
        exact (eX (by repeat constructor))
set_option maxRecDepth 100000 in
theorem deleteFunc_W {gp : FuncId} {caps : List Value} {R : A} {p : Int × Int → Bool} (clp : Callable Try.prog gp) (v : Value) (xs : List (Int × Int)) (hp : ∀ x ∈ xs, Con Try.prog gp (Value.agg ([Value.int .i64 x.1] ++ [Value.int .i64 x.2]).toArray :: caps) [R] (γ := Unit) (fun _ => .bool (p x)) (fun _ => True) (fun _ => [R])) (hx : xs.length ≤ 9223372036854775806) :
    Con Try.prog 105 [v, .func (.func gp) #[] caps.toArray] [Own (ePair (eInt .i64) (eInt .i64)) 137 v xs, R] (γ := Value) (fun r => r) (fun _ => True) (fun r => [Own (ePair (eInt .i64) (eInt .i64)) 137 r (xs.filter fun x => !p x), R]) := by
  refine Con.own (v := v) (xs := xs) Has.here ?_ ?_
  · rintro rfl rfl
    refine con_of Try.func105 rfl (dd rfl) fun w0 O0 => ?_
    refine c_seq ?_
    refine c_region ?_
    refine o_val (v_assign rfl) (dd rfl) ?_
    refine o_nil ?_
    refine c_seq ?_
    refine c_region ?_
    refine o_val (v_move rfl) (dd rfl) ?_
    refine o_val (v_move rfl) (dd rfl) ?_
    refine o_step (s_callf cl82 (indexFunc_W clp (.slice none 0 0) [] hp (by omega)) rfl (dd rfl) (pXs (by repeat constructor)) fun _ _ => ?_)
    refine o_val (v_assign rfl) (dd rfl) ?_
    refine o_nil ?_
    refine c_seq ?_
    refine c_seq ?_
    refine c_region ?_
    refine o_val (v_move rfl) (dd rfl) ?_
    refine o_val (v_eq rfl rfl) (dd rfl) ?_
    refine o_nil ?_
    refine c_cond_p rfl (fun hm => ?_) (fun hm => ?_)
    · refine c_seq ?_
      refine c_region ?_
      refine o_val (v_move rfl) (dd rfl) ?_
      refine o_val (v_assign rfl) (dd rfl) ?_
      refine o_nil ?_
      refine c_ret1 Try.func105 rfl rfl fun w O hS => ?_
      exact ⟨_, rfl, trivial, Ent.get hS (eX (by repeat constructor))⟩
    · skip
      exact absurd rfl hm
  · rintro g cap rfl hcap
    refine con_of Try.func105 rfl (dd rfl) fun w0 O0 => ?_
    refine c_seq ?_
    refine c_region ?_
    refine o_val (v_assign rfl) (dd rfl) ?_
    refine o_nil ?_
    refine c_seq ?_
    refine c_region ?_
    refine o_val (v_move rfl) (dd rfl) ?_
    refine o_val (v_move rfl) (dd rfl) ?_
    refine o_step (s_callf cl82 (indexFunc_W clp (.slice (some ⟨g, 0, none⟩) xs.length cap) xs hp (by omega)) rfl (dd rfl) (pXs (by repeat constructor)) fun _ _ => ?_)
    refine o_val (v_assign rfl) (dd rfl) ?_
    refine o_nil ?_
    refine c_seq ?_
    refine c_seq ?_
    refine c_region ?_
    refine o_val (v_move rfl) (dd rfl) ?_
    refine o_val (v_eq rfl rfl) (dd rfl) ?_
    refine o_nil ?_
    refine c_cond_p rfl (fun hm => ?_) (fun hm => ?_)
    · refine c_seq ?_
      refine c_region ?_
      refine o_val (v_move rfl) (dd rfl) ?_
      refine o_val (v_assign rfl) (dd rfl) ?_
      refine o_nil ?_
      refine c_ret1 Try.func105 rfl rfl fun w O hS => ?_
      refine ⟨_, rfl, trivial, ?_⟩
      have : xs.filter (fun x => !p x) = xs := List.filter_eq_self.2 fun x hxm => by
        rcases idxF_cases p xs with ⟨_, h⟩ | ⟨i, hi, h, _⟩
        · simp [h x hxm]
        · omega
      rw [this]
      exact Ent.get hS (eX (by repeat constructor))
    · obtain ⟨i0, hi0, he, hp1, hp2⟩ := (idxF_cases p xs).resolve_left fun h => hm h.1
      rw [he]
      refine c_skip ?_
      refine c_seq ?_
      refine c_seq ?_
      refine c_region ?_
      refine o_val (v_move rfl) (dd rfl) ?_
      refine o_val ((by first | exact v_add64 rfl rfl (by omega) | exact v_add rfl rfl)) (dd rfl) ?_
      refine o_val (v_assign rfl) (dd rfl) ?_
      refine o_nil ?_
      refine c_block ?_
      have hf0 : (xs.take i0).filter (fun x => !p x) = xs.take i0 := List.filter_eq_self.2 fun x hxm => by
        obtain ⟨j, hj, rfl⟩ := List.mem_iff_getElem.1 hxm
        simp only [List.length_take] at hj
        simp [hp2 j (by omega)]
      have hf1 : (xs.take (i0 + 1)).filter (fun x => !p x) = xs.take i0 := by
        rw [List.take_succ_eq_append_getElem hi0, List.filter_append, hf0]; simp [hp1]
      refine c_loop (γ := Nat × Nat × List (Int × Int)) (fun s => xs.length - s.1) (fun s => s.1 ≤ xs.length ∧ s.2.2.length = xs.length ∧ s.2.1 = ((xs.take s.1).filter fun x => !p x).length ∧ s.2.2.take s.2.1 = (xs.take s.1).filter (fun x => !p x) ∧ s.2.2.drop s.1 = xs.drop s.1) (fun s => [(6, .int .i64 s.1), (5, .int .i64 s.2.1), (1, .func (.func gp) #[] caps.toArray), (0, .slice (some ⟨g, 0, none⟩) s.2.2.length cap)]) (fun s => [Own (ePair (eInt .i64) (eInt .i64)) 137 (.slice (some ⟨g, 0, none⟩) s.2.2.length cap) s.2.2, R]) (i0 + 1, i0, xs) ⟨by omega, rfl, by rw [hf1]; simp; omega, by rw [hf1], rfl⟩ ⟨rfl, rfl, rfl, rfl, trivial⟩ (eX (by repeat constructor)) ?_
      rintro ⟨j, i, ws⟩ ⟨hj, hl, hi, ht, hd⟩ IH
      dsimp only at hj hl hi ht hd ⊢
      try dsimp only [List.cons_append, List.nil_append]
      refine c_seq ?_
      refine c_seq ?_
      refine c_region ?_
      refine o_val (v_move rfl) (dd rfl) ?_
      refine o_val (v_move rfl) (dd rfl) ?_
      refine o_val ((by first | exact v_len_form Try.underlying133 rfl | exact v_len_sl Try.underlying133 rfl (hX (by repeat constructor)))) (dd rfl) ?_
      refine o_val (v_lt rfl rfl) (dd rfl) ?_
      refine o_nil ?_
      refine c_cond_p rfl (fun hlt => ?_) (fun hlt => ?_)
      · have hlt' : j < xs.length := by omega
        obtain ⟨e1, hij, hs1, hs2⟩ := del_step hlt' hl hi ht hd
        refine c_skip ?_
        refine c_seq ?_
        refine c_block ?_
        refine c_seq ?_
        refine c_region ?_
        refine o_val (v_move rfl) (dd rfl) ?_
        refine o_val (v_move rfl) (dd rfl) ?_
        refine o_val ((by first | exact v_indexAddrN Try.underlying133 ti137 rfl rfl (hX (by repeat constructor)) (by omega) | exact v_indexAddr Try.underlying133 ti137 rfl rfl (hX (by repeat constructor)) (by omega))) (dd rfl) ?_
        refine o_val (v_load_p (by repeat (first | exact PEnc.int _ | exact PEnc.str | exact PEnc.bool | exact PEnc.byte | exact PEnc.raw | apply PEnc.pair | apply PEnc.map)) ⟨_, Try.underlying137⟩ ti137 rfl (by repeat (first|exact el1 (by omega)|exact el2 (by omega)|exact el3 (by omega)|apply Elem.there))) (dd rfl) ?_
        refine o_step (s_alloc ti137 (dd rfl) (fun b7 => ?_))
        refine o_step (s_store_all ti137 rfl rfl (by first | exact CellsV.lit rfl | exact CellsV.one (by first | exact OneC.lit rfl | exact OneC.sl (hX (by repeat constructor)) )) (by repeat (first | exact OneAll.nil | (refine OneAll.cons ?_ ?_; · first | exact OneC.lit rfl | exact OneC.sl (hX (by repeat constructor)) ) | exact OneAll.rd (hX (by repeat constructor)))) rfl (pB (by repeat constructor)) rfl (?_))
        refine o_nil ?_
        refine c_seq ?_
        refine c_region ?_
        refine o_val (v_move rfl) (dd rfl) ?_
        refine o_val (v_load_all ⟨_, Try.underlying137⟩ ti137 rfl (hX (by repeat constructor)) rfl) (dd rfl) ?_
        refine o_step (s_call clp (hp (ws[j]'(by omega)) (by rw [e1]; exact List.getElem_mem _)) (first := []) (cap := caps) rfl rfl (by rfl) (dd rfl) (pXs (by repeat constructor)) fun _ _ => ?_)
        refine o_val (v_not rfl) (dd rfl) ?_
        refine o_nil ?_
        refine c_cond rfl (fun hc => ?_) (fun hc => ?_)
        · refine c_seq ?_
          refine c_region ?_
          refine o_val (v_move rfl) (dd rfl) ?_
          refine o_val (v_move rfl) (dd rfl) ?_
          refine o_val (v_load_all ⟨_, Try.underlying137⟩ ti137 rfl (hX (by repeat constructor)) rfl) (dd rfl) ?_
          refine o_val ((by first | exact v_indexAddrN Try.underlying133 ti137 rfl rfl (hX (by repeat constructor)) (by omega) | exact v_indexAddr Try.underlying133 ti137 rfl rfl (hX (by repeat constructor)) (by omega))) (dd rfl) ?_
          refine o_step (s_store_elem (z := ws[j]'(by omega)) ti137 rfl rfl (by first | exact CellsV.lit rfl | exact CellsV.one (by first | exact OneC.lit rfl | exact OneC.sl (hX (by repeat constructor)) )) (pB (by repeat constructor)) (by exact (by first | exact Beside.rd fun _ _ => rfl | exact Beside.rd fun _ _ => ⟨_, _, rfl, rfl, rfl⟩)) (by omega) (?_))
          refine o_nil ?_
          refine c_region ?_
          refine o_val (v_move rfl) (dd rfl) ?_
          refine o_val ((by first | exact v_add64 rfl rfl (by omega) | exact v_add rfl rfl)) (dd rfl) ?_
          refine o_val (v_assign rfl) (dd rfl) ?_
          refine o_nil ?_
          refine c_inBlock ?_
          refine c_region ?_
          refine o_val (v_move rfl) (dd rfl) ?_
          refine o_val ((by first | exact v_add64 rfl rfl (by omega) | exact v_add rfl rfl)) (dd rfl) ?_
          refine o_val (v_assign rfl) (dd rfl) ?_
          refine o_nil ?_
          have hq : (fun x => !p x) xs[j] = true := by rw [← e1]; exact hc
          refine c_use (IH (j + 1, i + 1, ws.set i (ws[j]'(by omega))) (by simp only; omega) ⟨by simp only; omega, by simp only [List.length_set]; exact hl, ?_⟩) ⟨rfl, rfl, rfl, by simp only [List.length_set]; rfl, trivial⟩ (by simp only [List.length_set]; exact (eX (by repeat constructor)))
          simp only [e1]
          exact hs1 hq
        · refine c_skip ?_
          refine c_inBlock ?_
          refine c_region ?_
          refine o_val (v_move rfl) (dd rfl) ?_
          refine o_val ((by first | exact v_add64 rfl rfl (by omega) | exact v_add rfl rfl)) (dd rfl) ?_
          refine o_val (v_assign rfl) (dd rfl) ?_
          refine o_nil ?_
          have hq : (fun x => !p x) xs[j] = false := by rw [← e1]; exact hc
          refine c_use (IH (j + 1, i, ws) (by simp only; omega) ⟨by simp only; omega, hl, hs2 hq⟩) ⟨rfl, rfl, rfl, rfl, trivial⟩ (eX (by repeat constructor))
      · have hje : j = xs.length := by omega
        have hij : i ≤ ws.length := by rw [hi]; exact Nat.le_trans (List.length_filter_le _ _) (by simp; omega)
        refine c_exit rfl ?_
        refine c_seq ?_
        refine c_region ?_
        refine o_val (v_move rfl) (dd rfl) ?_
        refine o_val (v_move rfl) (dd rfl) ?_
        refine o_val (v_slice Try.underlying133 ti137 rfl (.inr ⟨_, _, _, rfl, rfl, by omega, rfl⟩) (.inl ⟨rfl, rfl, rfl⟩) (.inl ⟨rfl, rfl⟩) (by omega) (by omega) (by omega)) (dd rfl) ?_
        simp only [Int.toNat_natCast]
        refine o_step (s_clear_tail (e := (ePair (eInt .i64) (eInt .i64))) (zs := ws) (z := .agg #[.int .i64 0, .int .i64 0]) rfl Try.underlying133 ti137 rfl (fun _ _ => (⟨[.int .i64 0], [.int .i64 0], rfl, rfl, rfl⟩ : (ePair (eInt .i64) (eInt .i64)).rd _ _ [.int .i64 0, .int .i64 0] (0, 0))) (by decide) rfl rfl (by omega) (by omega) (pB (by repeat constructor)) fun ys hys => ?_)
        refine o_nil ?_
        refine c_seq ?_
        refine c_region ?_
        refine o_val (v_move rfl) (dd rfl) ?_
        refine o_val (v_move rfl) (dd rfl) ?_
        refine o_val (v_slice Try.underlying133 ti137 rfl (.inl ⟨rfl, rfl⟩) (.inr ⟨_, _, _, rfl, rfl, by omega, rfl⟩) (.inl ⟨rfl, rfl⟩) (by omega) (by omega) (by omega)) (dd rfl) ?_
        refine o_val (v_assign rfl) (dd rfl) ?_
        refine o_nil ?_
        refine c_ret1 Try.func105 rfl rfl fun w O hS => ?_
        refine ⟨_, rfl, trivial, ?_⟩
        rw [Int.toNat_natCast, cutV_zero]
        have e2 : (ws.take i ++ ys).take i = xs.filter fun x => !p x := by
          rw [List.take_left' (by simp; omega), ht, hje, List.take_length]
        rw [← e2]
        refine Ent.get (Ent.get hS (L' := [Own (ePair (eInt .i64) (eInt .i64)) 137 (.slice (some ⟨g, 0, none⟩) (ws.take i ++ ys).length cap) (ws.take i ++ ys), R]) ?_) (Ent.head fun _ _ h => Own.cut h (by simp; omega))
        have e3 : (ws.take i ++ ys).length = ws.length := by simp; omega
        rw [e3]
        exact (eX (by repeat constructor))
end Go.Proofs.Ytnamhhmfnokfiaa
namespace Go.Proofs.Ytnamhhmfnokfiaa
open Go Go.SL
theorem extern_clone : Extern.find Try.f102 = some Extern.MapsClone.clone := by kernel_rfl
attribute [local irreducible] Cfg Kont StepK Val Con Qops Any Sl Own Blk BlkR Rd Pu ExA AllA Has Pick Ent Elem Beside Callable TI Lone OwnO AndA
set_option maxRecDepth 100000 in
theorem mapsClone_I (o : Option Nat) (m : List (Int × Value)) :
    Con Try.prog 96 [.map o] [MapO kInt o m] (γ := Option Nat) (fun c => .map c) (fun c => c.isNone = o.isNone) (fun c => [MapO kInt c m, MapO kInt o m]) := by
  cases o with
  | none =>
    refine con_of Try.func96 rfl (dd rfl) fun w0 O0 => ?_
    refine c_pu (p := m = []) .here fun hm => ?_
    refine c_seq ?_
    refine c_region ?_
    refine o_val (v_assign rfl) (dd rfl) ?_
    refine o_nil ?_
    refine c_seq ?_
    refine c_seq ?_
    refine c_region ?_
    refine o_val (v_move rfl) (dd rfl) ?_
    refine o_val (v_eq_map_nil Try.underlying97 rfl rfl) (dd rfl) ?_
    refine o_nil ?_
    refine c_cond_t rfl ?_
    refine c_seq ?_
    refine c_region ?_
    refine o_val (v_assign rfl) (dd rfl) ?_
    refine o_nil ?_
    refine c_ret1 Try.func96 rfl rfl fun w O hS => ?_
    exact ⟨none, rfl, rfl, Ent.get hS (Ent.trans (Ent.pu (p := m = []) hm) (Ent.trans (Ent.pu (p := m = []) hm) (eX (by repeat constructor))))⟩
  | some b =>
    refine con_of Try.func96 rfl (dd rfl) fun w0 O0 => ?_
    refine c_ent (L' := [MapA kInt b m]) (Ent.refl _) ?_
    refine c_seq ?_
    refine c_region ?_
    refine o_val (v_assign rfl) (dd rfl) ?_
    refine o_nil ?_
    refine c_seq ?_
    refine c_seq ?_
    refine c_region ?_
    refine o_val (v_move rfl) (dd rfl) ?_
    refine o_val (v_eq_map_nil Try.underlying97 rfl rfl) (dd rfl) ?_
    refine o_nil ?_
    refine c_cond_f rfl ?_
    refine c_skip ?_
    refine c_seq ?_
    refine c_region ?_
    refine o_val (v_move rfl) (dd rfl) ?_
    refine o_val (v_makeIface_map Try.underlying97 rfl) (dd rfl) ?_
    refine o_step (s_maps_clone (ke := kInt) (b := b) (m := m) Try.func102 (by kernel_rfl) (by kernel_rfl) (by kernel_rfl) extern_clone rfl (dd rfl) (hX (by repeat constructor)) fun c => ?_)
    refine o_val (v_typeAssert_map Try.underlying97 rfl) (dd rfl) ?_
    refine o_val (v_assign rfl) (dd rfl) ?_
    refine o_nil ?_
    refine c_ret1 Try.func96 rfl rfl fun w O hS => ?_
    exact ⟨some c, rfl, rfl, Ent.get hS (Ent.refl _)⟩
set_option maxRecDepth 100000 in
theorem mapsClone_G (o : Option Nat) (m : List (Int × Value)) :
    Con Try.prog 68 [.map o] [MapO kInt o m] (γ := Option Nat) (fun c => .map c) (fun c => c.isNone = o.isNone) (fun c => [MapO kInt c m, MapO kInt o m]) := by
  cases o with
  | none =>
    refine con_of Try.func68 rfl (dd rfl) fun w0 O0 => ?_
    refine c_pu (p := m = []) .here fun hm => ?_
    refine c_seq ?_
    refine c_region ?_
    refine o_val (v_assign rfl) (dd rfl) ?_
    refine o_nil ?_
    refine c_seq ?_
    refine c_seq ?_
    refine c_region ?_
    refine o_val (v_move rfl) (dd rfl) ?_
    refine o_val (v_eq_map_nil Try.underlying73 rfl rfl) (dd rfl) ?_
    refine o_nil ?_
    refine c_cond_t rfl ?_
    refine c_seq ?_
    refine c_region ?_
    refine o_val (v_assign rfl) (dd rfl) ?_
    refine o_nil ?_
    refine c_ret1 Try.func68 rfl rfl fun w O hS => ?_
    exact ⟨none, rfl, rfl, Ent.get hS (Ent.trans (Ent.pu (p := m = []) hm) (Ent.trans (Ent.pu (p := m = []) hm) (eX (by repeat constructor))))⟩
  | some b =>
    refine con_of Try.func68 rfl (dd rfl) fun w0 O0 => ?_
    refine c_ent (L' := [MapA kInt b m]) (Ent.refl _) ?_
    refine c_seq ?_
    refine c_region ?_
    refine o_val (v_assign rfl) (dd rfl) ?_
    refine o_nil ?_
    refine c_seq ?_
    refine c_seq ?_
    refine c_region ?_
    refine o_val (v_move rfl) (dd rfl) ?_
    refine o_val (v_eq_map_nil Try.underlying73 rfl rfl) (dd rfl) ?_
    refine o_nil ?_
    refine c_cond_f rfl ?_
    refine c_skip ?_
    refine c_seq ?_
    refine c_region ?_
    refine o_val (v_move rfl) (dd rfl) ?_
    refine o_val (v_makeIface_map Try.underlying73 rfl) (dd rfl) ?_
    refine o_step (s_maps_clone (ke := kInt) (b := b) (m := m) Try.func102 (by kernel_rfl) (by kernel_rfl) (by kernel_rfl) extern_clone rfl (dd rfl) (hX (by repeat constructor)) fun c => ?_)
    refine o_val (v_typeAssert_map Try.underlying73 rfl) (dd rfl) ?_
    refine o_val (v_assign rfl) (dd rfl) ?_
    refine o_nil ?_
    refine c_ret1 Try.func68 rfl rfl fun w O hS => ?_
    exact ⟨some c, rfl, rfl, Ent.get hS (Ent.refl _)⟩
end Go.Proofs.Ytnamhhmfnokfiaa
namespace Go.Proofs.Ytnamhhmfnokfiaa
open Go Go.SL
/-- Chapter 12: modes. -/
def isM (n : Int) : Prop := 0 ≤ n ∧ n ≤ 3
instance (n : Int) : Decidable (isM n) := inferInstanceAs (Decidable (0 ≤ n ∧ n ≤ 3))
def fitsL (a b : Int) : Bool := decide (isM a ∧ isM b ∧ a ≠ 3 ∧ b ≠ 3 ∧ (a = 0 ∨ b = 0 ∨ a = b))
def bothL (a b : Int) : Int := if ¬ (isM a ∧ isM b) then 3 else if a = b ∨ a = 0 then b else if b = 0 then a else 3
def fitsV : Value := .agg #[.bool true, .bool true, .bool true, .bool false, .bool true, .bool true, .bool false, .bool false, .bool true, .bool false, .bool true, .bool false, .bool false, .bool false, .bool false, .bool false]
attribute [local irreducible] Cfg Kont StepK Val Con Qops Any Sl Own Blk BlkR Rd Pu ExA AllA Has Pick Ent Elem Beside Callable TI Lone OwnO AndA
set_option maxRecDepth 100000 in
theorem mode_con (n : Int) : Con Try.prog 58 [.int .i64 n] [] (γ := Unit) (fun _ => .bool (decide (isM n))) (fun _ => True) (fun _ => []) := by
  refine con_of Try.func58 rfl (dd rfl) fun w0 O0 => ?_
  refine c_seq ?_
  refine c_region ?_
  refine o_val (v_assign rfl) (dd rfl) ?_
  refine o_nil ?_
  refine c_seq ?_
  refine c_region ?_
  refine o_val (v_move rfl) (dd rfl) ?_
  refine o_val (v_ge rfl rfl) (dd rfl) ?_
  refine o_val (v_move rfl) (dd rfl) ?_
  refine o_guard_t rfl rfl (fun h0 => ?_) (fun h0 => ?_)
  · refine o_val (v_move rfl) (dd rfl) ?_
    refine o_on rfl rfl ?_
    refine o_val (v_le rfl rfl) (dd rfl) ?_
    refine o_val (v_pick_t rfl rfl) (dd rfl) ?_
    refine o_val (v_assign rfl) (dd rfl) ?_
    refine o_nil ?_
    refine c_ret1 Try.func58 rfl rfl fun w O hS => ?_
    refine ⟨(), congrArg Value.bool (decide_eq_decide.2 ?_), trivial, trivial⟩
    unfold isM; omega
  · refine o_off rfl rfl rfl (dd rfl) ?_
    refine o_off rfl rfl rfl (dd rfl) ?_
    refine o_val (v_pick_f rfl rfl) (dd rfl) ?_
    refine o_val (v_assign rfl) (dd rfl) ?_
    refine o_nil ?_
    refine c_ret1 Try.func58 rfl rfl fun w O hS => ?_
    refine ⟨(), congrArg Value.bool (decide_eq_false ?_).symm, trivial, trivial⟩
    unfold isM; omega
set_option maxRecDepth 100000 in
theorem fits_con : Con Try.prog 59 [] [] (γ := Unit) (fun _ => fitsV) (fun _ => True) (fun _ => []) := by
  refine con_of Try.func59 rfl (dd rfl) fun w0 O0 => ?_
  refine c_seq ?_
  refine c_region ?_
  refine o_step (s_alloc ti120 (dd rfl) (fun b0 => ?_))
  refine o_nil ?_
  refine c_seq ?_
  refine c_region ?_
  refine o_val (v_buildA (cells := [_, _, _, _]) Try.underlying119 ti119 ti4 rfl (by repeat (first | exact PartsC.nil | apply PartsC.lit rfl)) rfl) (dd rfl) ?_
  refine o_val (v_buildA (cells := [_, _, _, _]) Try.underlying119 ti119 ti4 rfl (by repeat (first | exact PartsC.nil | apply PartsC.lit rfl)) rfl) (dd rfl) ?_
  refine o_val (v_buildA (cells := [_, _, _, _]) Try.underlying119 ti119 ti4 rfl (by repeat (first | exact PartsC.nil | apply PartsC.lit rfl)) rfl) (dd rfl) ?_
  refine o_val (v_buildA (cells := [_, _, _, _]) Try.underlying119 ti119 ti4 rfl (by repeat (first | exact PartsC.nil | apply PartsC.lit rfl)) rfl) (dd rfl) ?_
  refine o_val (v_buildA (cells := [_, _, _, _, _, _, _, _, _, _, _, _, _, _, _, _]) Try.underlying120 ti120 ti119 rfl (by repeat (first | exact PartsC.nil | apply PartsC.lit rfl)) rfl) (dd rfl) ?_
  refine o_step (s_store_all ti120 rfl rfl (by first | exact CellsV.lit rfl | exact CellsV.one (by first | exact OneC.lit rfl | exact OneC.sl (hX (by repeat constructor)) )) (by repeat (first | exact OneAll.nil | (refine OneAll.cons ?_ ?_; · first | exact OneC.lit rfl | exact OneC.sl (hX (by repeat constructor)) ) | exact OneAll.rd (hX (by repeat constructor)))) rfl (pB (by repeat constructor)) rfl (?_))
  refine o_nil ?_
  refine c_ret_cellA Try.func59 rfl Try.underlying120 ti120 rfl (hX (by repeat constructor)) fun w O hS => ?_
  exact ⟨(), rfl, trivial, trivial⟩
end Go.Proofs.Ytnamhhmfnokfiaa
namespace Go.Proofs.Ytnamhhmfnokfiaa
open Go Go.SL
theorem isM_cases {a : Int} (h : isM a) : a = 0 ∨ a = 1 ∨ a = 2 ∨ a = 3 := by unfold isM at h; omega
abbrev fitsC : List Value := [.bool true, .bool true, .bool true, .bool false, .bool true, .bool true, .bool false, .bool false, .bool true, .bool false, .bool true, .bool false, .bool false, .bool false, .bool false, .bool false]
theorem fits_at {a b : Int} (ha : isM a) (hb : isM b) : ((fitsC.drop (a.toNat * 4)).take 4)[b.toNat]? = some (.bool (fitsL a b)) := by
  rcases isM_cases ha with rfl | rfl | rfl | rfl <;> rcases isM_cases hb with rfl | rfl | rfl | rfl <;> rfl
theorem fits_no {a b : Int} (h : ¬ (isM a ∧ isM b)) : fitsL a b = false := decide_eq_false fun k => h ⟨k.1, k.2.1⟩
attribute [local irreducible] Cfg Kont StepK Val Con Qops Any Sl Own Blk BlkR Rd Pu ExA AllA Has Pick Ent Elem Beside Callable TI Lone OwnO AndA
set_option maxRecDepth 100000 in
theorem Fits_con (a b : Int) : Con Try.prog 32 [.int .i64 a, .int .i64 b] [] (γ := Unit) (fun _ => .bool (fitsL a b)) (fun _ => True) (fun _ => []) := by
  refine con_of Try.func32 rfl (dd rfl) fun w0 O0 => ?_
  refine c_seq ?_
  refine c_region ?_
  refine o_val (v_assign rfl) (dd rfl) ?_
  refine o_nil ?_
  refine c_seq ?_
  refine c_region ?_
  refine o_val (v_move rfl) (dd rfl) ?_
  refine o_step (s_callf_keep cl58 (mode_con _) rfl (dd rfl) (rX (by repeat constructor)) (fun _ => sX) (fun _ _ => ?_))
  refine o_val (v_move rfl) (dd rfl) ?_
  refine o_guard_t rfl rfl (fun ha => ?_) (fun ha => ?_)
  · have ha' : 0 ≤ a ∧ a ≤ 3 := ha
    refine o_val (v_move rfl) (dd rfl) ?_
    refine o_on rfl rfl ?_
    refine o_step (s_callf_keep cl58 (mode_con _) rfl (dd rfl) (rX (by repeat constructor)) (fun _ => sX) (fun _ _ => ?_))
    refine o_val (v_pick_t rfl rfl) (dd rfl) ?_
    refine o_val (v_move rfl) (dd rfl) ?_
    refine o_guard_t rfl rfl (fun hb => ?_) (fun hb => ?_)
    · have hb' : 0 ≤ b ∧ b ≤ 3 := hb
      skip
      refine o_step (s_callf_keep cl59 (fits_con) rfl (dd rfl) (rX (by repeat constructor)) (fun _ => sX) (fun _ _ => ?_))
      refine o_on rfl rfl ?_
      refine o_val (v_move rfl) (dd rfl) ?_
      refine o_on rfl rfl ?_
      refine o_val (v_index_agg (cs := fitsC) Try.underlying120 Try.underlying119 ti119 rfl rfl (by omega)) (dd rfl) ?_
      refine o_on rfl rfl ?_
      refine o_val (v_move rfl) (dd rfl) ?_
      refine o_on rfl rfl ?_
      refine o_val (v_index_bool (v := .bool (fitsL a b)) Try.underlying119 Try.underlying4 ti4 rfl rfl (by omega) (fits_at ha hb)) (dd rfl) ?_
      refine o_val (v_pick_t rfl rfl) (dd rfl) ?_
      refine o_val (v_assign rfl) (dd rfl) ?_
      refine o_nil ?_
      refine c_ret1 Try.func32 rfl rfl fun w O hS => ?_
      exact ⟨(), rfl, trivial, trivial⟩
    · refine o_off rfl rfl rfl (dd rfl) ?_
      refine o_off rfl rfl rfl (dd rfl) ?_
      refine o_off rfl rfl rfl (dd rfl) ?_
      refine o_off rfl rfl rfl (dd rfl) ?_
      refine o_off rfl rfl rfl (dd rfl) ?_
      refine o_val (v_pick_f rfl rfl) (dd rfl) ?_
      refine o_val (v_assign rfl) (dd rfl) ?_
      refine o_nil ?_
      refine c_ret1 Try.func32 rfl rfl fun w O hS => ?_
      exact ⟨(), by rw [fits_no fun k => hb k.2], trivial, trivial⟩
  · refine o_off rfl rfl rfl (dd rfl) ?_
    refine o_off rfl rfl rfl (dd rfl) ?_
    refine o_val (v_pick_f rfl rfl) (dd rfl) ?_
    refine o_val (v_move rfl) (dd rfl) ?_
    refine o_off rfl rfl rfl (dd rfl) ?_
    refine o_off rfl rfl rfl (dd rfl) ?_
    refine o_off rfl rfl rfl (dd rfl) ?_
    refine o_off rfl rfl rfl (dd rfl) ?_
    refine o_off rfl rfl rfl (dd rfl) ?_
    refine o_val (v_pick_f rfl rfl) (dd rfl) ?_
    refine o_val (v_assign rfl) (dd rfl) ?_
    refine o_nil ?_
    refine c_ret1 Try.func32 rfl rfl fun w O hS => ?_
    exact ⟨(), by rw [fits_no fun k => ha k.1], trivial, trivial⟩
set_option maxRecDepth 100000 in
theorem Both_con (a b : Int) : Con Try.prog 30 [.int .i64 a, .int .i64 b] [] (γ := Unit) (fun _ => .int .i64 (bothL a b)) (fun _ => True) (fun _ => []) := by
  refine con_of Try.func30 rfl (dd rfl) fun w0 O0 => ?_
  refine c_seq ?_
  refine c_region ?_
  refine o_val (v_assign rfl) (dd rfl) ?_
  refine o_nil ?_
  refine c_seq ?_
  refine c_block ?_
  refine c_seq ?_
  refine c_env (env' := [(0, _), (1, _), (4, _)]) (by repeat (first | exact trivial | refine ⟨rfl, ?_⟩)) ?_
  refine c_joinb (d := 5) (decide (¬ (isM a ∧ isM b))) ?_ ?_
  rotate_left
  · intro J
    refine c_region ?_
    refine o_val (v_move rfl) (dd rfl) ?_
    refine o_step (s_callf_keep cl58 (mode_con _) rfl (dd rfl) (rX (by repeat constructor)) (fun _ => sX) (fun _ _ => ?_))
    refine o_val (v_not rfl) (dd rfl) ?_
    refine o_val (v_move rfl) (dd rfl) ?_
    first | refine o_guard_f rfl rfl (fun g9 => ?_) (fun g9 => ?_) | refine o_guard rfl rfl (fun g9 => ?_) (fun g9 => ?_)
    · refine o_val (v_move rfl) (dd rfl) ?_
      refine o_on rfl rfl ?_
      refine o_step (s_callf_keep cl58 (mode_con _) rfl (dd rfl) (rX (by repeat constructor)) (fun _ => sX) (fun _ _ => ?_))
      refine o_on rfl rfl ?_
      refine o_val (v_not rfl) (dd rfl) ?_
      refine o_val (v_pick_f rfl rfl) (dd rfl) ?_
      refine o_val (v_assign rfl) (dd rfl) ?_
      refine o_nil ?_
      exact c_use J ⟨Env.as rfl (congrArg Value.bool (by first | rfl | (simp_all; done) | (simp_all; omega) | (simp; omega))), (by repeat (first | exact trivial | refine ⟨rfl, ?_⟩))⟩ (by first | exact Ent.refl _ | exact eX (by repeat constructor))
    · refine o_off rfl rfl rfl (dd rfl) ?_
      refine o_off rfl rfl rfl (dd rfl) ?_
      refine o_off rfl rfl rfl (dd rfl) ?_
      refine o_val (v_pick_t rfl rfl) (dd rfl) ?_
      refine o_val (v_assign rfl) (dd rfl) ?_
      refine o_nil ?_
      exact c_use J ⟨Env.as rfl (congrArg Value.bool (by first | rfl | (simp_all; done) | (simp_all; omega) | (simp; omega))), (by repeat (first | exact trivial | refine ⟨rfl, ?_⟩))⟩ (by first | exact Ent.refl _ | exact eX (by repeat constructor))
  refine c_cond_p rfl (fun h1 => ?_) (fun h1 => ?_)
  · refine c_seq ?_
    refine c_region ?_
    refine o_val (v_assign rfl) (dd rfl) ?_
    refine o_nil ?_
    refine c_ret1 Try.func30 rfl rfl fun w O hS => ?_
    exact ⟨(), by unfold bothL; rw [if_pos h1], trivial, trivial⟩
  · refine c_seq ?_
    have h1' : isM a ∧ isM b := Classical.not_not.1 h1
    refine c_env (env' := [(0, _), (1, _), (4, _)]) (by repeat (first | exact trivial | refine ⟨rfl, ?_⟩)) ?_
    refine c_joinb (d := 14) (decide (a = b ∨ a = 0)) ?_ ?_
    rotate_left
    · intro J
      refine c_region ?_
      refine o_val (v_move rfl) (dd rfl) ?_
      refine o_val (v_move rfl) (dd rfl) ?_
      refine o_val (v_eq rfl rfl) (dd rfl) ?_
      refine o_val (v_move rfl) (dd rfl) ?_
      first | refine o_guard_f rfl rfl (fun g18 => ?_) (fun g18 => ?_) | refine o_guard rfl rfl (fun g18 => ?_) (fun g18 => ?_)
      · refine o_val (v_move rfl) (dd rfl) ?_
        refine o_on rfl rfl ?_
        refine o_val (v_eq rfl rfl) (dd rfl) ?_
        refine o_val (v_pick_f rfl rfl) (dd rfl) ?_
        refine o_val (v_assign rfl) (dd rfl) ?_
        refine o_nil ?_
        exact c_use J ⟨Env.as rfl (congrArg Value.bool (by first | rfl | (simp_all; done) | (simp_all; omega) | (simp; omega))), (by repeat (first | exact trivial | refine ⟨rfl, ?_⟩))⟩ (by first | exact Ent.refl _ | exact eX (by repeat constructor))
      · refine o_off rfl rfl rfl (dd rfl) ?_
        refine o_off rfl rfl rfl (dd rfl) ?_
        refine o_val (v_pick_t rfl rfl) (dd rfl) ?_
        refine o_val (v_assign rfl) (dd rfl) ?_
        refine o_nil ?_
        exact c_use J ⟨Env.as rfl (congrArg Value.bool (by first | rfl | (simp_all; done) | (simp_all; omega) | (simp; omega))), (by repeat (first | exact trivial | refine ⟨rfl, ?_⟩))⟩ (by first | exact Ent.refl _ | exact eX (by repeat constructor))
    refine c_cond_p rfl (fun h2 => ?_) (fun h2 => ?_)
    · refine c_seq ?_
      refine c_region ?_
      refine o_val (v_move rfl) (dd rfl) ?_
      refine o_val (v_assign rfl) (dd rfl) ?_
      refine o_nil ?_
      refine c_ret1 Try.func30 rfl rfl fun w O hS => ?_
      exact ⟨(), by unfold bothL; rw [if_neg h1, if_pos h2], trivial, trivial⟩
    · refine c_seq ?_
      refine c_region ?_
      refine o_val (v_move rfl) (dd rfl) ?_
      refine o_val (v_eq rfl rfl) (dd rfl) ?_
      refine o_val (v_assign rfl) (dd rfl) ?_
      refine o_nil ?_
      refine c_cond_p rfl (fun h3 => ?_) (fun h3 => ?_)
      · refine c_seq ?_
        refine c_region ?_
        refine o_val (v_move rfl) (dd rfl) ?_
        refine o_val (v_assign rfl) (dd rfl) ?_
        refine o_nil ?_
        refine c_ret1 Try.func30 rfl rfl fun w O hS => ?_
        exact ⟨(), by unfold bothL; rw [if_neg h1, if_neg h2, if_pos h3], trivial, trivial⟩
      · refine c_skip ?_
        refine c_inBlock ?_
        refine c_seq ?_
        refine c_region ?_
        refine o_val (v_assign rfl) (dd rfl) ?_
        refine o_nil ?_
        refine c_ret1 Try.func30 rfl rfl fun w O hS => ?_
        exact ⟨(), by unfold bothL; rw [if_neg h1, if_neg h2, if_neg h3], trivial, trivial⟩
set_option maxRecDepth 100000 in
theorem refFits_con (a b : Int) : Con Try.prog 33 [.int .i64 a, .int .i64 b] [] (γ := Unit) (fun _ => .bool (fitsL a b)) (fun _ => True) (fun _ => []) := by
  refine con_of Try.func33 rfl (dd rfl) fun w0 O0 => ?_
  refine c_seq ?_
  refine c_region ?_
  refine o_val (v_assign rfl) (dd rfl) ?_
  refine o_nil ?_
  refine c_seq ?_
  refine c_seq ?_
  refine c_env (env' := [(0, _), (1, _), (4, _)]) (by repeat (first | exact trivial | refine ⟨rfl, ?_⟩)) ?_
  refine c_joinb (d := 26) (decide (¬ (isM a ∧ isM b ∧ a ≠ 3 ∧ b ≠ 3))) ?_ ?_
  rotate_left
  · intro J
    refine c_region ?_
    refine o_val (v_move rfl) (dd rfl) ?_
    refine o_val (v_lt rfl rfl) (dd rfl) ?_
    refine o_val (v_move rfl) (dd rfl) ?_
    first | refine o_guard_f rfl rfl (fun g7 => ?_) (fun g7 => ?_) | refine o_guard rfl rfl (fun g7 => ?_) (fun g7 => ?_)
    · refine o_val (v_move rfl) (dd rfl) ?_
      refine o_on rfl rfl ?_
      refine o_val (v_gt rfl rfl) (dd rfl) ?_
      refine o_val (v_pick_f rfl rfl) (dd rfl) ?_
      refine o_val (v_move rfl) (dd rfl) ?_
      first | refine o_guard_f rfl rfl (fun g11 => ?_) (fun g11 => ?_) | refine o_guard rfl rfl (fun g11 => ?_) (fun g11 => ?_)
      · refine o_val (v_move rfl) (dd rfl) ?_
        refine o_on rfl rfl ?_
        refine o_val (v_lt rfl rfl) (dd rfl) ?_
        refine o_val (v_pick_f rfl rfl) (dd rfl) ?_
        refine o_val (v_move rfl) (dd rfl) ?_
        first | refine o_guard_f rfl rfl (fun g15 => ?_) (fun g15 => ?_) | refine o_guard rfl rfl (fun g15 => ?_) (fun g15 => ?_)
        · refine o_val (v_move rfl) (dd rfl) ?_
          refine o_on rfl rfl ?_
          refine o_val (v_gt rfl rfl) (dd rfl) ?_
          refine o_val (v_pick_f rfl rfl) (dd rfl) ?_
          refine o_val (v_move rfl) (dd rfl) ?_
          first | refine o_guard_f rfl rfl (fun g19 => ?_) (fun g19 => ?_) | refine o_guard rfl rfl (fun g19 => ?_) (fun g19 => ?_)
          · refine o_val (v_move rfl) (dd rfl) ?_
            refine o_on rfl rfl ?_
            refine o_val (v_eq rfl rfl) (dd rfl) ?_
            refine o_val (v_pick_f rfl rfl) (dd rfl) ?_
            refine o_val (v_move rfl) (dd rfl) ?_
            first | refine o_guard_f rfl rfl (fun g23 => ?_) (fun g23 => ?_) | refine o_guard rfl rfl (fun g23 => ?_) (fun g23 => ?_)
            · refine o_val (v_move rfl) (dd rfl) ?_
              refine o_on rfl rfl ?_
              refine o_val (v_eq rfl rfl) (dd rfl) ?_
              refine o_val (v_pick_f rfl rfl) (dd rfl) ?_
              refine o_nil ?_
              exact c_use J ⟨Env.as rfl (congrArg Value.bool (by unfold isM; first | (simp; omega) | (simp_all; done) | (simp_all; omega))), (by repeat (first | exact trivial | refine ⟨rfl, ?_⟩))⟩ (by first | exact Ent.refl _ | exact eX (by repeat constructor))
            · refine o_off rfl rfl rfl (dd rfl) ?_
              refine o_off rfl rfl rfl (dd rfl) ?_
              refine o_val (v_pick_t rfl rfl) (dd rfl) ?_
              refine o_nil ?_
              exact c_use J ⟨Env.as rfl (congrArg Value.bool (by unfold isM; first | (simp; omega) | (simp_all; done) | (simp_all; omega))), (by repeat (first | exact trivial | refine ⟨rfl, ?_⟩))⟩ (by first | exact Ent.refl _ | exact eX (by repeat constructor))
          · refine o_off rfl rfl rfl (dd rfl) ?_
            refine o_off rfl rfl rfl (dd rfl) ?_
            refine o_val (v_pick_t rfl rfl) (dd rfl) ?_
            refine o_val (v_move rfl) (dd rfl) ?_
            refine o_off rfl rfl rfl (dd rfl) ?_
            refine o_off rfl rfl rfl (dd rfl) ?_
            refine o_val (v_pick_t rfl rfl) (dd rfl) ?_
            refine o_nil ?_
            exact c_use J ⟨Env.as rfl (congrArg Value.bool (by unfold isM; first | (simp; omega) | (simp_all; done) | (simp_all; omega))), (by repeat (first | exact trivial | refine ⟨rfl, ?_⟩))⟩ (by first | exact Ent.refl _ | exact eX (by repeat constructor))
        · refine o_off rfl rfl rfl (dd rfl) ?_
          refine o_off rfl rfl rfl (dd rfl) ?_
          refine o_val (v_pick_t rfl rfl) (dd rfl) ?_
          refine o_val (v_move rfl) (dd rfl) ?_
          refine o_off rfl rfl rfl (dd rfl) ?_
          refine o_off rfl rfl rfl (dd rfl) ?_
          refine o_val (v_pick_t rfl rfl) (dd rfl) ?_
          refine o_val (v_move rfl) (dd rfl) ?_
          refine o_off rfl rfl rfl (dd rfl) ?_
          refine o_off rfl rfl rfl (dd rfl) ?_
          refine o_val (v_pick_t rfl rfl) (dd rfl) ?_
          refine o_nil ?_
          exact c_use J ⟨Env.as rfl (congrArg Value.bool (by unfold isM; first | (simp; omega) | (simp_all; done) | (simp_all; omega))), (by repeat (first | exact trivial | refine ⟨rfl, ?_⟩))⟩ (by first | exact Ent.refl _ | exact eX (by repeat constructor))
      · refine o_off rfl rfl rfl (dd rfl) ?_
        refine o_off rfl rfl rfl (dd rfl) ?_
        refine o_val (v_pick_t rfl rfl) (dd rfl) ?_
        refine o_val (v_move rfl) (dd rfl) ?_
        refine o_off rfl rfl rfl (dd rfl) ?_
        refine o_off rfl rfl rfl (dd rfl) ?_
        refine o_val (v_pick_t rfl rfl) (dd rfl) ?_
        refine o_val (v_move rfl) (dd rfl) ?_
        refine o_off rfl rfl rfl (dd rfl) ?_
        refine o_off rfl rfl rfl (dd rfl) ?_
        refine o_val (v_pick_t rfl rfl) (dd rfl) ?_
        refine o_val (v_move rfl) (dd rfl) ?_
        refine o_off rfl rfl rfl (dd rfl) ?_
        refine o_off rfl rfl rfl (dd rfl) ?_
        refine o_val (v_pick_t rfl rfl) (dd rfl) ?_
        refine o_nil ?_
        exact c_use J ⟨Env.as rfl (congrArg Value.bool (by unfold isM; first | (simp; omega) | (simp_all; done) | (simp_all; omega))), (by repeat (first | exact trivial | refine ⟨rfl, ?_⟩))⟩ (by first | exact Ent.refl _ | exact eX (by repeat constructor))
    · refine o_off rfl rfl rfl (dd rfl) ?_
      refine o_off rfl rfl rfl (dd rfl) ?_
      refine o_val (v_pick_t rfl rfl) (dd rfl) ?_
      refine o_val (v_move rfl) (dd rfl) ?_
      refine o_off rfl rfl rfl (dd rfl) ?_
      refine o_off rfl rfl rfl (dd rfl) ?_
      refine o_val (v_pick_t rfl rfl) (dd rfl) ?_
      refine o_val (v_move rfl) (dd rfl) ?_
      refine o_off rfl rfl rfl (dd rfl) ?_
      refine o_off rfl rfl rfl (dd rfl) ?_
      refine o_val (v_pick_t rfl rfl) (dd rfl) ?_
      refine o_val (v_move rfl) (dd rfl) ?_
      refine o_off rfl rfl rfl (dd rfl) ?_
      refine o_off rfl rfl rfl (dd rfl) ?_
      refine o_val (v_pick_t rfl rfl) (dd rfl) ?_
      refine o_val (v_move rfl) (dd rfl) ?_
      refine o_off rfl rfl rfl (dd rfl) ?_
      refine o_off rfl rfl rfl (dd rfl) ?_
      refine o_val (v_pick_t rfl rfl) (dd rfl) ?_
      refine o_nil ?_
      exact c_use J ⟨Env.as rfl (congrArg Value.bool (by unfold isM; first | (simp; omega) | (simp_all; done) | (simp_all; omega))), (by repeat (first | exact trivial | refine ⟨rfl, ?_⟩))⟩ (by first | exact Ent.refl _ | exact eX (by repeat constructor))
  refine c_cond_p rfl (fun h1 => ?_) (fun h1 => ?_)
  · refine c_seq ?_
    refine c_region ?_
    refine o_val (v_assign rfl) (dd rfl) ?_
    refine o_nil ?_
    refine c_ret1 Try.func33 rfl rfl fun w O hS => ?_
    exact ⟨(), congrArg Value.bool (decide_eq_false fun k => h1 ⟨k.1, k.2.1, k.2.2.1, k.2.2.2.1⟩).symm, trivial, trivial⟩
  · have h1' : isM a ∧ isM b ∧ a ≠ 3 ∧ b ≠ 3 := Classical.not_not.1 h1
    obtain ⟨m1, m2, m3, m4⟩ := h1'
    refine c_skip ?_
    refine c_seq ?_
    refine c_region ?_
    refine o_val (v_move rfl) (dd rfl) ?_
    refine o_val (v_eq rfl rfl) (dd rfl) ?_
    refine o_val (v_move rfl) (dd rfl) ?_
    refine o_guard_f rfl rfl (fun g1 => ?_) (fun g1 => ?_)
    · refine o_val (v_move rfl) (dd rfl) ?_
      refine o_on rfl rfl ?_
      refine o_val (v_eq rfl rfl) (dd rfl) ?_
      refine o_val (v_pick_f rfl rfl) (dd rfl) ?_
      refine o_val (v_move rfl) (dd rfl) ?_
      refine o_guard_f rfl rfl (fun g2 => ?_) (fun g2 => ?_)
      · refine o_val (v_move rfl) (dd rfl) ?_
        refine o_on rfl rfl ?_
        refine o_val (v_move rfl) (dd rfl) ?_
        refine o_on rfl rfl ?_
        refine o_val (v_eq rfl rfl) (dd rfl) ?_
        refine o_val (v_pick_f rfl rfl) (dd rfl) ?_
        refine o_val (v_assign rfl) (dd rfl) ?_
        refine o_nil ?_
        refine c_ret1 Try.func33 rfl rfl fun w O hS => ?_
        exact ⟨(), congrArg Value.bool (decide_eq_decide.2 ⟨fun h => ⟨m1, m2, m3, m4, .inr (.inr h)⟩, fun k => (k.2.2.2.2.resolve_left g1).resolve_left g2⟩), trivial, trivial⟩
      · refine o_off rfl rfl rfl (dd rfl) ?_
        refine o_off rfl rfl rfl (dd rfl) ?_
        refine o_off rfl rfl rfl (dd rfl) ?_
        refine o_val (v_pick_t rfl rfl) (dd rfl) ?_
        refine o_val (v_assign rfl) (dd rfl) ?_
        refine o_nil ?_
        refine c_ret1 Try.func33 rfl rfl fun w O hS => ?_
        exact ⟨(), congrArg Value.bool (decide_eq_true ⟨m1, m2, m3, m4, .inr (.inl g2)⟩).symm, trivial, trivial⟩
    · refine o_off rfl rfl rfl (dd rfl) ?_
      refine o_off rfl rfl rfl (dd rfl) ?_
      refine o_val (v_pick_t rfl rfl) (dd rfl) ?_
      refine o_val (v_move rfl) (dd rfl) ?_
      refine o_off rfl rfl rfl (dd rfl) ?_
      refine o_off rfl rfl rfl (dd rfl) ?_
      refine o_off rfl rfl rfl (dd rfl) ?_
      refine o_val (v_pick_t rfl rfl) (dd rfl) ?_
      refine o_val (v_assign rfl) (dd rfl) ?_
      refine o_nil ?_
      refine c_ret1 Try.func33 rfl rfl fun w O hS => ?_
      exact ⟨(), congrArg Value.bool (decide_eq_true ⟨m1, m2, m3, m4, .inl g1⟩).symm, trivial, trivial⟩
set_option maxRecDepth 100000 in
theorem refBoth_con (a b : Int) : Con Try.prog 34 [.int .i64 a, .int .i64 b] [] (γ := Unit) (fun _ => .int .i64 (bothL a b)) (fun _ => True) (fun _ => []) := by
  refine con_of Try.func34 rfl (dd rfl) fun w0 O0 => ?_
  refine c_seq ?_
  refine c_region ?_
  refine o_val (v_assign rfl) (dd rfl) ?_
  refine o_nil ?_
  refine c_seq ?_
  refine c_seq ?_
  refine c_env (env' := [(0, _), (1, _), (4, _)]) (by repeat (first | exact trivial | refine ⟨rfl, ?_⟩)) ?_
  refine c_joinb (d := 18) (decide (¬ (isM a ∧ isM b))) ?_ ?_
  rotate_left
  · intro J
    refine c_region ?_
    refine o_val (v_move rfl) (dd rfl) ?_
    refine o_val (v_lt rfl rfl) (dd rfl) ?_
    refine o_val (v_move rfl) (dd rfl) ?_
    first | refine o_guard_f rfl rfl (fun g7 => ?_) (fun g7 => ?_) | refine o_guard rfl rfl (fun g7 => ?_) (fun g7 => ?_)
    · refine o_val (v_move rfl) (dd rfl) ?_
      refine o_on rfl rfl ?_
      refine o_val (v_gt rfl rfl) (dd rfl) ?_
      refine o_val (v_pick_f rfl rfl) (dd rfl) ?_
      refine o_val (v_move rfl) (dd rfl) ?_
      first | refine o_guard_f rfl rfl (fun g11 => ?_) (fun g11 => ?_) | refine o_guard rfl rfl (fun g11 => ?_) (fun g11 => ?_)
      · refine o_val (v_move rfl) (dd rfl) ?_
        refine o_on rfl rfl ?_
        refine o_val (v_lt rfl rfl) (dd rfl) ?_
        refine o_val (v_pick_f rfl rfl) (dd rfl) ?_
        refine o_val (v_move rfl) (dd rfl) ?_
        first | refine o_guard_f rfl rfl (fun g15 => ?_) (fun g15 => ?_) | refine o_guard rfl rfl (fun g15 => ?_) (fun g15 => ?_)
        · refine o_val (v_move rfl) (dd rfl) ?_
          refine o_on rfl rfl ?_
          refine o_val (v_gt rfl rfl) (dd rfl) ?_
          refine o_val (v_pick_f rfl rfl) (dd rfl) ?_
          refine o_nil ?_
          exact c_use J ⟨Env.as rfl (congrArg Value.bool (by unfold isM; first | (simp; omega) | (simp_all; done) | (simp_all; omega))), (by repeat (first | exact trivial | refine ⟨rfl, ?_⟩))⟩ (by first | exact Ent.refl _ | exact eX (by repeat constructor))
        · refine o_off rfl rfl rfl (dd rfl) ?_
          refine o_off rfl rfl rfl (dd rfl) ?_
          refine o_val (v_pick_t rfl rfl) (dd rfl) ?_
          refine o_nil ?_
          exact c_use J ⟨Env.as rfl (congrArg Value.bool (by unfold isM; first | (simp; omega) | (simp_all; done) | (simp_all; omega))), (by repeat (first | exact trivial | refine ⟨rfl, ?_⟩))⟩ (by first | exact Ent.refl _ | exact eX (by repeat constructor))
      · refine o_off rfl rfl rfl (dd rfl) ?_
        refine o_off rfl rfl rfl (dd rfl) ?_
        refine o_val (v_pick_t rfl rfl) (dd rfl) ?_
        refine o_val (v_move rfl) (dd rfl) ?_
        refine o_off rfl rfl rfl (dd rfl) ?_
        refine o_off rfl rfl rfl (dd rfl) ?_
        refine o_val (v_pick_t rfl rfl) (dd rfl) ?_
        refine o_nil ?_
        exact c_use J ⟨Env.as rfl (congrArg Value.bool (by unfold isM; first | (simp; omega) | (simp_all; done) | (simp_all; omega))), (by repeat (first | exact trivial | refine ⟨rfl, ?_⟩))⟩ (by first | exact Ent.refl _ | exact eX (by repeat constructor))
    · refine o_off rfl rfl rfl (dd rfl) ?_
      refine o_off rfl rfl rfl (dd rfl) ?_
      refine o_val (v_pick_t rfl rfl) (dd rfl) ?_
      refine o_val (v_move rfl) (dd rfl) ?_
      refine o_off rfl rfl rfl (dd rfl) ?_
      refine o_off rfl rfl rfl (dd rfl) ?_
      refine o_val (v_pick_t rfl rfl) (dd rfl) ?_
      refine o_val (v_move rfl) (dd rfl) ?_
      refine o_off rfl rfl rfl (dd rfl) ?_
      refine o_off rfl rfl rfl (dd rfl) ?_
      refine o_val (v_pick_t rfl rfl) (dd rfl) ?_
      refine o_nil ?_
      exact c_use J ⟨Env.as rfl (congrArg Value.bool (by unfold isM; first | (simp; omega) | (simp_all; done) | (simp_all; omega))), (by repeat (first | exact trivial | refine ⟨rfl, ?_⟩))⟩ (by first | exact Ent.refl _ | exact eX (by repeat constructor))
  refine c_cond_p rfl (fun h1 => ?_) (fun h1 => ?_)
  · refine c_seq ?_
    refine c_region ?_
    refine o_val (v_assign rfl) (dd rfl) ?_
    refine o_nil ?_
    refine c_ret1 Try.func34 rfl rfl fun w O hS => ?_
    exact ⟨(), by unfold bothL; rw [if_pos h1], trivial, trivial⟩
  · refine c_skip ?_
    refine c_seq ?_
    refine c_seq ?_
    have h1' : isM a ∧ isM b := Classical.not_not.1 h1
    refine c_env (env' := [(0, _), (1, _), (4, _)]) (by repeat (first | exact trivial | refine ⟨rfl, ?_⟩)) ?_
    refine c_joinb (d := 25) (decide (a = b ∨ b = 0)) ?_ ?_
    rotate_left
    · intro J
      refine c_region ?_
      refine o_val (v_move rfl) (dd rfl) ?_
      refine o_val (v_move rfl) (dd rfl) ?_
      refine o_val (v_eq rfl rfl) (dd rfl) ?_
      refine o_val (v_move rfl) (dd rfl) ?_
      first | refine o_guard_f rfl rfl (fun g22 => ?_) (fun g22 => ?_) | refine o_guard rfl rfl (fun g22 => ?_) (fun g22 => ?_)
      · refine o_val (v_move rfl) (dd rfl) ?_
        refine o_on rfl rfl ?_
        refine o_val (v_eq rfl rfl) (dd rfl) ?_
        refine o_val (v_pick_f rfl rfl) (dd rfl) ?_
        refine o_nil ?_
        exact c_use J ⟨Env.as rfl (congrArg Value.bool (by first | rfl | (simp_all; done) | (simp_all; omega) | (simp; omega))), (by repeat (first | exact trivial | refine ⟨rfl, ?_⟩))⟩ (by first | exact Ent.refl _ | exact eX (by repeat constructor))
      · refine o_off rfl rfl rfl (dd rfl) ?_
        refine o_off rfl rfl rfl (dd rfl) ?_
        refine o_val (v_pick_t rfl rfl) (dd rfl) ?_
        refine o_nil ?_
        exact c_use J ⟨Env.as rfl (congrArg Value.bool (by first | rfl | (simp_all; done) | (simp_all; omega) | (simp; omega))), (by repeat (first | exact trivial | refine ⟨rfl, ?_⟩))⟩ (by first | exact Ent.refl _ | exact eX (by repeat constructor))
    refine c_cond_p rfl (fun h2 => ?_) (fun h2 => ?_)
    · refine c_seq ?_
      refine c_region ?_
      refine o_val (v_move rfl) (dd rfl) ?_
      refine o_val (v_assign rfl) (dd rfl) ?_
      refine o_nil ?_
      refine c_ret1 Try.func34 rfl rfl fun w O hS => ?_
      refine ⟨(), congrArg (Value.int .i64) ?_, trivial, trivial⟩
      unfold bothL
      rw [if_neg h1]
      by_cases h3 : a = b ∨ a = 0
      · rw [if_pos h3]; omega
      · rw [if_neg h3, if_pos (by omega)]
    · refine c_skip ?_
      refine c_seq ?_
      refine c_seq ?_
      refine c_region ?_
      refine o_val (v_move rfl) (dd rfl) ?_
      refine o_val (v_eq rfl rfl) (dd rfl) ?_
      refine o_nil ?_
      refine c_cond_p rfl (fun h3 => ?_) (fun h3 => ?_)
      · refine c_seq ?_
        refine c_region ?_
        refine o_val (v_move rfl) (dd rfl) ?_
        refine o_val (v_assign rfl) (dd rfl) ?_
        refine o_nil ?_
        refine c_ret1 Try.func34 rfl rfl fun w O hS => ?_
        exact ⟨(), by unfold bothL; rw [if_neg h1, if_pos (.inr h3)], trivial, trivial⟩
      · refine c_skip ?_
        refine c_seq ?_
        refine c_region ?_
        refine o_val (v_assign rfl) (dd rfl) ?_
        refine o_nil ?_
        refine c_ret1 Try.func34 rfl rfl fun w O hS => ?_
        exact ⟨(), by unfold bothL; rw [if_neg h1, if_neg (by omega), if_neg (by omega)], trivial, trivial⟩
end Go.Proofs.Ytnamhhmfnokfiaa
namespace Go.Proofs.Ytnamhhmfnokfiaa
open Go Go.SL
/-- Chapter 12: who has, and who waits, in plain words. -/
abbrev Hs := Int × ByteArray × Int
abbrev eHs : Enc Hs := ePair (eInt .i64) (ePair eStr (eInt .i64))
def hasP (o : Int) (n : ByteArray) (x : Hs) : Bool := decide (x.1 = o ∧ x.2.1 = n)
def getR (L : List Hs) (o : Int) (n : ByteArray) : Option Int := (L.find? (hasP o n)).map (·.2.2)
def waitR (W : List Hs) (o : Int) : Option Hs := W.find? fun x => decide (x.1 = o)
def barR (w x : Hs) : Bool := decide (x.2.1 = w.2.1 ∧ x.1 ≠ w.1) && !fitsL x.2.2 w.2.2
def mayR (L : List Hs) (w : Hs) : Bool := L.all fun x => !barR w x
def getsR (L : List Hs) (w : Hs) : List Hs := (L.filter fun x => !hasP w.1 w.2.1 x) ++ [w]
def queueR (W : List Hs) (n : ByteArray) : List Hs := W.filter fun x => decide (x.2.1 = n)
def withoutR (W : List Hs) (o : Int) : List Hs := W.filter fun x => decide (x.1 ≠ o)
theorem find_at {α : Type} {p : α → Bool} {l : List α} {i : Nat} (hi : i < l.length) (h : p l[i] = true) (hb : ∀ (j : Nat) (hj : j < l.length), j < i → p l[j] = false) : l.find? p = some l[i] := by
  rw [List.find?_eq_some_iff_getElem]
  exact ⟨h, i, hi, rfl, fun j hj => by simp [hb j (by omega) hj]⟩
theorem find_no {α : Type} {p : α → Bool} {l : List α} (hb : ∀ (j : Nat) (hj : j < l.length), p l[j] = false) : l.find? p = none := by
  rw [List.find?_eq_none]
  intro x hx
  obtain ⟨j, hj, rfl⟩ := List.mem_iff_getElem.1 hx
  simp [hb j hj]
theorem filtY {α : Type} {q : α → Bool} {l : List α} {k : Nat} (hk : k < l.length) (h : q l[k] = true) : (l.take (k + 1)).filter q = (l.take k).filter q ++ [l[k]] := by
  rw [List.take_succ_eq_append_getElem hk, List.filter_append]; simp [h]
theorem filtN {α : Type} {q : α → Bool} {l : List α} {k : Nat} (hk : k < l.length) (h : q l[k] = false) : (l.take (k + 1)).filter q = (l.take k).filter q := by
  rw [List.take_succ_eq_append_getElem hk, List.filter_append]; simp [h]
theorem hs_rd (w : World) (O : Perm) (z : Hs) : eHs.rd w O [.int .i64 z.1, .string z.2.1, .int .i64 z.2.2] z := ⟨[.int .i64 z.1], [.string z.2.1, .int .i64 z.2.2], rfl, rfl, [.string z.2.1], [.int .i64 z.2.2], rfl, rfl, rfl⟩
attribute [local irreducible] Cfg Kont StepK Val Con Qops Any Sl Own Blk BlkR Rd Pu ExA AllA Has Pick Ent Elem Beside Callable TI Lone OwnO AndA
set_option maxRecDepth 100000 in
theorem get_con (lv wv : Value) (L W : List Hs) (o : Int) (n : ByteArray) (hL : L.length ≤ 1000000) :
    Con Try.prog 64 [.agg #[lv, wv], .int .i64 o, .string n] [Sl eHs lv L, Sl eHs wv W] (γ := Unit) (fun _ => .tuple #[.int .i64 ((getR L o n).getD 0), .bool (getR L o n).isSome]) (fun _ => True) (fun _ => []) := by
  refine con_of Try.func64 rfl (dd rfl) fun w0 O0 => ?_
  refine c_seq ?_
  refine c_region ?_
  refine o_step (s_box rfl (dd rfl) (fun b3 => ?_))
  refine o_val (v_assign rfl) (dd rfl) ?_
  refine o_val (v_assign rfl) (dd rfl) ?_
  refine o_nil ?_
  refine c_seq ?_
  refine c_seq ?_
  refine c_region ?_
  refine o_val (v_assign rfl) (dd rfl) ?_
  refine o_nil ?_
  refine c_block ?_
  refine c_loopR (γ := Nat) [(1, _), (2, _), (3, _), (6, _), (7, _)] (fun i => L.length - i) (fun i => i ≤ L.length ∧ ∀ (j : Nat) (hj : j < L.length), j < i → hasP o n L[j] = false) (fun i => [(8, .int .i64 i)]) (fun _ => [Blk b3 78 [lv, wv], Sl eHs lv L, Sl eHs wv W]) (0) (⟨Nat.zero_le _, fun _ _ h => by omega⟩) (by repeat (first | exact trivial | refine ⟨rfl, ?_⟩)) (eX (by repeat constructor)) ?_
  rintro i ⟨hi, hall⟩ IH
  try dsimp only [List.cons_append, List.nil_append]
  refine c_seq ?_
  refine c_seq ?_
  refine c_region ?_
  refine o_val (v_move rfl) (dd rfl) ?_
  refine o_val (v_fieldAddrC 0 Try.underlying78 rfl ti76 (by decide) rfl) (dd rfl) ?_
  refine o_val (v_load lone76 rfl (hX (by repeat constructor)) rfl) (dd rfl) ?_
  refine o_val ((by first | exact v_len_form Try.underlying76 rfl | exact v_len_sl Try.underlying76 rfl (hX (by repeat constructor)))) (dd rfl) ?_
  refine o_val (v_lt rfl rfl) (dd rfl) ?_
  refine o_nil ?_
  refine c_cond_p rfl (fun hlt => ?_) (fun hlt => ?_)
  · have hi' : i < L.length := by omega
    refine c_skip ?_
    refine c_seq ?_
    refine c_block ?_
    refine c_seq ?_
    refine c_env (env' := [(1, _), (2, _), (3, _), (6, _), (7, _), (8, _), (9, _), (10, _), (11, _), (12, _), (13, _)]) (by repeat (first | exact trivial | refine ⟨rfl, ?_⟩)) ?_
    refine c_joinb (d := 33) (decide ((L[i]'hi').1 = o ∧ (L[i]'hi').2.1 = n)) ?_ ?_
    rotate_left
    · intro J
      refine c_region ?_
      refine o_val (v_fieldAddrC 0 Try.underlying78 rfl ti76 (by decide) rfl) (dd rfl) ?_
      refine o_val (v_load lone76 rfl (hX (by repeat constructor)) rfl) (dd rfl) ?_
      refine o_val (v_move rfl) (dd rfl) ?_
      refine o_val ((by first | exact v_indexAddrN Try.underlying76 ti90 rfl rfl (hX (by repeat constructor)) (by omega) | exact v_indexAddr Try.underlying76 ti90 rfl rfl (hX (by repeat constructor)) (by omega))) (dd rfl) ?_
      refine o_val (v_fieldAddrC 0 Try.underlying90 rfl ti3 (by decide) rfl) (dd rfl) ?_
      refine o_val ((by first | exact v_load_cell lone3 rfl (hX (by repeat constructor)) | exact v_load_fld lone3 rfl (by repeat (first|exact el1 (by omega)|exact el2 (by omega)|exact el3 (by omega)|apply Elem.there)) (by (try apply FldS.map); apply FldS.fst; (try apply FldS.map); first | exact FldS.int _ | exact FldS.str | exact FldS.bool | exact FldS.raw))) (dd rfl) ?_
      refine o_val (v_move rfl) (dd rfl) ?_
      refine o_val (v_eq rfl rfl) (dd rfl) ?_
      refine o_val (v_move rfl) (dd rfl) ?_
      first | refine o_guard_t rfl rfl (fun g24 => ?_) (fun g24 => ?_) | refine o_guard rfl rfl (fun g24 => ?_) (fun g24 => ?_)
      · refine o_val (v_fieldAddrC 0 Try.underlying78 rfl ti76 (by decide) rfl) (dd rfl) ?_
        refine o_on rfl rfl ?_
        refine o_val (v_load lone76 rfl (hX (by repeat constructor)) rfl) (dd rfl) ?_
        refine o_on rfl rfl ?_
        refine o_val (v_move rfl) (dd rfl) ?_
        refine o_on rfl rfl ?_
        refine o_val ((by first | exact v_indexAddrN Try.underlying76 ti90 rfl rfl (hX (by repeat constructor)) (by omega) | exact v_indexAddr Try.underlying76 ti90 rfl rfl (hX (by repeat constructor)) (by omega))) (dd rfl) ?_
        refine o_on rfl rfl ?_
        refine o_val (v_fieldAddrC 1 Try.underlying90 rfl ti9 (by decide) rfl) (dd rfl) ?_
        refine o_on rfl rfl ?_
        refine o_val ((by first | exact v_load_cell lone9 rfl (hX (by repeat constructor)) | exact v_load_fld lone9 rfl (by repeat (first|exact el1 (by omega)|exact el2 (by omega)|exact el3 (by omega)|apply Elem.there)) (by (try apply FldS.map); apply FldS.snd (j := 0) rfl; apply FldS.fst; (try apply FldS.map); first | exact FldS.int _ | exact FldS.str | exact FldS.bool | exact FldS.raw))) (dd rfl) ?_
        refine o_on rfl rfl ?_
        refine o_val (v_move rfl) (dd rfl) ?_
        refine o_on rfl rfl ?_
        refine o_val (v_seq rfl rfl) (dd rfl) ?_
        refine o_val (v_pick_t rfl rfl) (dd rfl) ?_
        refine o_nil ?_
        exact c_use J ⟨Env.as rfl (congrArg Value.bool (by first | rfl | (simp_all; done) | (simp_all; omega) | (simp; omega))), (by repeat (first | exact trivial | refine ⟨rfl, ?_⟩))⟩ (by first | exact Ent.refl _ | exact eX (by repeat constructor))
      · refine o_off rfl rfl rfl (dd rfl) ?_
        refine o_off rfl rfl rfl (dd rfl) ?_
        refine o_off rfl rfl rfl (dd rfl) ?_
        refine o_off rfl rfl rfl (dd rfl) ?_
        refine o_off rfl rfl rfl (dd rfl) ?_
        refine o_off rfl rfl rfl (dd rfl) ?_
        refine o_off rfl rfl rfl (dd rfl) ?_
        refine o_off rfl rfl rfl (dd rfl) ?_
        refine o_val (v_pick_f rfl rfl) (dd rfl) ?_
        refine o_nil ?_
        exact c_use J ⟨Env.as rfl (congrArg Value.bool (by first | rfl | (simp_all; done) | (simp_all; omega) | (simp; omega))), (by repeat (first | exact trivial | refine ⟨rfl, ?_⟩))⟩ (by first | exact Ent.refl _ | exact eX (by repeat constructor))
    refine c_cond_p rfl (fun hh => ?_) (fun hh => ?_)
    · refine c_seq ?_
      refine c_region ?_
      refine o_val (v_fieldAddrC 0 Try.underlying78 rfl ti76 (by decide) rfl) (dd rfl) ?_
      refine o_val (v_load lone76 rfl (hX (by repeat constructor)) rfl) (dd rfl) ?_
      refine o_val (v_move rfl) (dd rfl) ?_
      refine o_val ((by first | exact v_indexAddrN Try.underlying76 ti90 rfl rfl (hX (by repeat constructor)) (by omega) | exact v_indexAddr Try.underlying76 ti90 rfl rfl (hX (by repeat constructor)) (by omega))) (dd rfl) ?_
      refine o_val (v_fieldAddrC 2 Try.underlying90 rfl ti3 (by decide) rfl) (dd rfl) ?_
      refine o_val ((by first | exact v_load_cell lone3 rfl (hX (by repeat constructor)) | exact v_load_fld lone3 rfl (by repeat (first|exact el1 (by omega)|exact el2 (by omega)|exact el3 (by omega)|apply Elem.there)) (by (try apply FldS.map); apply FldS.snd (j := 1) rfl; apply FldS.snd (j := 0) rfl; (try apply FldS.map); first | exact FldS.int _ | exact FldS.str | exact FldS.bool | exact FldS.raw))) (dd rfl) ?_
      refine o_val (v_assign rfl) (dd rfl) ?_
      refine o_val (v_assign rfl) (dd rfl) ?_
      refine o_nil ?_
      refine c_ret2 Try.func64 rfl rfl rfl fun w O hS => ?_
      have hg : getR L o n = some (L[i]'hi').2.2 := by unfold getR; rw [find_at hi' (decide_eq_true hh) hall]; rfl
      exact ⟨(), by rw [hg]; rfl, trivial, trivial⟩
    · refine c_skip ?_
      refine c_inBlock ?_
      refine c_region ?_
      refine o_val (v_move rfl) (dd rfl) ?_
      refine o_val ((by first | exact v_add64 rfl rfl (by omega) | exact v_add rfl rfl)) (dd rfl) ?_
      refine o_val (v_assign rfl) (dd rfl) ?_
      refine o_nil ?_
      refine c_use (IH (i + 1) (by first | omega | (dsimp only; omega)) (⟨by omega, fun j hj hji => (Nat.lt_succ_iff_lt_or_eq.1 hji).elim (hall j hj) fun h => by subst h; exact decide_eq_false hh⟩)) (by repeat (first | exact trivial | refine ⟨rfl, ?_⟩)) (eX (by repeat constructor))
  · refine c_exit rfl ?_
    refine c_seq ?_
    refine c_region ?_
    refine o_val (v_assign rfl) (dd rfl) ?_
    refine o_val (v_assign rfl) (dd rfl) ?_
    refine o_nil ?_
    refine c_ret2 Try.func64 rfl rfl rfl fun w O hS => ?_
    have hg : getR L o n = none := by unfold getR; rw [find_no fun j hj => hall j hj (by omega)]; rfl
    exact ⟨(), by rw [hg]; rfl, trivial, trivial⟩
set_option maxRecDepth 100000 in
theorem queueR_con (lv wv : Value) (L W : List Hs) (n : ByteArray) (hW : W.length ≤ 1000000) :
    Con Try.prog 66 [.agg #[lv, wv], .string n] [Sl eHs lv L, Sl eHs wv W] (γ := Value) (fun r => r) (fun _ => True) (fun r => [Own eHs 90 r (queueR W n)]) := by
  refine con_of Try.func66 rfl (dd rfl) fun w0 O0 => ?_
  refine c_seq ?_
  refine c_region ?_
  refine o_step (s_box rfl (dd rfl) (fun b2 => ?_))
  refine o_val (v_assign rfl) (dd rfl) ?_
  refine o_nil ?_
  refine c_seq ?_
  refine c_region ?_
  refine o_val (v_assign rfl) (dd rfl) ?_
  refine o_nil ?_
  refine c_seq ?_
  refine c_seq ?_
  refine c_region ?_
  refine o_val (v_assign rfl) (dd rfl) ?_
  refine o_nil ?_
  refine c_block ?_
  refine c_ent (Ent.beside (b := Own eHs 90 (.slice none 0 0) ([] : List Hs)) (fun w O _ => Own.nil eHs 90 w _)) ?_
  refine c_loopR (γ := Nat × Value) [(1, _), (2, _), (4, _)] (fun g => W.length - g.1) (fun g => g.1 ≤ W.length) (fun g => [(6, .int .i64 g.1), (5, g.2)]) (fun g => [Own eHs 90 g.2 (queueR (W.take g.1) n), Blk b2 78 [lv, wv], Sl eHs wv W]) ((0, .slice none 0 0)) (Nat.zero_le _) (by repeat (first | exact trivial | refine ⟨rfl, ?_⟩)) (eX (by repeat constructor)) ?_
  rintro ⟨i, u⟩ hi IH
  dsimp only at hi ⊢
  have hql : (queueR (W.take i) n).length ≤ 1000000 := Nat.le_trans (List.length_filter_le _ _) (by simp; omega)
  try dsimp only [List.cons_append, List.nil_append]
  refine c_seq ?_
  refine c_seq ?_
  refine c_region ?_
  refine o_val (v_move rfl) (dd rfl) ?_
  refine o_val (v_fieldAddrC 1 Try.underlying78 rfl ti76 (by decide) rfl) (dd rfl) ?_
  refine o_val (v_load lone76 rfl (hX (by repeat constructor)) rfl) (dd rfl) ?_
  refine o_val ((by first | exact v_len_form Try.underlying76 rfl | exact v_len_sl Try.underlying76 rfl (hX (by repeat constructor)))) (dd rfl) ?_
  refine o_val (v_lt rfl rfl) (dd rfl) ?_
  refine o_nil ?_
  refine c_cond_p rfl (fun hlt => ?_) (fun hlt => ?_)
  · have hi' : i < W.length := by omega
    refine c_skip ?_
    refine c_seq ?_
    refine c_block ?_
    refine c_seq ?_
    refine c_region ?_
    refine o_val (v_fieldAddrC 1 Try.underlying78 rfl ti76 (by decide) rfl) (dd rfl) ?_
    refine o_val (v_load lone76 rfl (hX (by repeat constructor)) rfl) (dd rfl) ?_
    refine o_val (v_move rfl) (dd rfl) ?_
    refine o_val ((by first | exact v_indexAddrN Try.underlying76 ti90 rfl rfl (hX (by repeat constructor)) (by omega) | exact v_indexAddr Try.underlying76 ti90 rfl rfl (hX (by repeat constructor)) (by omega))) (dd rfl) ?_
    refine o_val (v_fieldAddrC 1 Try.underlying90 rfl ti9 (by decide) rfl) (dd rfl) ?_
    refine o_val ((by first | exact v_load_cell lone9 rfl (hX (by repeat constructor)) | exact v_load_fld lone9 rfl (by repeat (first|exact el1 (by omega)|exact el2 (by omega)|exact el3 (by omega)|apply Elem.there)) (by (try apply FldS.map); apply FldS.snd (j := 0) rfl; apply FldS.fst; (try apply FldS.map); first | exact FldS.int _ | exact FldS.str | exact FldS.bool | exact FldS.raw))) (dd rfl) ?_
    refine o_val (v_move rfl) (dd rfl) ?_
    refine o_val (v_seq rfl rfl) (dd rfl) ?_
    refine o_nil ?_
    refine c_cond_p rfl (fun hh => ?_) (fun hh => ?_)
    · refine c_region ?_
      refine o_val (v_move rfl) (dd rfl) ?_
      refine o_val (v_fieldAddrC 1 Try.underlying78 rfl ti76 (by decide) rfl) (dd rfl) ?_
      refine o_val (v_load lone76 rfl (hX (by repeat constructor)) rfl) (dd rfl) ?_
      refine o_val (v_move rfl) (dd rfl) ?_
      refine o_val ((by first | exact v_indexAddrN Try.underlying76 ti90 rfl rfl (hX (by repeat constructor)) (by omega) | exact v_indexAddr Try.underlying76 ti90 rfl rfl (hX (by repeat constructor)) (by omega))) (dd rfl) ?_
      refine o_val (v_load_p (by repeat (first | exact PEnc.int _ | exact PEnc.str | exact PEnc.bool | exact PEnc.byte | exact PEnc.raw | apply PEnc.pair | apply PEnc.map)) ⟨_, Try.underlying90⟩ ti90 rfl (by repeat (first|exact el1 (by omega)|exact el2 (by omega)|exact el3 (by omega)|apply Elem.there))) (dd rfl) ?_
      refine o_step (s_buildSlice Try.underlying76 ti90 rfl rfl rfl (by decide) (by decide) (beside_agg1 (Beside.rd fun w O => hs_rd w O (W[i]'hi'))) rfl rfl (dd rfl) fun v1 => ?_)
      refine o_step (s_append Try.underlying76 ti90 rfl (by decide) rfl rfl (dd rfl) (pB (by repeat constructor)) (pX (by repeat constructor)) rfl (by (first | omega | (simp only [maxLen, List.length_append, List.length_drop, List.length_take, List.length_nil, List.length_cons]; omega))) (by (first | omega | (simp only [maxLen, List.length_append, List.length_drop, List.length_take, List.length_nil, List.length_cons]; omega))) fun v2 => ?_)
      refine o_val (v_assign rfl) (dd rfl) ?_
      refine o_nil ?_
      refine c_inBlock ?_
      refine c_region ?_
      refine o_val (v_move rfl) (dd rfl) ?_
      refine o_val ((by first | exact v_add64 rfl rfl (by omega) | exact v_add rfl rfl)) (dd rfl) ?_
      refine o_val (v_assign rfl) (dd rfl) ?_
      refine o_nil ?_
      refine c_use (IH (i + 1, v2) (by dsimp only; omega) (by dsimp only; omega)) (by repeat (first | exact trivial | refine ⟨rfl, ?_⟩)) ?_
      dsimp only
      rw [show queueR (W.take (i + 1)) n = queueR (W.take i) n ++ [W[i]'hi'] from filtY hi' (decide_eq_true hh)]
      exact (eX (by repeat constructor))
    · refine c_skip ?_
      refine c_inBlock ?_
      refine c_region ?_
      refine o_val (v_move rfl) (dd rfl) ?_
      refine o_val ((by first | exact v_add64 rfl rfl (by omega) | exact v_add rfl rfl)) (dd rfl) ?_
      refine o_val (v_assign rfl) (dd rfl) ?_
      refine o_nil ?_
      refine c_use (IH (i + 1, u) (by dsimp only; omega) (by dsimp only; omega)) (by repeat (first | exact trivial | refine ⟨rfl, ?_⟩)) ?_
      dsimp only
      rw [show queueR (W.take (i + 1)) n = queueR (W.take i) n from filtN hi' (decide_eq_false hh)]
      exact (eX (by repeat constructor))
  · have hie : i = W.length := by omega
    rw [hie, List.take_length]
    refine c_exit rfl ?_
    refine c_seq ?_
    refine c_region ?_
    refine o_val (v_move rfl) (dd rfl) ?_
    refine o_val (v_assign rfl) (dd rfl) ?_
    refine o_nil ?_
    refine c_ret1 Try.func66 rfl rfl fun w O hS => ?_
    exact ⟨u, rfl, trivial, Ent.get hS (eX (by repeat constructor))⟩
set_option maxRecDepth 100000 in
theorem withoutR_con (lv wv : Value) (L W : List Hs) (o : Int) (hW : W.length ≤ 1000000) :
    Con Try.prog 99 [.agg #[lv, wv], .int .i64 o] [Sl eHs lv L, Sl eHs wv W] (γ := Value) (fun r => .agg #[lv, r]) (fun _ => True) (fun r => [Own eHs 90 r (withoutR W o)]) := by
  refine con_of Try.func99 rfl (dd rfl) fun w0 O0 => ?_
  refine c_seq ?_
  refine c_region ?_
  refine o_step (s_box rfl (dd rfl) (fun b2 => ?_))
  refine o_step (s_alloc ti78 (dd rfl) (fun b4 => ?_))
  refine o_nil ?_
  refine c_seq ?_
  refine c_region ?_
  refine o_val (v_assign rfl) (dd rfl) ?_
  refine o_nil ?_
  refine c_seq ?_
  refine c_seq ?_
  refine c_region ?_
  refine o_val (v_assign rfl) (dd rfl) ?_
  refine o_nil ?_
  refine c_block ?_
  refine c_ent (Ent.beside (b := Own eHs 90 (.slice none 0 0) ([] : List Hs)) (fun w O _ => Own.nil eHs 90 w _)) ?_
  refine c_loopR (γ := Nat × Value) [(1, _), (2, _), (4, _)] (fun g => W.length - g.1) (fun g => g.1 ≤ W.length) (fun g => [(6, .int .i64 g.1), (5, g.2)]) (fun g => [Own eHs 90 g.2 (withoutR (W.take g.1) o), Blk b2 78 [lv, wv], Blk b4 78 [.slice none 0 0, .slice none 0 0], Sl eHs lv L, Sl eHs wv W]) ((0, .slice none 0 0)) (Nat.zero_le _) (by repeat (first | exact trivial | refine ⟨rfl, ?_⟩)) (eX (by repeat constructor)) ?_
  rintro ⟨i, u⟩ hi IH
  dsimp only at hi ⊢
  have hql : (withoutR (W.take i) o).length ≤ 1000000 := Nat.le_trans (List.length_filter_le _ _) (by simp; omega)
  try dsimp only [List.cons_append, List.nil_append]
  refine c_seq ?_
  refine c_seq ?_
  refine c_region ?_
  refine o_val (v_move rfl) (dd rfl) ?_
  refine o_val (v_fieldAddrC 1 Try.underlying78 rfl ti76 (by decide) rfl) (dd rfl) ?_
  refine o_val (v_load lone76 rfl (hX (by repeat constructor)) rfl) (dd rfl) ?_
  refine o_val ((by first | exact v_len_form Try.underlying76 rfl | exact v_len_sl Try.underlying76 rfl (hX (by repeat constructor)))) (dd rfl) ?_
  refine o_val (v_lt rfl rfl) (dd rfl) ?_
  refine o_nil ?_
  refine c_cond_p rfl (fun hlt => ?_) (fun hlt => ?_)
  · have hi' : i < W.length := by omega
    refine c_skip ?_
    refine c_seq ?_
    refine c_block ?_
    refine c_seq ?_
    refine c_region ?_
    refine o_val (v_fieldAddrC 1 Try.underlying78 rfl ti76 (by decide) rfl) (dd rfl) ?_
    refine o_val (v_load lone76 rfl (hX (by repeat constructor)) rfl) (dd rfl) ?_
    refine o_val (v_move rfl) (dd rfl) ?_
    refine o_val ((by first | exact v_indexAddrN Try.underlying76 ti90 rfl rfl (hX (by repeat constructor)) (by omega) | exact v_indexAddr Try.underlying76 ti90 rfl rfl (hX (by repeat constructor)) (by omega))) (dd rfl) ?_
    refine o_val (v_fieldAddrC 0 Try.underlying90 rfl ti3 (by decide) rfl) (dd rfl) ?_
    refine o_val ((by first | exact v_load_cell lone3 rfl (hX (by repeat constructor)) | exact v_load_fld lone3 rfl (by repeat (first|exact el1 (by omega)|exact el2 (by omega)|exact el3 (by omega)|apply Elem.there)) (by (try apply FldS.map); apply FldS.fst; (try apply FldS.map); first | exact FldS.int _ | exact FldS.str | exact FldS.bool | exact FldS.raw))) (dd rfl) ?_
    refine o_val (v_move rfl) (dd rfl) ?_
    refine o_val (v_ne rfl rfl) (dd rfl) ?_
    refine o_nil ?_
    refine c_cond_p rfl (fun hh => ?_) (fun hh => ?_)
    · refine c_region ?_
      refine o_val (v_move rfl) (dd rfl) ?_
      refine o_val (v_fieldAddrC 1 Try.underlying78 rfl ti76 (by decide) rfl) (dd rfl) ?_
      refine o_val (v_load lone76 rfl (hX (by repeat constructor)) rfl) (dd rfl) ?_
      refine o_val (v_move rfl) (dd rfl) ?_
      refine o_val ((by first | exact v_indexAddrN Try.underlying76 ti90 rfl rfl (hX (by repeat constructor)) (by omega) | exact v_indexAddr Try.underlying76 ti90 rfl rfl (hX (by repeat constructor)) (by omega))) (dd rfl) ?_
      refine o_val (v_load_p (by repeat (first | exact PEnc.int _ | exact PEnc.str | exact PEnc.bool | exact PEnc.byte | exact PEnc.raw | apply PEnc.pair | apply PEnc.map)) ⟨_, Try.underlying90⟩ ti90 rfl (by repeat (first|exact el1 (by omega)|exact el2 (by omega)|exact el3 (by omega)|apply Elem.there))) (dd rfl) ?_
      refine o_step (s_buildSlice Try.underlying76 ti90 rfl rfl rfl (by decide) (by decide) (beside_agg1 (Beside.rd fun w O => hs_rd w O (W[i]'hi'))) rfl rfl (dd rfl) fun v1 => ?_)
      refine o_step (s_append Try.underlying76 ti90 rfl (by decide) rfl rfl (dd rfl) (pB (by repeat constructor)) (pX (by repeat constructor)) rfl (by (first | omega | (simp only [maxLen, List.length_append, List.length_drop, List.length_take, List.length_nil, List.length_cons]; omega))) (by (first | omega | (simp only [maxLen, List.length_append, List.length_drop, List.length_take, List.length_nil, List.length_cons]; omega))) fun v2 => ?_)
      refine o_val (v_assign rfl) (dd rfl) ?_
      refine o_nil ?_
      refine c_inBlock ?_
      refine c_region ?_
      refine o_val (v_move rfl) (dd rfl) ?_
      refine o_val ((by first | exact v_add64 rfl rfl (by omega) | exact v_add rfl rfl)) (dd rfl) ?_
      refine o_val (v_assign rfl) (dd rfl) ?_
      refine o_nil ?_
      refine c_use (IH (i + 1, v2) (by dsimp only; omega) (by dsimp only; omega)) (by repeat (first | exact trivial | refine ⟨rfl, ?_⟩)) ?_
      dsimp only
      rw [show withoutR (W.take (i + 1)) o = withoutR (W.take i) o ++ [W[i]'hi'] from filtY hi' (decide_eq_true hh)]
      exact (eX (by repeat constructor))
    · refine c_skip ?_
      refine c_inBlock ?_
      refine c_region ?_
      refine o_val (v_move rfl) (dd rfl) ?_
      refine o_val ((by first | exact v_add64 rfl rfl (by omega) | exact v_add rfl rfl)) (dd rfl) ?_
      refine o_val (v_assign rfl) (dd rfl) ?_
      refine o_nil ?_
      refine c_use (IH (i + 1, u) (by dsimp only; omega) (by dsimp only; omega)) (by repeat (first | exact trivial | refine ⟨rfl, ?_⟩)) ?_
      dsimp only
      rw [show withoutR (W.take (i + 1)) o = withoutR (W.take i) o from filtN hi' (decide_eq_false hh)]
      exact (eX (by repeat constructor))
  · have hie : i = W.length := by omega
    rw [hie, List.take_length]
    refine c_exit rfl ?_
    refine c_seq ?_
    refine c_region ?_
    refine o_val (v_move rfl) (dd rfl) ?_
    refine o_val (v_fieldAddrC 1 Try.underlying78 rfl ti76 (by decide) rfl) (dd rfl) ?_
    refine o_step (s_store1 ti76 rfl rfl (by first | exact OneC.lit rfl | exact OneC.sl (hX (by repeat constructor)) ) (pB (by repeat constructor)) (by first | decide | exact Nat.le_of_ble_eq_true rfl | simp) (by first | (dsimp only [List.set_cons_succ, List.set_cons_zero]; first | done | exact rfl) | rfl) (?_))
    refine o_nil ?_
    refine c_seq ?_
    refine c_region ?_
    refine o_val (v_load_all ⟨_, Try.underlying78⟩ ti78 rfl (hX (by repeat constructor)) rfl) (dd rfl) ?_
    refine o_step (s_store_all ti78 rfl rfl (by first | exact CellsV.lit rfl | exact CellsV.one (by first | exact OneC.lit rfl | exact OneC.sl (hX (by repeat constructor)) )) (by repeat (first | exact OneAll.nil | (refine OneAll.cons ?_ ?_; · first | exact OneC.lit rfl | exact OneC.sl (hX (by repeat constructor)) ) | exact OneAll.rd (hX (by repeat constructor)))) rfl (pB (by repeat constructor)) rfl (?_))
    refine o_nil ?_
    refine c_ret_cell Try.func99 rfl ⟨_, Try.underlying78⟩ ti78 rfl (hX (by repeat constructor)) fun w O hS => ?_
    exact ⟨u, rfl, trivial, Ent.get hS (eX (by repeat constructor))⟩
theorem waitR_cases (W : List Hs) (o : Int) : True := trivial
def hsV (x : Hs) : Value := .agg #[.int .i64 x.1, .string x.2.1, .int .i64 x.2.2]
def hs0 : Hs := (0, ByteArray.empty, 0)
set_option maxRecDepth 100000 in
theorem waitR_con (lv wv : Value) (L W : List Hs) (o : Int) (hW : W.length ≤ 1000000) :
    Con Try.prog 65 [.agg #[lv, wv], .int .i64 o] [Sl eHs lv L, Sl eHs wv W] (γ := Unit) (fun _ => .tuple #[hsV ((waitR W o).getD hs0), .bool (waitR W o).isSome]) (fun _ => True) (fun _ => []) := by
  refine con_of Try.func65 rfl (dd rfl) fun w0 O0 => ?_
  refine c_seq ?_
  refine c_region ?_
  refine o_step (s_box rfl (dd rfl) (fun b2 => ?_))
  refine o_step (s_alloc ti90 (dd rfl) (fun b4 => ?_))
  refine o_val (v_assign rfl) (dd rfl) ?_
  refine o_nil ?_
  refine c_seq ?_
  refine c_seq ?_
  refine c_region ?_
  refine o_val (v_assign rfl) (dd rfl) ?_
  refine o_nil ?_
  refine c_block ?_
  refine c_loopR (γ := Nat) [(1, _), (2, _), (4, _), (5, _)] (fun i => W.length - i) (fun i => i ≤ W.length ∧ ∀ (j : Nat) (hj : j < W.length), j < i → decide (W[j].1 = o) = false) (fun i => [(6, .int .i64 i)]) (fun _ => [Blk b2 78 [lv, wv], Blk b4 90 [.int .i64 0, .string ByteArray.empty, .int .i64 0], Sl eHs lv L, Sl eHs wv W]) (0) (⟨Nat.zero_le _, fun _ _ h => by omega⟩) (by repeat (first | exact trivial | refine ⟨rfl, ?_⟩)) (eX (by repeat constructor)) ?_
  rintro i ⟨hi, hall⟩ IH
  try dsimp only [List.cons_append, List.nil_append]
  refine c_seq ?_
  refine c_seq ?_
  refine c_region ?_
  refine o_val (v_move rfl) (dd rfl) ?_
  refine o_val (v_fieldAddrC 1 Try.underlying78 rfl ti76 (by decide) rfl) (dd rfl) ?_
  refine o_val (v_load lone76 rfl (hX (by repeat constructor)) rfl) (dd rfl) ?_
  refine o_val ((by first | exact v_len_form Try.underlying76 rfl | exact v_len_sl Try.underlying76 rfl (hX (by repeat constructor)))) (dd rfl) ?_
  refine o_val (v_lt rfl rfl) (dd rfl) ?_
  refine o_nil ?_
  refine c_cond_p rfl (fun hlt => ?_) (fun hlt => ?_)
  · have hi' : i < W.length := by omega
    refine c_skip ?_
    refine c_seq ?_
    refine c_block ?_
    refine c_seq ?_
    refine c_region ?_
    refine o_val (v_fieldAddrC 1 Try.underlying78 rfl ti76 (by decide) rfl) (dd rfl) ?_
    refine o_val (v_load lone76 rfl (hX (by repeat constructor)) rfl) (dd rfl) ?_
    refine o_val (v_move rfl) (dd rfl) ?_
    refine o_val ((by first | exact v_indexAddrN Try.underlying76 ti90 rfl rfl (hX (by repeat constructor)) (by omega) | exact v_indexAddr Try.underlying76 ti90 rfl rfl (hX (by repeat constructor)) (by omega))) (dd rfl) ?_
    refine o_val (v_fieldAddrC 0 Try.underlying90 rfl ti3 (by decide) rfl) (dd rfl) ?_
    refine o_val ((by first | exact v_load_cell lone3 rfl (hX (by repeat constructor)) | exact v_load_fld lone3 rfl (by repeat (first|exact el1 (by omega)|exact el2 (by omega)|exact el3 (by omega)|apply Elem.there)) (by (try apply FldS.map); apply FldS.fst; (try apply FldS.map); first | exact FldS.int _ | exact FldS.str | exact FldS.bool | exact FldS.raw))) (dd rfl) ?_
    refine o_val (v_move rfl) (dd rfl) ?_
    refine o_val (v_eq rfl rfl) (dd rfl) ?_
    refine o_nil ?_
    refine c_cond_p rfl (fun hh => ?_) (fun hh => ?_)
    · refine c_seq ?_
      refine c_region ?_
      refine o_val (v_fieldAddrC 1 Try.underlying78 rfl ti76 (by decide) rfl) (dd rfl) ?_
      refine o_val (v_load lone76 rfl (hX (by repeat constructor)) rfl) (dd rfl) ?_
      refine o_val (v_move rfl) (dd rfl) ?_
      refine o_val ((by first | exact v_indexAddrN Try.underlying76 ti90 rfl rfl (hX (by repeat constructor)) (by omega) | exact v_indexAddr Try.underlying76 ti90 rfl rfl (hX (by repeat constructor)) (by omega))) (dd rfl) ?_
      refine o_val (v_load_p (by repeat (first | exact PEnc.int _ | exact PEnc.str | exact PEnc.bool | exact PEnc.byte | exact PEnc.raw | apply PEnc.pair | apply PEnc.map)) ⟨_, Try.underlying90⟩ ti90 rfl (by repeat (first|exact el1 (by omega)|exact el2 (by omega)|exact el3 (by omega)|apply Elem.there))) (dd rfl) ?_
      refine o_step (s_store_all ti90 rfl rfl (by first | exact CellsV.lit rfl | exact CellsV.one (by first | exact OneC.lit rfl | exact OneC.sl (hX (by repeat constructor)) )) (by repeat (first | exact OneAll.nil | (refine OneAll.cons ?_ ?_; · first | exact OneC.lit rfl | exact OneC.sl (hX (by repeat constructor)) ) | exact OneAll.rd (hX (by repeat constructor)))) rfl (pB (by repeat constructor)) rfl (?_))
      refine o_val (v_assign rfl) (dd rfl) ?_
      refine o_nil ?_
      refine c_ret_ct Try.func65 rfl ⟨_, Try.underlying90⟩ ti90 rfl rfl (hX (by repeat constructor)) fun w O hS => ?_
      have hg : waitR W o = some (W[i]'hi') := find_at hi' (decide_eq_true hh) hall
      exact ⟨(), by rw [hg]; rfl, trivial, trivial⟩
    · refine c_skip ?_
      refine c_inBlock ?_
      refine c_region ?_
      refine o_val (v_move rfl) (dd rfl) ?_
      refine o_val ((by first | exact v_add64 rfl rfl (by omega) | exact v_add rfl rfl)) (dd rfl) ?_
      refine o_val (v_assign rfl) (dd rfl) ?_
      refine o_nil ?_
      refine c_use (IH (i + 1) (by first | omega | (dsimp only; omega)) (⟨by omega, fun j hj hji => (Nat.lt_succ_iff_lt_or_eq.1 hji).elim (hall j hj) fun h => by subst h; exact decide_eq_false hh⟩)) (by repeat (first | exact trivial | refine ⟨rfl, ?_⟩)) (eX (by repeat constructor))
  · refine c_exit rfl ?_
    refine c_seq ?_
    refine c_region ?_
    refine o_val (v_buildS (places := [(0, 1), (1, 1), (2, 1)]) (cells := [.int .i64 0, .string ⟨#[]⟩, .int .i64 0]) Try.underlying90 ti90 (by kernel_rfl) rfl (by repeat (first | exact PartsC.nil | (apply PartsC.one (by first | exact OneC.lit rfl | exact OneC.sl (hX (by repeat constructor)) )) | (apply PartsC.lit rfl))) rfl) (dd rfl) ?_
    refine o_step (s_store_all ti90 rfl rfl (by first | exact CellsV.lit rfl | exact CellsV.one (by first | exact OneC.lit rfl | exact OneC.sl (hX (by repeat constructor)) )) (by repeat (first | exact OneAll.nil | (refine OneAll.cons ?_ ?_; · first | exact OneC.lit rfl | exact OneC.sl (hX (by repeat constructor)) ) | exact OneAll.rd (hX (by repeat constructor)))) rfl (pB (by repeat constructor)) rfl (?_))
    refine o_val (v_assign rfl) (dd rfl) ?_
    refine o_nil ?_
    refine c_ret_ct Try.func65 rfl ⟨_, Try.underlying90⟩ ti90 rfl rfl (hX (by repeat constructor)) fun w O hS => ?_
    have hg : waitR W o = none := find_no fun j hj => hall j hj (by omega)
    exact ⟨(), by rw [hg]; rfl, trivial, trivial⟩
end Go.Proofs.Ytnamhhmfnokfiaa
namespace Go.Proofs.Ytnamhhmfnokfiaa
open Go Go.SL
attribute [local irreducible] Cfg Kont StepK Val Con Qops Any Sl Own Blk BlkR Rd Pu ExA AllA Has Pick Ent Elem Beside Callable TI Lone OwnO AndA
set_option maxRecDepth 100000 in
theorem mayR_con (lv wv : Value) (L W : List Hs) (q : Hs) (hL : L.length ≤ 1000000) :
    Con Try.prog 97 [.agg #[lv, wv], hsV q] [Sl eHs lv L, Sl eHs wv W] (γ := Unit) (fun _ => .bool (mayR L q)) (fun _ => True) (fun _ => []) := by
  refine con_of Try.func97 rfl (dd rfl) fun w0 O0 => ?_
  refine c_seq ?_
  refine c_region ?_
  refine o_step (s_box rfl (dd rfl) (fun b2 => ?_))
  refine o_step (s_box rfl (dd rfl) (fun b3 => ?_))
  refine o_val (v_assign rfl) (dd rfl) ?_
  refine o_nil ?_
  refine c_seq ?_
  refine c_seq ?_
  refine c_region ?_
  refine o_val (v_assign rfl) (dd rfl) ?_
  refine o_nil ?_
  refine c_block ?_
  refine c_loopR (γ := Nat) [(2, _), (3, _), (4, _)] (fun i => L.length - i) (fun i => i ≤ L.length ∧ ∀ (j : Nat) (hj : j < L.length), j < i → barR q L[j] = false) (fun i => [(5, .int .i64 i)]) (fun _ => [Blk b2 78 [lv, wv], Blk b3 90 [.int .i64 q.1, .string q.2.1, .int .i64 q.2.2], Sl eHs lv L, Sl eHs wv W]) (0) (⟨Nat.zero_le _, fun _ _ h => by omega⟩) (by repeat (first | exact trivial | refine ⟨rfl, ?_⟩)) (eX (by repeat constructor)) ?_
  rintro i ⟨hi, hall⟩ IH
  try dsimp only [List.cons_append, List.nil_append]
  refine c_seq ?_
  refine c_seq ?_
  refine c_region ?_
  refine o_val (v_move rfl) (dd rfl) ?_
  refine o_val (v_fieldAddrC 0 Try.underlying78 rfl ti76 (by decide) rfl) (dd rfl) ?_
  refine o_val (v_load lone76 rfl (hX (by repeat constructor)) rfl) (dd rfl) ?_
  refine o_val ((by first | exact v_len_form Try.underlying76 rfl | exact v_len_sl Try.underlying76 rfl (hX (by repeat constructor)))) (dd rfl) ?_
  refine o_val (v_lt rfl rfl) (dd rfl) ?_
  refine o_nil ?_
  refine c_cond_p rfl (fun hlt => ?_) (fun hlt => ?_)
  · have hi' : i < L.length := by omega
    refine c_skip ?_
    refine c_seq ?_
    refine c_block ?_
    refine c_seq ?_
    refine c_region ?_
    refine o_val (v_fieldAddrC 0 Try.underlying78 rfl ti76 (by decide) rfl) (dd rfl) ?_
    refine o_val (v_load lone76 rfl (hX (by repeat constructor)) rfl) (dd rfl) ?_
    refine o_val (v_move rfl) (dd rfl) ?_
    refine o_val ((by first | exact v_indexAddrN Try.underlying76 ti90 rfl rfl (hX (by repeat constructor)) (by omega) | exact v_indexAddr Try.underlying76 ti90 rfl rfl (hX (by repeat constructor)) (by omega))) (dd rfl) ?_
    refine o_val (v_load_p (by repeat (first | exact PEnc.int _ | exact PEnc.str | exact PEnc.bool | exact PEnc.byte | exact PEnc.raw | apply PEnc.pair | apply PEnc.map)) ⟨_, Try.underlying90⟩ ti90 rfl (by repeat (first|exact el1 (by omega)|exact el2 (by omega)|exact el3 (by omega)|apply Elem.there))) (dd rfl) ?_
    refine o_step (s_alloc ti90 (dd rfl) (fun b6 => ?_))
    refine o_step (s_store_all ti90 rfl rfl (by first | exact CellsV.lit rfl | exact CellsV.one (by first | exact OneC.lit rfl | exact OneC.sl (hX (by repeat constructor)) )) (by repeat (first | exact OneAll.nil | (refine OneAll.cons ?_ ?_; · first | exact OneC.lit rfl | exact OneC.sl (hX (by repeat constructor)) ) | exact OneAll.rd (hX (by repeat constructor)))) rfl (pB (by repeat constructor)) rfl (?_))
    refine o_nil ?_
    refine c_seq ?_
    refine c_env (env' := [(2, _), (3, _), (4, _), (5, _), (6, _), (7, _), (8, _), (9, _), (10, _), (11, _), (14, _), (15, _), (16, _), (17, _), (18, _)]) (by repeat (first | exact trivial | refine ⟨rfl, ?_⟩)) ?_
    refine c_joinb (d := 38) (decide ((L[i]'hi').2.1 = q.2.1 ∧ (L[i]'hi').1 ≠ q.1 ∧ fitsL (L[i]'hi').2.2 q.2.2 = false)) ?_ ?_
    rotate_left
    · intro J
      refine c_region ?_
      refine o_val (v_fieldAddrC 1 Try.underlying90 rfl ti9 (by decide) rfl) (dd rfl) ?_
      refine o_val (v_load lone9 rfl (hX (by repeat constructor)) rfl) (dd rfl) ?_
      refine o_val (v_fieldAddrC 1 Try.underlying90 rfl ti9 (by decide) rfl) (dd rfl) ?_
      refine o_val (v_load lone9 rfl (hX (by repeat constructor)) rfl) (dd rfl) ?_
      refine o_val (v_seq rfl rfl) (dd rfl) ?_
      refine o_val (v_move rfl) (dd rfl) ?_
      first | refine o_guard_t rfl rfl (fun g24 => ?_) (fun g24 => ?_) | refine o_guard rfl rfl (fun g24 => ?_) (fun g24 => ?_)
      · refine o_val (v_fieldAddrC 0 Try.underlying90 rfl ti3 (by decide) rfl) (dd rfl) ?_
        refine o_on rfl rfl ?_
        refine o_val (v_load lone3 rfl (hX (by repeat constructor)) rfl) (dd rfl) ?_
        refine o_on rfl rfl ?_
        refine o_val (v_fieldAddrC 0 Try.underlying90 rfl ti3 (by decide) rfl) (dd rfl) ?_
        refine o_on rfl rfl ?_
        refine o_val (v_load lone3 rfl (hX (by repeat constructor)) rfl) (dd rfl) ?_
        refine o_on rfl rfl ?_
        refine o_val (v_ne rfl rfl) (dd rfl) ?_
        refine o_val (v_pick_t rfl rfl) (dd rfl) ?_
        refine o_val (v_move rfl) (dd rfl) ?_
        first | refine o_guard_t rfl rfl (fun g31 => ?_) (fun g31 => ?_) | refine o_guard rfl rfl (fun g31 => ?_) (fun g31 => ?_)
        · refine o_val (v_fieldAddrC 2 Try.underlying90 rfl ti3 (by decide) rfl) (dd rfl) ?_
          refine o_on rfl rfl ?_
          refine o_val (v_load lone3 rfl (hX (by repeat constructor)) rfl) (dd rfl) ?_
          refine o_on rfl rfl ?_
          refine o_val (v_fieldAddrC 2 Try.underlying90 rfl ti3 (by decide) rfl) (dd rfl) ?_
          refine o_on rfl rfl ?_
          refine o_val (v_load lone3 rfl (hX (by repeat constructor)) rfl) (dd rfl) ?_
          refine o_on rfl rfl ?_
          refine o_step (s_callf_keep cl33 (refFits_con _ _) rfl (dd rfl) (rX (by repeat constructor)) (fun _ => sX) (fun _ _ => ?_))
          refine o_on rfl rfl ?_
          refine o_val (v_not rfl) (dd rfl) ?_
          refine o_val (v_pick_t rfl rfl) (dd rfl) ?_
          refine o_nil ?_
          exact c_use J ⟨Env.as rfl (congrArg Value.bool (by first | rfl | (simp_all; done) | (simp_all; omega) | (simp; omega))), (by repeat (first | exact trivial | refine ⟨rfl, ?_⟩))⟩ (by first | exact Ent.refl _ | exact eX (by repeat constructor))
        · refine o_off rfl rfl rfl (dd rfl) ?_
          refine o_off rfl rfl rfl (dd rfl) ?_
          refine o_off rfl rfl rfl (dd rfl) ?_
          refine o_off rfl rfl rfl (dd rfl) ?_
          refine o_off rfl rfl rfl (dd rfl) ?_
          refine o_off rfl rfl rfl (dd rfl) ?_
          refine o_val (v_pick_f rfl rfl) (dd rfl) ?_
          refine o_nil ?_
          exact c_use J ⟨Env.as rfl (congrArg Value.bool (by first | rfl | (simp_all; done) | (simp_all; omega) | (simp; omega))), (by repeat (first | exact trivial | refine ⟨rfl, ?_⟩))⟩ (by first | exact Ent.refl _ | exact eX (by repeat constructor))
      · refine o_off rfl rfl rfl (dd rfl) ?_
        refine o_off rfl rfl rfl (dd rfl) ?_
        refine o_off rfl rfl rfl (dd rfl) ?_
        refine o_off rfl rfl rfl (dd rfl) ?_
        refine o_off rfl rfl rfl (dd rfl) ?_
        refine o_val (v_pick_f rfl rfl) (dd rfl) ?_
        refine o_val (v_move rfl) (dd rfl) ?_
        refine o_off rfl rfl rfl (dd rfl) ?_
        refine o_off rfl rfl rfl (dd rfl) ?_
        refine o_off rfl rfl rfl (dd rfl) ?_
        refine o_off rfl rfl rfl (dd rfl) ?_
        refine o_off rfl rfl rfl (dd rfl) ?_
        refine o_off rfl rfl rfl (dd rfl) ?_
        refine o_val (v_pick_f rfl rfl) (dd rfl) ?_
        refine o_nil ?_
        exact c_use J ⟨Env.as rfl (congrArg Value.bool (by first | rfl | (simp_all; done) | (simp_all; omega) | (simp; omega))), (by repeat (first | exact trivial | refine ⟨rfl, ?_⟩))⟩ (by first | exact Ent.refl _ | exact eX (by repeat constructor))
    refine c_cond_p rfl (fun hh => ?_) (fun hh => ?_)
    · refine c_seq ?_
      refine c_region ?_
      refine o_val (v_assign rfl) (dd rfl) ?_
      refine o_nil ?_
      refine c_ret1 Try.func97 rfl rfl fun w O hS => ?_
      have hb : barR q (L[i]'hi') = true := by unfold barR; rw [hh.2.2, decide_eq_true ⟨hh.1, hh.2.1⟩]; rfl
      refine ⟨(), congrArg Value.bool ?_, trivial, trivial⟩
      refine (Bool.eq_false_iff.2 fun h => ?_).symm
      have := List.all_eq_true.1 h _ (List.getElem_mem hi')
      rw [hb] at this; cases this
    · have hb : barR q (L[i]'hi') = false := by
        unfold barR
        by_cases h1 : (L[i]'hi').2.1 = q.2.1 ∧ (L[i]'hi').1 ≠ q.1
        · have h2 : fitsL (L[i]'hi').2.2 q.2.2 = true := by
            cases h : fitsL (L[i]'hi').2.2 q.2.2 with
            | true => rfl
            | false => exact absurd ⟨h1.1, h1.2, h⟩ hh
          rw [h2]; simp
        · rw [decide_eq_false h1]; rfl
      refine c_skip ?_
      refine c_inBlock ?_
      refine c_region ?_
      refine o_val (v_move rfl) (dd rfl) ?_
      refine o_val ((by first | exact v_add64 rfl rfl (by omega) | exact v_add rfl rfl)) (dd rfl) ?_
      refine o_val (v_assign rfl) (dd rfl) ?_
      refine o_nil ?_
      refine c_use (IH (i + 1) (by first | omega | (dsimp only; omega)) (⟨by omega, fun j hj hji => (Nat.lt_succ_iff_lt_or_eq.1 hji).elim (hall j hj) fun h => by subst h; exact hb⟩)) (by repeat (first | exact trivial | refine ⟨rfl, ?_⟩)) (eX (by repeat constructor))
  · refine c_exit rfl ?_
    refine c_seq ?_
    refine c_region ?_
    refine o_val (v_assign rfl) (dd rfl) ?_
    refine o_nil ?_
    refine c_ret1 Try.func97 rfl rfl fun w O hS => ?_
    refine ⟨(), congrArg Value.bool (List.all_eq_true.2 fun x hx => ?_).symm, trivial, trivial⟩
    obtain ⟨j, hj, rfl⟩ := List.mem_iff_getElem.1 hx
    rw [hall j hj (by omega)]; rfl
set_option maxRecDepth 100000 in
theorem getsR_con (lv wv : Value) (L W : List Hs) (q : Hs) (hL : L.length ≤ 1000000) :
    Con Try.prog 98 [.agg #[lv, wv], hsV q] [Sl eHs lv L, Sl eHs wv W] (γ := Value) (fun r => .agg #[r, wv]) (fun _ => True) (fun r => [Own eHs 90 r (getsR L q)]) := by
  refine con_of Try.func98 rfl (dd rfl) fun w0 O0 => ?_
  refine c_seq ?_
  refine c_region ?_
  refine o_step (s_box rfl (dd rfl) (fun b2 => ?_))
  refine o_step (s_box rfl (dd rfl) (fun b3 => ?_))
  refine o_step (s_alloc ti78 (dd rfl) (fun b4 => ?_))
  refine o_nil ?_
  refine c_seq ?_
  refine c_region ?_
  refine o_val (v_assign rfl) (dd rfl) ?_
  refine o_nil ?_
  refine c_seq ?_
  refine c_seq ?_
  refine c_region ?_
  refine o_val (v_assign rfl) (dd rfl) ?_
  refine o_nil ?_
  refine c_block ?_
  refine c_ent (Ent.beside (b := Own eHs 90 (.slice none 0 0) ([] : List Hs)) (fun w O _ => Own.nil eHs 90 w _)) ?_
  refine c_loopR (γ := Nat × Value) [(2, _), (3, _), (4, _)] (fun g => L.length - g.1) (fun g => g.1 ≤ L.length) (fun g => [(6, .int .i64 g.1), (5, g.2)]) (fun g => [Own eHs 90 g.2 ((L.take g.1).filter fun x => !hasP q.1 q.2.1 x), Blk b2 78 [lv, wv], Blk b3 90 [.int .i64 q.1, .string q.2.1, .int .i64 q.2.2], Blk b4 78 [.slice none 0 0, .slice none 0 0], Sl eHs lv L, Sl eHs wv W]) ((0, .slice none 0 0)) (Nat.zero_le _) (by repeat (first | exact trivial | refine ⟨rfl, ?_⟩)) (eX (by repeat constructor)) ?_
  rintro ⟨i, u⟩ hi IH
  dsimp only at hi ⊢
  have hql : ((L.take i).filter fun x => !hasP q.1 q.2.1 x).length ≤ 1000000 := Nat.le_trans (List.length_filter_le _ _) (by simp; omega)
  try dsimp only [List.cons_append, List.nil_append]
  refine c_seq ?_
  refine c_seq ?_
  refine c_region ?_
  refine o_val (v_move rfl) (dd rfl) ?_
  refine o_val (v_fieldAddrC 0 Try.underlying78 rfl ti76 (by decide) rfl) (dd rfl) ?_
  refine o_val (v_load lone76 rfl (hX (by repeat constructor)) rfl) (dd rfl) ?_
  refine o_val ((by first | exact v_len_form Try.underlying76 rfl | exact v_len_sl Try.underlying76 rfl (hX (by repeat constructor)))) (dd rfl) ?_
  refine o_val (v_lt rfl rfl) (dd rfl) ?_
  refine o_nil ?_
  refine c_cond_p rfl (fun hlt => ?_) (fun hlt => ?_)
  · have hi' : i < L.length := by omega
    refine c_skip ?_
    refine c_seq ?_
    refine c_block ?_
    refine c_seq ?_
    refine c_env (env' := [(2, _), (3, _), (4, _), (5, _), (6, _), (7, _), (8, _), (9, _), (10, _), (11, _)]) (by repeat (first | exact trivial | refine ⟨rfl, ?_⟩)) ?_
    refine c_joinb (d := 33) (decide (¬ ((L[i]'hi').1 = q.1 ∧ (L[i]'hi').2.1 = q.2.1))) ?_ ?_
    rotate_left
    · intro J
      refine c_quiet rfl (by kernel_rfl) ?_
      refine q_val (v_fieldAddrC 0 Try.underlying78 rfl ti76 (by decide) rfl) (dd rfl) ?_
      refine q_val (v_load lone76 rfl (hX (by repeat constructor)) rfl) (dd rfl) ?_
      refine q_val (v_move rfl) (dd rfl) ?_
      refine q_val ((by first | exact v_indexAddrN Try.underlying76 ti90 rfl rfl (hX (by repeat constructor)) (by omega) | exact v_indexAddr Try.underlying76 ti90 rfl rfl (hX (by repeat constructor)) (by omega))) (dd rfl) ?_
      refine q_val (v_fieldAddrC 0 Try.underlying90 rfl ti3 (by decide) rfl) (dd rfl) ?_
      refine q_val ((by first | exact v_load_cell lone3 rfl (hX (by repeat constructor)) | exact v_load_fld lone3 rfl (by repeat (first|exact el1 (by omega)|exact el2 (by omega)|exact el3 (by omega)|apply Elem.there)) (by (try apply FldS.map); apply FldS.fst; (try apply FldS.map); first | exact FldS.int _ | exact FldS.str | exact FldS.bool | exact FldS.raw))) (dd rfl) ?_
      refine q_val (v_fieldAddrC 0 Try.underlying90 rfl ti3 (by decide) rfl) (dd rfl) ?_
      refine q_val (v_load lone3 rfl (hX (by repeat constructor)) rfl) (dd rfl) ?_
      refine q_val (v_ne rfl rfl) (dd rfl) ?_
      refine q_val (v_move rfl) (dd rfl) ?_
      first | refine q_guard_f rfl rfl (fun g23 => ?_) (fun g23 => ?_) | refine q_guard rfl rfl (fun g23 => ?_) (fun g23 => ?_)
      · refine q_val (v_fieldAddrC 0 Try.underlying78 rfl ti76 (by decide) rfl) (dd rfl) ?_
        refine q_on rfl rfl ?_
        refine q_val (v_load lone76 rfl (hX (by repeat constructor)) rfl) (dd rfl) ?_
        refine q_on rfl rfl ?_
        refine q_val (v_move rfl) (dd rfl) ?_
        refine q_on rfl rfl ?_
        refine q_val ((by first | exact v_indexAddrN Try.underlying76 ti90 rfl rfl (hX (by repeat constructor)) (by omega) | exact v_indexAddr Try.underlying76 ti90 rfl rfl (hX (by repeat constructor)) (by omega))) (dd rfl) ?_
        refine q_on rfl rfl ?_
        refine q_val (v_fieldAddrC 1 Try.underlying90 rfl ti9 (by decide) rfl) (dd rfl) ?_
        refine q_on rfl rfl ?_
        refine q_val ((by first | exact v_load_cell lone9 rfl (hX (by repeat constructor)) | exact v_load_fld lone9 rfl (by repeat (first|exact el1 (by omega)|exact el2 (by omega)|exact el3 (by omega)|apply Elem.there)) (by (try apply FldS.map); apply FldS.snd (j := 0) rfl; apply FldS.fst; (try apply FldS.map); first | exact FldS.int _ | exact FldS.str | exact FldS.bool | exact FldS.raw))) (dd rfl) ?_
        refine q_on rfl rfl ?_
        refine q_val (v_fieldAddrC 1 Try.underlying90 rfl ti9 (by decide) rfl) (dd rfl) ?_
        refine q_on rfl rfl ?_
        refine q_val (v_load lone9 rfl (hX (by repeat constructor)) rfl) (dd rfl) ?_
        refine q_on rfl rfl ?_
        refine q_val (v_sne rfl rfl) (dd rfl) ?_
        refine q_val (v_pick_f rfl rfl) (dd rfl) ?_
        refine q_nil ?_
        exact c_use J ⟨Env.as rfl (congrArg Value.bool (by first | rfl | (simp_all; done) | (simp_all; omega) | (simp; omega))), (by repeat (first | exact trivial | refine ⟨rfl, ?_⟩))⟩ (by first | exact Ent.refl _ | exact eX (by repeat constructor))
      · refine q_off rfl rfl rfl (dd rfl) ?_
        refine q_off rfl rfl rfl (dd rfl) ?_
        refine q_off rfl rfl rfl (dd rfl) ?_
        refine q_off rfl rfl rfl (dd rfl) ?_
        refine q_off rfl rfl rfl (dd rfl) ?_
        refine q_off rfl rfl rfl (dd rfl) ?_
        refine q_off rfl rfl rfl (dd rfl) ?_
        refine q_off rfl rfl rfl (dd rfl) ?_
        refine q_off rfl rfl rfl (dd rfl) ?_
        refine q_val (v_pick_t rfl rfl) (dd rfl) ?_
        refine q_nil ?_
        exact c_use J ⟨Env.as rfl (congrArg Value.bool (by first | rfl | (simp_all; done) | (simp_all; omega) | (simp; omega))), (by repeat (first | exact trivial | refine ⟨rfl, ?_⟩))⟩ (by first | exact Ent.refl _ | exact eX (by repeat constructor))
    refine c_cond_p rfl (fun hh => ?_) (fun hh => ?_)
    · have hq : (!hasP q.1 q.2.1 (L[i]'hi')) = true := by unfold hasP; rw [decide_eq_false hh]; rfl
      refine c_region ?_
      refine o_val (v_move rfl) (dd rfl) ?_
      refine o_val (v_fieldAddrC 0 Try.underlying78 rfl ti76 (by decide) rfl) (dd rfl) ?_
      refine o_val (v_load lone76 rfl (hX (by repeat constructor)) rfl) (dd rfl) ?_
      refine o_val (v_move rfl) (dd rfl) ?_
      refine o_val ((by first | exact v_indexAddrN Try.underlying76 ti90 rfl rfl (hX (by repeat constructor)) (by omega) | exact v_indexAddr Try.underlying76 ti90 rfl rfl (hX (by repeat constructor)) (by omega))) (dd rfl) ?_
      refine o_val (v_load_p (by repeat (first | exact PEnc.int _ | exact PEnc.str | exact PEnc.bool | exact PEnc.byte | exact PEnc.raw | apply PEnc.pair | apply PEnc.map)) ⟨_, Try.underlying90⟩ ti90 rfl (by repeat (first|exact el1 (by omega)|exact el2 (by omega)|exact el3 (by omega)|apply Elem.there))) (dd rfl) ?_
      refine o_step (s_buildSlice Try.underlying76 ti90 rfl rfl rfl (by decide) (by decide) (beside_agg1 (Beside.rd fun w O => hs_rd w O (L[i]'hi'))) rfl rfl (dd rfl) fun v1 => ?_)
      refine o_step (s_append Try.underlying76 ti90 rfl (by decide) rfl rfl (dd rfl) (pB (by repeat constructor)) (pX (by repeat constructor)) rfl (by (first | omega | (simp only [maxLen, List.length_append, List.length_drop, List.length_take, List.length_nil, List.length_cons]; omega))) (by (first | omega | (simp only [maxLen, List.length_append, List.length_drop, List.length_take, List.length_nil, List.length_cons]; omega))) fun v2 => ?_)
      refine o_val (v_assign rfl) (dd rfl) ?_
      refine o_nil ?_
      refine c_inBlock ?_
      refine c_region ?_
      refine o_val (v_move rfl) (dd rfl) ?_
      refine o_val ((by first | exact v_add64 rfl rfl (by omega) | exact v_add rfl rfl)) (dd rfl) ?_
      refine o_val (v_assign rfl) (dd rfl) ?_
      refine o_nil ?_
      refine c_use (IH (i + 1, v2) (by dsimp only; omega) (by dsimp only; omega)) (by repeat (first | exact trivial | refine ⟨rfl, ?_⟩)) ?_
      dsimp only
      rw [filtY (q := fun x => !hasP q.1 q.2.1 x) hi' hq]
      exact (eX (by repeat constructor))
    · have hq : (!hasP q.1 q.2.1 (L[i]'hi')) = false := by unfold hasP; rw [decide_eq_true (Classical.not_not.1 hh)]; rfl
      refine c_skip ?_
      refine c_inBlock ?_
      refine c_region ?_
      refine o_val (v_move rfl) (dd rfl) ?_
      refine o_val ((by first | exact v_add64 rfl rfl (by omega) | exact v_add rfl rfl)) (dd rfl) ?_
      refine o_val (v_assign rfl) (dd rfl) ?_
      refine o_nil ?_
      refine c_use (IH (i + 1, u) (by dsimp only; omega) (by dsimp only; omega)) (by repeat (first | exact trivial | refine ⟨rfl, ?_⟩)) ?_
      dsimp only
      rw [filtN (q := fun x => !hasP q.1 q.2.1 x) hi' hq]
      exact (eX (by repeat constructor))
  · have hie : i = L.length := by omega
    rw [hie, List.take_length] at hql ⊢
    refine c_exit rfl ?_
    refine c_seq ?_
    refine c_region ?_
    refine o_val (v_move rfl) (dd rfl) ?_
    refine o_val (v_load_all ⟨_, Try.underlying90⟩ ti90 rfl (hX (by repeat constructor)) rfl) (dd rfl) ?_
    refine o_step (s_buildSlice Try.underlying76 ti90 rfl rfl rfl (by decide) (by decide) (beside_agg1 (Beside.rd fun W O => hs_rd W O q)) rfl rfl (dd rfl) fun v1 => ?_)
    refine o_step (s_append Try.underlying76 ti90 rfl (by decide) rfl rfl (dd rfl) (pB (by repeat constructor)) (pX (by repeat constructor)) rfl (by (first | omega | (simp only [maxLen, List.length_append, List.length_drop, List.length_take, List.length_nil, List.length_cons]; omega))) (by (first | omega | (simp only [maxLen, List.length_append, List.length_drop, List.length_take, List.length_nil, List.length_cons]; omega))) fun v2 => ?_)
    refine o_val (v_fieldAddrC 0 Try.underlying78 rfl ti76 (by decide) rfl) (dd rfl) ?_
    refine o_step (s_store1 ti76 rfl rfl (by first | exact OneC.lit rfl | exact OneC.sl (hX (by repeat constructor)) ) (pB (by repeat constructor)) (by first | decide | exact Nat.le_of_ble_eq_true rfl | simp) (by first | (dsimp only [List.set_cons_succ, List.set_cons_zero]; first | done | exact rfl) | rfl) (?_))
    refine o_nil ?_
    refine c_seq ?_
    refine c_region ?_
    refine o_val (v_load_all ⟨_, Try.underlying78⟩ ti78 rfl (hX (by repeat constructor)) rfl) (dd rfl) ?_
    refine o_step (s_store_all ti78 rfl rfl (by first | exact CellsV.lit rfl | exact CellsV.one (by first | exact OneC.lit rfl | exact OneC.sl (hX (by repeat constructor)) )) (by repeat (first | exact OneAll.nil | (refine OneAll.cons ?_ ?_; · first | exact OneC.lit rfl | exact OneC.sl (hX (by repeat constructor)) ) | exact OneAll.rd (hX (by repeat constructor)))) rfl (pB (by repeat constructor)) rfl (?_))
    refine o_nil ?_
    refine c_ret_cell Try.func98 rfl ⟨_, Try.underlying78⟩ ti78 rfl (hX (by repeat constructor)) fun w O hS => ?_
    exact ⟨v2, rfl, trivial, Ent.get hS (eX (by repeat constructor))⟩
end Go.Proofs.Ytnamhhmfnokfiaa

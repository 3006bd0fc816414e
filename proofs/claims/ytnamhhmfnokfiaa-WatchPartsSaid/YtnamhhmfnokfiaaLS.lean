import Derived.Test.YtnamhhmfnokfiaaTb
import Derived.Test.YtnamhhmfnokfiaaQ9
import Derived.Test.YtnamhhmfnokfiaaSh
import Derived.Sort.OwnSortedInts
/- Library functions that work in place on a row of one's own: sorts, Compact. -/
namespace Go.Proofs.Ytnamhhmfnokfiaa
open Go Go.SL Go.Sort

theorem rows_f {α : Type} {e : Enc α} {f : α → Value} (h1 : ∀ w O cs x, e.rd w O cs x → cs = [f x]) {w : World} {O : Perm} : ∀ {cs : List Value} {xs : List α}, Go.SL.Rows e w O cs xs → cs = xs.map f
  | _, [], h => h
  | _, x :: xs, ⟨c1, c2, h0, h2, h3⟩ => by rw [h0, h1 _ _ _ _ h2, rows_f h1 h3]; rfl
theorem f_rows {α β : Type} {e : Enc α} {f : β → Value} {dec : β → α} (h1 : ∀ w O b, e.rd w O [f b] (dec b)) {w : World} {O : Perm} : ∀ xs : List β, Go.SL.Rows e w O (xs.map f) (xs.map dec)
  | [] => rfl
  | x :: xs => ⟨[f x], xs.map f, rfl, h1 _ _ x, f_rows h1 xs⟩
theorem take_put {β : Type} [Inhabited β] {f : β → Value} (cur : Array Value) (ts : List β) (h : ts.length ≤ cur.size) : (putCells f 0 ts.toArray cur).toList.take ts.length = ts.map f := by
  apply List.ext_getElem?
  intro j
  by_cases hj : j < ts.length
  · rw [List.getElem?_take_of_lt hj, Array.getElem?_toList]
    simp [putCells, hj, show j < cur.size by omega]
  · rw [List.getElem?_take_eq_none (by omega), List.getElem?_eq_none (by simp; omega)]
theorem holds_blk {β : Type} [Inhabited β] {f : β → Value} {w : World} {g : Nat} {cur : Array Value} {e : TypeId} {ss : List β} (hb : w.heap[g]? = some (.cells cur e (0, 0))) (ht : cur.toList.take ss.length = ss.map f) : Holds f w g 0 ss.toArray := by
  intro j hj
  have hj' : j < ss.length := by simpa using hj
  refine ⟨?_, by simp [World.frozen?, hb]⟩
  have h1 : (cur.toList.take ss.length)[j]? = (ss.map f)[j]? := by rw [ht]
  rw [List.getElem?_take_of_lt hj'] at h1
  simp only [World.cell?, hb, Nat.zero_add]
  simp only [Option.isSome_none, Bool.false_eq_true, if_false]
  rw [← Array.getElem?_toList, h1]
  simp [hj']
/-- What an in-place step over a row of one's own comes to. -/
theorem own_inplace {α β : Type} [Inhabited β] {e : Enc α} {f : β → Value} {dec : β → α} (hn : e.n = 1) (hrd : ∀ w O b, e.rd w O [f b] (dec b)) {w w' : World} {O : Perm} {E : TypeId} {g cap : Nat} {xs : List α} {ds : List β} {n : Nat} {os : Array Obj}
    (hs : Stars [Own e E (.slice (some ⟨g, 0, none⟩) xs.length cap) xs] w O) (hd : ∀ b, O b ≠ 0 → b < w.heap.size) (hl : ds.length = xs.length) (hw : w' = grow (putRow f (Sort.ahead w n) g 0 ds.toArray) os) :
    Stars [Own e E (.slice (some ⟨g, 0, none⟩) xs.length cap) (ds.map dec)] w' O ∧ Rel w O w' O := by
  obtain ⟨O1, O2, s, ⟨P1, P2, cs, t1, g1, g2, g3⟩, _⟩ := hs
  have hO := s.l g
  have hO1 := t1.l g
  have h2 := g2 g rfl
  rcases g1.2 with ⟨h, _⟩ | ⟨g', cap', cur, hv, _, hg, hle, hmx, hsz, htk⟩
  · cases h
  cases hv
  have hsz' : xs.length ≤ cur.size := by rw [hsz, hn]; omega
  have hgs : g < w.heap.size := hd g (by omega)
  have hnew : w'.heap[g]? = some (.cells (putCells f 0 ds.toArray cur) E (0, 0)) := by
    rw [hw, heap_grow_old _ _ (by simpa using hgs)]
    simp [putRow, mapBlock, Sort.ahead, Array.getElem?_modify, hg, onCells]
  have hgr : w.grownBy w' (some g) := by
    rw [hw]
    refine ⟨rfl, rfl, rfl, by simp, fun k hk hne => ?_⟩
    rw [heap_grow_old _ _ (by simpa using hk)]
    have : g ≠ k := fun e => hne (by rw [e])
    simp [putRow, mapBlock, Sort.ahead, Array.getElem?_modify, this]
  refine ⟨⟨O1, O2, s, ⟨P1, P2, ds.map f, t1, ⟨?_, .inr ⟨g, cap, _, by simp [hl], Nat.zero_le _, hnew, by simpa [hl] using hle, hmx, ?_, ?_⟩⟩, g2, f_rows hrd ds⟩, trivial⟩, ?_⟩
  · simp [hl, hn]
  · simpa [putCells] using hsz
  · rw [hn, Nat.mul_one, List.length_map]
    exact take_put cur ds (by omega)
  · refine ⟨hgr.os, hgr.tape, hgr.output, hgr.size, fun b hb h => hgr.block b hb ?_, fun _ _ => Nat.le_refl _, fun b hb => Nat.lt_of_lt_of_le (hd b hb) hgr.size⟩
    intro e
    have : b = g := by simpa using e
    subst this
    omega
def sbs (s : ByteArray) : List UInt8 := s.data.toList
def bss (l : List UInt8) : ByteArray := ⟨l.toArray⟩
theorem bss_sbs (s : ByteArray) : bss (sbs s) = s := rfl
theorem sbs_bss (l : List UInt8) : sbs (bss l) = l := rfl
theorem map_bss_sbs (l : List ByteArray) : (l.map sbs).map bss = l := by rw [List.map_map]; exact List.map_id'' (fun _ => rfl) _
def sortI (xs : List Int) : List Int := xs.mergeSort fun x y => decide (x ≤ y)
def sortS (xs : List ByteArray) : List ByteArray := ((xs.map sbs).mergeSort fun x y => decide (x ≤ y)).map bss
def compI (xs : List Int) : List Int := Lib.compact xs
def compS (xs : List ByteArray) : List ByteArray := (Lib.compact (xs.map sbs)).map bss
theorem sortI_len (xs : List Int) : (sortI xs).length = xs.length := List.length_mergeSort _
theorem sortS_len (xs : List ByteArray) : (sortS xs).length = xs.length := by simp [sortS]
theorem comp_len {α : Type} [Inhabited α] [DecidableEq α] (xs : List α) : (Lib.compact xs).length ≤ xs.length := by
  simp only [Lib.compact, Lib.compactUpTo, List.length_map]
  exact Nat.le_trans (List.length_filter_le _ _) (by simp)
theorem compS_len (xs : List ByteArray) : (compS xs).length ≤ xs.length := by
  have := comp_len (xs.map sbs); simpa [compS] using this

theorem sort_int (v : Value) (xs : List Int) (hl : xs.length < 4611686018427387904) :
    Con Try.prog 79 [v] [Own (eInt .i64) 3 v xs] (γ := Unit) (fun _ => .tuple #[]) (fun _ => True) (fun _ => [Own (eInt .i64) 3 v (sortI xs)]) := by
  refine Con.own (v := v) (xs := xs) Has.here ?_ ?_
  · rintro rfl rfl w O hs hd
    exact (Try.slices_Sort_int_none none 0 w).mono fun e w' ⟨he, hw⟩ => by subst hw; exact ⟨(), O, he, trivial, by simpa [sortI] using hs, Rel.refl hd⟩
  · rintro g cap rfl hcap w O hs hd
    obtain ⟨O1, O2, s, ⟨P1, P2, cs, t1, g1, g2, g3⟩, _⟩ := id hs
    rcases g1.2 with ⟨h, _⟩ | ⟨g', cap', cur, hv, _, hg, hle, hmx, hsz, htk⟩
    · cases h
    cases hv
    have hcs := rows_f (f := .int .i64) (fun _ _ _ _ h => h) g3
    have hgs : g < w.heap.size := hd g (by have := g2 g rfl; have := t1.l g; have := s.l g; omega)
    refine (Try.slices_Sort_int g 0 cap xs w (holds_blk hg (by rw [← hcs, ← htk]; show _ = List.take (xs.length * 1) _; rw [Nat.mul_one])) hgs hl).mono fun e w' ⟨he, n, os, hw⟩ => ?_
    obtain ⟨h1, h2⟩ := own_inplace (dec := id) rfl (fun _ _ _ => rfl) hs hd (sortI_len xs) hw
    refine ⟨(), O, he, trivial, ?_, h2⟩
    simpa using h1
theorem sort_str (v : Value) (xs : List ByteArray) (hl : xs.length < 4611686018427387904) :
    Con Try.prog 108 [v] [Own eStr 9 v xs] (γ := Unit) (fun _ => .tuple #[]) (fun _ => True) (fun _ => [Own eStr 9 v (sortS xs)]) := by
  refine Con.own (v := v) (xs := xs) Has.here ?_ ?_
  · rintro rfl rfl w O hs hd
    exact (Try.slices_Sort_string_none none 0 w).mono fun e w' ⟨he, hw⟩ => by subst hw; exact ⟨(), O, he, trivial, by simpa [sortS] using hs, Rel.refl hd⟩
  · rintro g cap rfl hcap w O hs hd
    obtain ⟨O1, O2, s, ⟨P1, P2, cs, t1, g1, g2, g3⟩, _⟩ := id hs
    rcases g1.2 with ⟨h, _⟩ | ⟨g', cap', cur, hv, _, hg, hle, hmx, hsz, htk⟩
    · cases h
    cases hv
    have hcs := rows_f (f := .string) (fun _ _ _ _ h => h) g3
    have hgs : g < w.heap.size := hd g (by have := g2 g rfl; have := t1.l g; have := s.l g; omega)
    have hH := holds_blk (f := encStr) (ss := xs.map sbs) hg (by rw [List.length_map, List.map_map, show (encStr ∘ sbs) = Value.string from rfl, ← hcs, ← htk]; show _ = List.take (xs.length * 1) _; rw [Nat.mul_one])
    have hc := Try.slices_Sort_string g 0 cap (xs.map sbs) w hH hgs (by simpa using hl)
    rw [List.length_map] at hc
    refine hc.mono fun e w' ⟨he, n, os, hw⟩ => ?_
    obtain ⟨h1, h2⟩ := own_inplace (dec := bss) rfl (fun _ _ _ => rfl) hs hd (by simp) hw
    exact ⟨(), O, he, trivial, h1, h2⟩
/-- A cut of what an in-place step has left. -/
theorem stars_cut {α : Type} {e : Enc α} {E : TypeId} {g cap n k0 : Nat} {xs : List α} {w : World} {O : Perm} (hs : Stars [Own e E (.slice (some ⟨g, 0, none⟩) n cap) xs] w O) (hn : n = xs.length) (hk : k0 ≤ xs.length) : Stars [Own e E (.slice (some ⟨g, 0, none⟩) k0 cap) (xs.take k0)] w O := by
  subst hn
  exact Ent.head (fun _ _ h => Own.cut h hk) w O hs
theorem grow_nil (w : World) : grow w #[] = w := by simp [grow]
theorem compact_str (v : Value) (xs : List ByteArray) (hl : xs.length ≤ 9223372036854775807) :
    Con Try.prog 89 [v] [Own eStr 9 v xs] (γ := Value) (fun r => r) (fun _ => True) (fun r => [Own eStr 9 r (compS xs)]) := by
  refine Con.own (v := v) (xs := xs) Has.here ?_ ?_
  · rintro rfl rfl w O hs hd
    exact (Try.slices_Compact_string_empty none 0 w).mono fun e w' ⟨he, hw⟩ => by subst hw; exact ⟨_, O, he, trivial, hs, Rel.refl hd⟩
  · rintro g cap rfl hcap w O hs hd
    obtain ⟨O1, O2, s, ⟨P1, P2, cs, t1, g1, g2, g3⟩, _⟩ := id hs
    rcases g1.2 with ⟨h, _⟩ | ⟨g', cap', cur, hv, _, hg, hle, hmx, hsz, htk⟩
    · cases h
    cases hv
    have hcs := rows_f (f := .string) (fun _ _ _ _ h => h) g3
    have hH := holds_blk (f := encStr) (ss := xs.map sbs) hg (by rw [List.length_map, List.map_map, show (encStr ∘ sbs) = Value.string from rfl, ← hcs, ← htk]; show _ = List.take (xs.length * 1) _; rw [Nat.mul_one])
    have hc := Try.slices_Compact_string g 0 cap (xs.map sbs) w hH (by simpa using hl) (by simpa using hcap)
    rw [List.length_map] at hc
    have hle2 := comp_len (xs.map sbs)
    rw [List.length_map] at hle2
    refine hc.mono fun e w' ⟨he, q, hw⟩ => ?_
    obtain ⟨h1, h2⟩ := own_inplace (w' := w') (dec := bss) (ds := Lib.compact (xs.map sbs) ++ List.replicate (xs.length - (Lib.compact (xs.map sbs)).length) []) (n := q) (os := #[]) rfl (fun _ _ _ => rfl) hs hd (by simp; omega) (by rw [grow_nil]; exact hw)
    have h3 := stars_cut (k0 := (Lib.compact (xs.map sbs)).length) h1 (by simp; omega) (by simp)
    refine ⟨_, O, he, trivial, ?_, h2⟩
    rw [List.map_append, List.take_left' (by simp)] at h3
    exact h3
theorem compact_int (v : Value) (xs : List Int) (hl : xs.length ≤ 9223372036854775807) :
    Con Try.prog 80 [v] [Own (eInt .i64) 3 v xs] (γ := Value) (fun r => r) (fun _ => True) (fun r => [Own (eInt .i64) 3 r (compI xs)]) := by
  refine Con.own (v := v) (xs := xs) Has.here ?_ ?_
  · rintro rfl rfl w O hs hd
    exact (Try.slices_Compact_int_empty none 0 w).mono fun e w' ⟨he, hw⟩ => by subst hw; exact ⟨_, O, he, trivial, hs, Rel.refl hd⟩
  · rintro g cap rfl hcap w O hs hd
    obtain ⟨O1, O2, s, ⟨P1, P2, cs, t1, g1, g2, g3⟩, _⟩ := id hs
    rcases g1.2 with ⟨h, _⟩ | ⟨g', cap', cur, hv, _, hg, hle, hmx, hsz, htk⟩
    · cases h
    cases hv
    have hcs := rows_f (f := .int .i64) (fun _ _ _ _ h => h) g3
    have hle2 := comp_len xs
    refine (Try.slices_Compact_int g 0 cap xs w (holds_blk hg (by rw [← hcs, ← htk]; show _ = List.take (xs.length * 1) _; rw [Nat.mul_one])) hl hcap).mono fun e w' ⟨he, q, hw⟩ => ?_
    obtain ⟨h1, h2⟩ := own_inplace (w' := w') (dec := id) (ds := Lib.compact xs ++ List.replicate (xs.length - (Lib.compact xs).length) 0) (n := q) (os := #[]) rfl (fun _ _ _ => rfl) hs hd (by simp; omega) (by rw [grow_nil]; exact hw)
    have h3 := stars_cut (k0 := (Lib.compact xs).length) h1 (by simp; omega) (by simp)
    refine ⟨_, O, he, trivial, ?_, h2⟩
    rw [List.map_append, List.take_left' (by simp), List.map_id] at h3
    exact h3
theorem hasPrefix_con (s p : ByteArray) : Con Try.prog 95 [.string s, .string p] [] (γ := Unit) (fun _ => .bool (Lib.hasPrefix s.data.toList p.data.toList)) (fun _ => True) (fun _ => []) := con_pure fun w _ _ => Try.strings_HasPrefix s p w
end Go.Proofs.Ytnamhhmfnokfiaa

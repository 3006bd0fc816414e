import Derived.Test.YtnamhhmfnokfiaaR15
/- Chapter 13: the hub in memory; what its map holds. -/
namespace Go.Proofs.Ytnamhhmfnokfiaa
open Go Go.SL

def Rising (H : List Wr) : Prop := H.Pairwise fun a b => a.1 < b.1
def rawN (q : Value × Nt) : Int × Value × Bool := (q.2.1, q.1, q.2.2.2)
/-- A note's names, of its own. -/
def noteA (q : Value × Nt) : A := Own eStr 9 q.1 q.2.2.1
def NtsA (v : Value) (l : List Nt) : A := ExA fun qs : List (Value × Nt) => AllA [Own eNr 60 v (qs.map rawN), Pu (qs.map (·.2) = l), AllA (qs.map noteA)]
def wrA (p : Nat × Wr) : A := ExA fun v : Value => AllA [Blk p.1 114 [.string p.2.2.1, v], NtsA v p.2.2.2]
def entW (p : Nat × Wr) : Int × Value := (p.2.1, .pointer (some ⟨p.1, 0, none⟩))
def HubA (h : Nat) (H : List Wr) : A := ExA fun o : Option Nat => ExA fun ps : List (Nat × Wr) => AllA [Blk h 28 [.map o], MapO kInt o (ps.map entW), Pu ((ps.map (·.2)).Perm H ∧ Rising H), AllA (ps.map wrA)]

theorem look_ent : ∀ (ps : List (Nat × Wr)) (id : Int), (Go.SL.look (ps.map entW) id = none ∧ ∀ p ∈ ps, p.2.1 ≠ id) ∨ ∃ ps1 b w ps2, ps = ps1 ++ (b, w) :: ps2 ∧ w.1 = id ∧ Go.SL.look (ps.map entW) id = some (.pointer (some ⟨b, 0, none⟩))
  | [], id => .inl ⟨rfl, fun _ h => by cases h⟩
  | p :: ps, id => by
    rw [List.map_cons, look_cons]
    by_cases hp : p.2.1 = id
    · right
      refine ⟨[], p.1, p.2, ps, rfl, hp, ?_⟩
      rw [if_pos (show (entW p).1 = id from hp)]; rfl
    · rw [if_neg (show ¬ (entW p).1 = id from hp)]
      rcases look_ent ps id with ⟨h1, h2⟩ | ⟨ps1, b, w, ps2, h1, h2, h3⟩
      · left
        refine ⟨h1, fun q hq => ?_⟩
        rcases List.mem_cons.1 hq with rfl | hq
        · exact hp
        · exact h2 q hq
      · right
        exact ⟨p :: ps1, b, w, ps2, by rw [h1]; rfl, h2, h3⟩
theorem atW_neg {H : List Wr} {id : Int} (h : ∀ w ∈ H, w.1 ≠ id) : atW H id = -1 := idxF_none fun j hj => by simpa using h _ (List.getElem_mem hj)
theorem rising_inj {H : List Wr} (h : Rising H) {i j : Nat} (hi : i < H.length) (hj : j < H.length) (e : H[i].1 = H[j].1) : i = j := by
  rcases Nat.lt_trichotomy i j with h1 | h1 | h1
  · have := List.pairwise_iff_getElem.1 h i j hi hj h1; omega
  · exact h1
  · have := List.pairwise_iff_getElem.1 h j i hj hi h1; omega
theorem atW_pos {H : List Wr} (hr : Rising H) {w : Wr} (hw : w ∈ H) : ∃ (i : Nat) (hi : i < H.length), atW H w.1 = i ∧ H[i] = w := by
  obtain ⟨j, hj, rfl⟩ := List.mem_iff_getElem.1 hw
  refine ⟨j, hj, idxF_some hj (by simp) fun k hk => ?_, rfl⟩
  simp only [decide_eq_false_iff_not]
  intro e
  have := rising_inj hr (by omega) hj e
  omega
theorem atW_cases {H : List Wr} (id : Int) : (atW H id = -1 ∧ ∀ w ∈ H, w.1 ≠ id) ∨ ∃ (i : Nat) (hi : i < H.length), atW H id = i ∧ H[i].1 = id := by
  rcases idxF_cases (fun w : Wr => decide (w.1 = id)) H with ⟨h1, h2⟩ | ⟨i, hi, h1, h2, _⟩
  · exact .inl ⟨h1, fun w hw => by simpa using h2 w hw⟩
  · exact .inr ⟨i, hi, h1, by simpa using h2⟩
theorem ps_nodup {ps : List (Nat × Wr)} {H : List Wr} (hp : (ps.map (·.2)).Perm H) (hr : Rising H) : (ps.map fun p : Nat × Wr => p.2.1).Nodup := by
  have h1 : (H.map fun w : Wr => w.1).Nodup := List.Pairwise.map _ (fun a b h => by omega) hr
  have h2 := (hp.map fun w : Wr => w.1).nodup_iff.2 h1
  simpa [List.map_map, Function.comp_def] using h2
theorem ps_others {ps1 ps2 : List (Nat × Wr)} {b : Nat} {w : Wr} {H : List Wr} (hp : ((ps1 ++ (b, w) :: ps2).map (·.2)).Perm H) (hr : Rising H) : ∀ p ∈ ps1 ++ ps2, p.2.1 ≠ w.1 := by
  have hn := ps_nodup hp hr
  rw [List.map_append, List.map_cons] at hn
  have h1 := List.nodup_append.1 hn
  have h2 := List.nodup_cons.1 h1.2.1
  intro p hpm e
  rcases List.mem_append.1 hpm with h | h
  · exact h1.2.2 p.2.1 (List.mem_map.2 ⟨p, h, rfl⟩) w.1 (by simp) e
  · exact h2.1 (List.mem_map.2 ⟨p, h, e⟩)
theorem upd_new {ps : List (Nat × Wr)} {id : Int} {b : Nat} {w : Wr} (h : ∀ p ∈ ps, p.2.1 ≠ id) (hw : w.1 = id) : upd (ps.map entW) id (.pointer (some ⟨b, 0, none⟩)) = (ps ++ [(b, w)]).map entW := by
  induction ps with
  | nil => simp [upd, entW, hw]
  | cons p ps ih =>
    rw [List.map_cons, upd, if_neg (show ¬ (entW p).1 = id from h p (by simp)), ih fun q hq => h q (by simp [hq])]
    rfl
theorem del_old {ps1 ps2 : List (Nat × Wr)} {b : Nat} {w : Wr} (h : ∀ p ∈ ps1 ++ ps2, p.2.1 ≠ w.1) : del ((ps1 ++ (b, w) :: ps2).map entW) w.1 = (ps1 ++ ps2).map entW := by
  unfold del
  rw [List.map_append, List.map_cons, List.filter_append, List.filter_cons, if_neg (by simp [entW]), List.map_append]
  congr 1 <;> rw [List.filter_eq_self] <;> intro q hq <;> obtain ⟨p, hp, rfl⟩ := List.mem_map.1 hq
  · exact decide_eq_true (h p (by simp [hp]))
  · exact decide_eq_true (h p (by simp [hp]))
theorem rising_sorted_insert {H : List Wr} (hr : Rising H) {x : Wr} (hx : ∀ w ∈ H, w.1 ≠ x.1) :
    Rising (H.filter (fun w => decide (w.1 < x.1)) ++ [x] ++ H.filter fun w => decide (x.1 < w.1)) ∧ (x :: H).Perm (H.filter (fun w => decide (w.1 < x.1)) ++ [x] ++ H.filter fun w => decide (x.1 < w.1)) := by
  constructor
  · unfold Rising at hr ⊢
    refine List.pairwise_append.2 ⟨List.pairwise_append.2 ⟨hr.filter _, by simp, fun a ha b hb => ?_⟩, hr.filter _, fun a ha b hb => ?_⟩
    · rw [List.mem_singleton.1 hb]; simpa using (List.mem_filter.1 ha).2
    · have h2 : x.1 < b.1 := by simpa using (List.mem_filter.1 hb).2
      rcases List.mem_append.1 ha with h | h
      · have : a.1 < x.1 := by simpa using (List.mem_filter.1 h).2
        omega
      · rw [List.mem_singleton.1 h]; exact h2
  · rw [List.append_assoc]
    refine List.Perm.trans ?_ List.perm_middle.symm
    refine List.Perm.cons x ?_
    have h1 : H.filter (fun w => decide (x.1 < w.1)) = H.filter (fun w => !decide (w.1 < x.1)) := by
      apply List.filter_congr
      intro w hw
      have := hx w hw
      by_cases h : x.1 < w.1
      · simp [h]; omega
      · simp [h]; omega
    rw [h1]
    exact (List.filter_append_perm _ H).symm
theorem add_perm {ps : List (Nat × Wr)} {H : List Wr} (hp : (ps.map (·.2)).Perm H) (hr : Rising H) {x : Wr} {b : Nat} (hx : ∀ w ∈ H, w.1 ≠ x.1) (hl : H.length < 12) :
    ((ps ++ [(b, x)]).map (·.2)).Perm (addW H x.1 x.2.1).1 ∨ x.2.2 ≠ [] := by
  by_cases h : x.2.2 = []
  · left
    have hx' : x = (x.1, x.2.1, []) := by rw [← h]
    unfold addW
    rw [if_neg (by rw [atW_neg hx]; omega)]
    rw [List.map_append]
    refine List.Perm.trans (List.perm_append_comm) ?_
    refine List.Perm.trans (List.Perm.cons x hp) ?_
    have := (rising_sorted_insert hr hx).2
    rw [← hx']; exact this
  · exact .inr h
theorem add_rising {H : List Wr} (hr : Rising H) (id : Int) (p : ByteArray) : Rising (addW H id p).1 := by
  unfold addW
  split
  · exact hr
  · rename_i hc
    refine (rising_sorted_insert hr (x := (id, p, [])) fun w hw e => ?_).1
    obtain ⟨i, hi, h1, _⟩ := atW_pos hr hw
    rw [e] at h1
    exact hc (.inr (by rw [h1]; omega))
theorem drop_spec {H : List Wr} (hr : Rising H) {w : Wr} (hw : w ∈ H) : (w :: (dropW H w.1).1).Perm H ∧ Rising (dropW H w.1).1 ∧ (dropW H w.1).2 = 0 := by
  obtain ⟨i, hi, h1, h2⟩ := atW_pos hr hw
  unfold dropW
  rw [if_neg (by rw [h1]; omega), h1, Int.toNat_natCast]
  refine ⟨?_, ?_, rfl⟩
  · have e : H = H.take i ++ w :: H.drop (i + 1) := by rw [← h2, List.getElem_cons_drop, List.take_append_drop]
    conv => rhs; rw [e]
    exact List.perm_middle.symm
  · show Rising (H.take i ++ H.drop (i + 1))
    rw [← List.eraseIdx_eq_take_drop_succ]
    exact List.Pairwise.sublist (List.eraseIdx_sublist _ _) hr
theorem drop_perm {ps1 ps2 : List (Nat × Wr)} {b : Nat} {w : Wr} {H : List Wr} (hp : ((ps1 ++ (b, w) :: ps2).map (·.2)).Perm H) (hr : Rising H) : ((ps1 ++ ps2).map (·.2)).Perm (dropW H w.1).1 := by
  have hw : w ∈ H := hp.mem_iff.1 (by simp)
  have h1 := (drop_spec hr hw).1
  have h2 : (w :: (ps1 ++ ps2).map (·.2)).Perm (w :: (dropW H w.1).1) := by
    refine List.Perm.trans ?_ (hp.trans h1.symm)
    simp only [List.map_append, List.map_cons]
    exact List.perm_middle.symm
  exact List.Perm.cons_inv h2
/-- One watcher, turned. -/
def modW (H : List Wr) (id : Int) (f : Wr → Wr) : List Wr := H.map fun w => if w.1 = id then f w else w
theorem mod_perm {ps1 ps2 : List (Nat × Wr)} {b : Nat} {w : Wr} {H : List Wr} (hp : ((ps1 ++ (b, w) :: ps2).map (·.2)).Perm H) (hr : Rising H) (f : Wr → Wr) : ((ps1 ++ (b, f w) :: ps2).map (·.2)).Perm (modW H w.1 f) := by
  have ho := ps_others hp hr
  have h1 := hp.map fun x : Wr => if x.1 = w.1 then f x else x
  refine List.Perm.trans (List.Perm.of_eq ?_) h1
  simp only [List.map_append, List.map_cons, List.map_map, if_true]
  congr 1
  · apply List.map_congr_left
    intro p hpm
    show p.2 = if p.2.1 = w.1 then f p.2 else p.2
    rw [if_neg (ho p (by simp [hpm]))]
  · congr 1
    apply List.map_congr_left
    intro p hpm
    show p.2 = if p.2.1 = w.1 then f p.2 else p.2
    rw [if_neg (ho p (by simp [hpm]))]
theorem mod_rising {H : List Wr} (hr : Rising H) {id : Int} {f : Wr → Wr} (hf : ∀ w, (f w).1 = w.1) : Rising (modW H id f) := by
  refine List.Pairwise.map _ (fun a b h => ?_) hr
  have e1 : ∀ w : Wr, (if w.1 = id then f w else w).1 = w.1 := fun w => by split <;> simp [hf]
  rw [e1, e1]; exact h
theorem ent_mod {ps1 ps2 : List (Nat × Wr)} {b : Nat} {w w' : Wr} (h : w'.1 = w.1) : (ps1 ++ (b, w') :: ps2).map entW = (ps1 ++ (b, w) :: ps2).map entW := by
  simp [entW, h]
theorem pull_wr {ps1 ps2 : List (Nat × Wr)} {b : Nat} {w : Wr} {L : List A} : Ent (AllA ((ps1 ++ (b, w) :: ps2).map wrA) :: L) (wrA (b, w) :: AllA ((ps1 ++ ps2).map wrA) :: L) := by
  intro W O hs
  have h1 := stars_join hs
  have h2 : Stars (wrA (b, w) :: ((ps1 ++ ps2).map wrA ++ L)) W O := Ent.perm (by
    simp only [List.map_append, List.map_cons, List.append_assoc, List.cons_append]
    exact List.perm_middle) W O h1
  obtain ⟨O1, O2, s, g1, g2⟩ := h2
  obtain ⟨P1, P2, t, k1, k2⟩ := stars_split g2
  exact ⟨O1, O2, s, g1, P1, P2, t, k1, k2⟩
theorem push_wr {ps1 ps2 : List (Nat × Wr)} {b : Nat} {w : Wr} {L : List A} : Ent (wrA (b, w) :: AllA ((ps1 ++ ps2).map wrA) :: L) (AllA ((ps1 ++ (b, w) :: ps2).map wrA) :: L) := by
  intro W O hs
  obtain ⟨O1, O2, s, g1, P1, P2, t, k1, k2⟩ := hs
  have h1 : Stars (wrA (b, w) :: (ps1 ++ ps2).map wrA) W (fun c => max (O1 c) (P1 c)) := ⟨O1, P1, ⟨fun _ => Nat.le_max_left _ _, fun _ => Nat.le_max_right _ _, fun c hc => by have := s.lr c hc; have := t.l c; omega, fun c hc => s.rl c (by have := t.l c; omega)⟩, g1, k1⟩
  refine ⟨fun c => max (O1 c) (P1 c), P2, ⟨fun c => by have := s.l c; have := s.r c; have := t.l c; show max _ _ ≤ _; omega, fun c => by have := s.r c; have := t.r c; omega, fun c hc => ?_, fun c hc => ?_⟩, Ent.perm (by
    simp only [List.map_append, List.map_cons]
    exact List.perm_middle.symm) W _ h1, k2⟩
  · have hc' : 2 ≤ max (O1 c) (P1 c) := hc
    rcases Nat.lt_or_ge (O1 c) 2 with h | h
    · exact t.lr c (by omega)
    · have := s.lr c h; have := t.r c; omega
  · have h5 := t.rl c hc
    have h6 := s.rl c (by have := t.r c; omega)
    show max _ _ = 0; omega
theorem snoc_wr {ps : List (Nat × Wr)} {p : Nat × Wr} {L : List A} : Ent (wrA p :: AllA (ps.map wrA) :: L) (AllA ((ps ++ [p]).map wrA) :: L) := by
  have := push_wr (ps1 := ps) (ps2 := []) (b := p.1) (w := p.2) (L := L)
  simpa using this
theorem notes_split {qs : List (Value × Nt)} {k : Nat} {L : List A} : Ent (AllA (qs.map noteA) :: L) (AllA ((qs.take k).map noteA) :: AllA ((qs.drop k).map noteA) :: L) := fun w O hs => by
  have h1 := stars_join hs
  have e : qs.map noteA ++ L = (qs.take k).map noteA ++ ((qs.drop k).map noteA ++ L) := by rw [← List.append_assoc, ← List.map_append, List.take_append_drop]
  rw [e] at h1
  exact Ent.cons ent_all w O (ent_all w O h1)
theorem note_snoc {qs : List (Value × Nt)} {q : Value × Nt} {L : List A} : Ent (noteA q :: AllA (qs.map noteA) :: L) (AllA ((qs ++ [q]).map noteA) :: L) := fun w O hs => by
  have h1 : Stars (AllA (qs.map noteA) :: noteA q :: L) w O := Ent.perm (List.Perm.swap _ _ _) w O hs
  have h2 := stars_join h1
  rw [show qs.map noteA ++ noteA q :: L = (qs ++ [q]).map noteA ++ L by simp] at h2
  exact ent_all w O h2
theorem all_at : ∀ {l : List A} {w : World} {O : Perm} {a : A}, a ∈ l → Stars l w O → a.h w O
  | b :: l, w, O, a, h, hs => by
    obtain ⟨O1, O2, s, h1, h2⟩ := hs
    rcases List.mem_cons.1 h with rfl | h
    · exact a.mono h1 s.l
    · exact a.mono (all_at h h2) s.r
theorem has_note {qs : List (Value × Nt)} {L : List A} (h : Has L (AllA (qs.map noteA))) {j : Nat} (hj : j < qs.length) : Has L (Sl eStr qs[j].1 qs[j].2.2.1) := fun w O hs =>
  Own.sl (all_at (a := noteA qs[j]) (List.mem_map.2 ⟨_, List.getElem_mem hj, rfl⟩) (h w O hs))
theorem has_notes {qs : List (Value × Nt)} {v : Value} {T : TypeId} {L : List A} (h0 : Has L (Own eNr T v (qs.map rawN))) (h : Has L (AllA (qs.map noteA))) : Has L (Sl eNt v (qs.map (·.2))) := fun w O hs => by
  have h1 := Own.sl (h0 w O hs)
  have h2 := h w O hs
  obtain ⟨a, cap, rfl, g1, g2, g3⟩ := h1
  refine ⟨a, cap, by simp, by simpa using g1, g2, ?_⟩
  rcases g3 with ⟨ha, hn⟩ | ⟨b, off, cs, rfl, hb, hr, hc⟩
  · left; exact ⟨ha, by rw [List.map_eq_nil_iff] at hn ⊢; exact hn⟩
  · right
    refine ⟨b, off, cs, rfl, hb, ?_, hc⟩
    clear hc g1 hs h h0
    have h3 : ∀ q ∈ qs, (noteA q).h w O := fun q hq => all_at (List.mem_map.2 ⟨q, hq, rfl⟩) h2
    clear h2
    induction qs generalizing cs with
    | nil => exact hr
    | cons q qs ih =>
      obtain ⟨c1, c2, rfl, hr1, hr2⟩ := hr
      refine ⟨c1, c2, rfl, ?_, ih c2 hr2 fun q hq => h3 q (by simp [hq])⟩
      obtain ⟨d1, d2, rfl, e1, d3, d4, rfl, e2, e3⟩ := hr1
      have e2' : d3 = [q.1] := e2.1
      subst e2'
      exact ⟨d1, _, rfl, e1, [q.1], d4, rfl, ⟨q.1, rfl, Own.sl (h3 q (by simp))⟩, e3⟩
theorem all_nil {α : Type} {f : α → A} {L : List A} : Ent L (AllA (([] : List α).map f) :: L) := Ent.beside fun _ _ _ => trivial
theorem raw_rd {ver : Int} {r : Value} {lost : Bool} {names : List ByteArray} {T : TypeId} {w : World} {O : Perm} (h : (Own eStr T r names).h w O) : eNr.rd w O [.int .i64 ver, r, .bool lost] (ver, r, lost) := by
  obtain ⟨a, cap, hv, _⟩ := Own.sl h
  exact ⟨[.int .i64 ver], [r, .bool lost], rfl, rfl, [r], [.bool lost], rfl, ⟨rfl, by rw [hv]; rfl⟩, rfl⟩
theorem hub_rising {h : Nat} {H : List Wr} {w : World} {O : Perm} (k : (HubA h H).h w O) : Rising H := by
  obtain ⟨o, ps, O1, O2, s, _, P1, P2, t, _, Q1, Q2, u, ⟨_, hr⟩, _⟩ := k
  exact hr
theorem notes_set {qs : List (Value × Nt)} {i : Nat} {q : Value × Nt} {L : List A} (hq : ∀ w O, (noteA q).h w O) : Ent (AllA (qs.map noteA) :: L) (AllA ((qs.set i q).map noteA) :: L) := Ent.head fun w O hs => by
  show Stars ((qs.set i q).map noteA) w O
  have hs' : Stars (qs.map noteA) w O := hs
  clear hs
  induction qs generalizing i O with
  | nil => exact trivial
  | cons q0 qs ih =>
    obtain ⟨O1, O2, s, h1, h2⟩ := hs'
    cases i with
    | zero => exact ⟨fun _ => 0, O2, ⟨fun _ => Nat.zero_le _, s.r, fun _ h => by omega, fun _ _ => rfl⟩, hq _ _, h2⟩
    | succ i => exact ⟨O1, O2, s, h1, ih O2 h2⟩
theorem ntsA_nil (w : World) (O : Perm) : (NtsA (.slice none 0 0) []).h w O :=
  ⟨[], O, fun _ => 0, ⟨fun _ => Nat.le_refl _, fun _ => Nat.zero_le _, fun _ _ => rfl, fun _ h => by omega⟩, Own.nil eNr _ w O, fun _ => 0, fun _ => 0, ⟨fun _ => Nat.le_refl _, fun _ => Nat.le_refl _, fun _ h => by omega, fun _ h => by omega⟩, rfl, fun _ => 0, fun _ => 0, ⟨fun _ => Nat.le_refl _, fun _ => Nat.le_refl _, fun _ h => by omega, fun _ h => by omega⟩, trivial, trivial⟩
section
variable {X : Cx} {k : List Item} {env : Env} {L : List A}
theorem hub_mk {h : Nat} {o : Option Nat} {ps : List (Nat × Wr)} {H : List Wr} (hp : (ps.map (·.2)).Perm H) (hr : Rising H) : Ent (Blk h 28 [.map o] :: MapO kInt o (ps.map entW) :: AllA (ps.map wrA) :: L) (HubA h H :: L) :=
  fun w O hs => Ent.head (b := HubA h H) (a := AllA [Blk h 28 [.map o], MapO kInt o (ps.map entW), Pu ((ps.map (·.2)).Perm H ∧ Rising H), AllA (ps.map wrA)]) (fun _ _ k => ⟨o, ps, k⟩) w O (ent_all w O (Ent.cons (Ent.cons (Ent.pu ⟨hp, hr⟩)) w O hs))
theorem c_hub {h : Nat} {H : List Wr} (hc : ∀ (o : Option Nat) (ps : List (Nat × Wr)), (ps.map (·.2)).Perm H → Rising H → Cfg X k env (Blk h 28 [.map o] :: MapO kInt o (ps.map entW) :: AllA (ps.map wrA) :: L)) : Cfg X k env (HubA h H :: L) :=
  c_ex fun o => c_ex fun ps => c_all (c_pu (p := (ps.map fun p : Nat × Wr => p.2).Perm H ∧ Rising H) (.there (.there .here)) fun ⟨hp, hr⟩ => c_ent (Ent.cons (Ent.cons Ent.drop)) (hc o ps hp hr))
theorem wr_mk {b : Nat} {w : Wr} {v : Value} : Ent (Blk b 114 [.string w.2.1, v] :: NtsA v w.2.2 :: L) (wrA (b, w) :: L) :=
  fun W O hs => Ent.head (b := wrA (b, w)) (a := AllA [Blk b 114 [.string w.2.1, v], NtsA v w.2.2]) (fun _ _ k => ⟨v, k⟩) W O (ent_all W O hs)
theorem c_wr {b : Nat} {w : Wr} (hc : ∀ v, Cfg X k env (Blk b 114 [.string w.2.1, v] :: NtsA v w.2.2 :: L)) : Cfg X k env (wrA (b, w) :: L) := c_ex fun v => c_all (hc v)
theorem nts_mk {v : Value} {qs : List (Value × Nt)} {l : List Nt} (h : qs.map (·.2) = l) : Ent (Own eNr 60 v (qs.map rawN) :: AllA (qs.map noteA) :: L) (NtsA v l :: L) :=
  fun W O hs => Ent.head (b := NtsA v l) (a := AllA [Own eNr 60 v (qs.map rawN), Pu (qs.map (·.2) = l), AllA (qs.map noteA)]) (fun _ _ k => ⟨qs, k⟩) W O (ent_all W O (Ent.cons (Ent.pu h) W O hs))
theorem c_nts {v : Value} {l : List Nt} (hc : ∀ qs : List (Value × Nt), qs.map (·.2) = l → Cfg X k env (Own eNr 60 v (qs.map rawN) :: AllA (qs.map noteA) :: L)) : Cfg X k env (NtsA v l :: L) :=
  c_ex fun qs => c_all (c_pu (p := (qs.map fun q : Value × Nt => q.2) = l) (.there .here) fun h => c_ent (Ent.cons Ent.drop) (hc qs h))
theorem c_pull {ps1 ps2 : List (Nat × Wr)} {b : Nat} {w : Wr} (h : Cfg X k env (wrA (b, w) :: AllA ((ps1 ++ ps2).map wrA) :: L)) : Cfg X k env (AllA ((ps1 ++ (b, w) :: ps2).map wrA) :: L) := c_ent pull_wr h
theorem hub_close {h : Nat} {o : Option Nat} {ps1 ps2 : List (Nat × Wr)} {b : Nat} {x : Wr} {v : Value} {H : List Wr} (hp : ((ps1 ++ (b, x) :: ps2).map (·.2)).Perm H) (hr : Rising H) :
    Ent (Blk b 114 [.string x.2.1, v] :: NtsA v x.2.2 :: AllA ((ps1 ++ ps2).map wrA) :: Blk h 28 [.map o] :: MapO kInt o ((ps1 ++ (b, x) :: ps2).map entW) :: L) (HubA h H :: L) :=
  Ent.trans wr_mk (Ent.trans push_wr (Ent.trans (Ent.perm (by
    refine List.Perm.trans (List.Perm.swap _ _ _) (List.Perm.cons _ (List.Perm.swap _ _ _)))) (hub_mk hp hr)))
/-- One watcher is at hand. -/
theorem c_hub_at {h : Nat} {H : List Wr} {id : Int} (hno : (∀ x ∈ H, x.1 ≠ id) → ∀ (o : Option Nat) (ps : List (Nat × Wr)), (ps.map (·.2)).Perm H → Rising H → Go.SL.look (ps.map entW) id = none → (∀ p ∈ ps, p.2.1 ≠ id) → Cfg X k env (Blk h 28 [.map o] :: MapO kInt o (ps.map entW) :: AllA (ps.map wrA) :: L))
    (hyes : ∀ x ∈ H, x.1 = id → ∀ (o : Option Nat) (ps1 ps2 : List (Nat × Wr)) (b : Nat) (v : Value), ((ps1 ++ (b, x) :: ps2).map (·.2)).Perm H → Rising H → Go.SL.look ((ps1 ++ (b, x) :: ps2).map entW) id = some (.pointer (some ⟨b, 0, none⟩)) →
      Cfg X k env (Blk b 114 [.string x.2.1, v] :: NtsA v x.2.2 :: AllA ((ps1 ++ ps2).map wrA) :: Blk h 28 [.map o] :: MapO kInt o ((ps1 ++ (b, x) :: ps2).map entW) :: L)) : Cfg X k env (HubA h H :: L) := by
  refine c_hub fun o ps hp hr => ?_
  rcases look_ent ps id with ⟨hl, hn⟩ | ⟨ps1, b, x, ps2, rfl, hx, hl⟩
  · exact hno (fun x hxm => by
      obtain ⟨p, hpm, rfl⟩ := List.mem_map.1 (hp.mem_iff.2 hxm)
      exact hn p hpm) o ps hp hr hl hn
  · refine c_perm (List.Perm.trans (List.Perm.cons _ (List.Perm.swap _ _ _)) (List.Perm.swap _ _ _)) (c_pull (c_wr fun v => ?_))
    refine c_perm ?_ (hyes x (hp.mem_iff.1 (List.mem_map.2 ⟨(b, x), by simp, rfl⟩)) hx o ps1 ps2 b v hp hr hl)
    exact List.Perm.refl _
end
end Go.Proofs.Ytnamhhmfnokfiaa

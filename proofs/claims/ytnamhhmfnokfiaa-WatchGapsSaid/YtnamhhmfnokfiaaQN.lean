/- Loops over maps. -/
import Derived.Test.YtnamhhmfnokfiaaQM
import Derived.Maps.RangeRun
namespace Go.SL
open Go
section
variable {κ : Type} [DecidableEq κ] (ke : KeyEnc κ)
theorem KeyEnc.inj {a b : κ} (h : ke.val a = ke.val b) : a = b := by
  have h1 := ke.now a b
  rw [← h, ke.now a a] at h1
  simpa using h1.symm
theorem ents_mem {es : List MapEntry} {m : List (κ × Value)} (h : Ents ke es m) {e : MapEntry} (he : e ∈ es) : ∃ p ∈ m, e.key = ke.val p.1 ∧ e.val = p.2 := by
  have : (e.key, e.val) ∈ m.map (fun p => (ke.val p.1, p.2)) := by rw [← h]; exact List.mem_map.2 ⟨e, he, rfl⟩
  obtain ⟨p, hp, hpe⟩ := List.mem_map.1 this
  simp only [Prod.mk.injEq] at hpe
  exact ⟨p, hp, hpe.1.symm, hpe.2.symm⟩
theorem mem_ents {es : List MapEntry} {m : List (κ × Value)} (h : Ents ke es m) {p : κ × Value} (hp : p ∈ m) : ∃ e ∈ es, e.key = ke.val p.1 ∧ e.val = p.2 := by
  have : (ke.val p.1, p.2) ∈ es.map (fun e => (e.key, e.val)) := by rw [h]; exact List.mem_map.2 ⟨p, hp, rfl⟩
  obtain ⟨e, he, hpe⟩ := List.mem_map.1 this
  simp only [Prod.mk.injEq] at hpe
  exact ⟨e, he, hpe.1, hpe.2⟩
theorem ents_keys {es : List MapEntry} {m : List (κ × Value)} (h : Ents ke es m) (hn : (m.map fun p : κ × Value => p.1).Nodup) : (es.map fun e : MapEntry => e.key).Nodup := by
  have e1 : (es.map fun e : MapEntry => e.key) = (m.map fun p : κ × Value => p.1).map ke.val := by
    have := congrArg (List.map Prod.fst) h
    simpa [List.map_map, Function.comp_def] using this
  rw [e1]
  exact List.Pairwise.map _ (fun a b hab e => hab (ke.inj e)) hn
theorem nodup_inj {α β : Type} {f : α → β} : ∀ {l : List α}, (l.map f).Nodup → ∀ {a b : α}, a ∈ l → b ∈ l → f a = f b → a = b
  | x :: l, h, a, b, ha, hb, e => by
    rw [List.map_cons, List.nodup_cons] at h
    rcases List.mem_cons.1 ha with h1 | h1 <;> rcases List.mem_cons.1 hb with h2 | h2
    · rw [h1, h2]
    · exact absurd (List.mem_map.2 ⟨b, h2, by rw [← h1]; exact e.symm⟩) h.1
    · exact absurd (List.mem_map.2 ⟨a, h1, by rw [← h2]; exact e⟩) h.1
    · exact nodup_inj h.2 h1 h2 e

def Seen (es : List MapEntry) (seen : List Nat) (pre : List κ) : Prop := ∃ ps : List MapEntry, (ps.map fun e : MapEntry => e.key) = pre.map ke.val ∧ seen = (ps.map fun e : MapEntry => e.born) ∧ ∀ e ∈ ps, e ∈ es
/-- A map that is being gone through: the keys of pre have come. -/
def MapIt (it b : Nat) (m : List (κ × Value)) (pre : List κ) : A where
  h := fun w O => 2 ≤ O it ∧ 2 ≤ O b ∧ ∃ es clock seen, w.heap[b]? = some (.map es clock) ∧ w.heap[it]? = some (.mapIter (some b) clock seen clock) ∧ Ents ke es.toList m ∧ (es.toList.map fun e : MapEntry => e.born).Nodup ∧ (∀ e ∈ es.toList, e.born < clock) ∧
    (m.map fun p : κ × Value => p.1).Nodup ∧ Seen ke es.toList seen.toList pre
  mono := fun ⟨h1, h2, h3⟩ hO => ⟨Nat.le_trans h1 (hO _), Nat.le_trans h2 (hO _), h3⟩
  loc := fun {w w' O} ⟨h1, h2, es, c, seen, h3, h4, h5⟩ hw => ⟨h1, h2, es, c, seen, (hw b (by omega)).trans h3, (hw it (by omega)).trans h4, h5⟩
variable {X : Cx} {env : Env} {L L1 : List A} {T : TypeId} {x y : Operand} {K : Act → World → Prop} {kk : List Item} {pos : String} {af : Array Edge} {d : Nat}
theorem v_entry {it b : Nat} {m : List (κ × Value)} {pre : List κ} {k : κ} {v : Value} (hx : env.eval x = some (.pointer (some ⟨it, 0, none⟩))) (hkv : (k, v) ∈ m) (hm : Has L (MapIt ke it b m (pre ++ [k]))) : Val X env L (.entry x) T (.tuple #[ke.val k, v]) := by
  intro _ _ _ _ a w O ha hs
  obtain ⟨_, _, es, clock, seen, hb, hit, he, hbn, hbc, hnd, ps, hp1, hp2, hp3⟩ := hm w O hs
  obtain ⟨ps', e, rfl⟩ : ∃ ps' e, ps = ps' ++ [e] := by
    have : ps ≠ [] := by rintro rfl; simp at hp1
    exact ⟨ps.dropLast, ps.getLast this, (List.dropLast_concat_getLast this).symm⟩
  simp only [List.map_append, List.map_cons, List.map_nil] at hp1 hp2
  have hk := List.append_inj' hp1 rfl
  have hek : e.key = ke.val k := by simpa using hk.2
  have hmem : e ∈ es.toList := hp3 e (by simp)
  obtain ⟨p, hpm, hpk, hpv⟩ := ents_mem ke he hmem
  have : p = (k, v) := nodup_inj hnd hpm hkv (ke.inj (hpk.symm.trans hek))
  subst this
  have hseen : seen = (ps'.map fun e : MapEntry => e.born).toArray.push e.born := by
    apply Array.toList_inj.1
    rw [hp2]; simp
  rw [hseen] at hit
  have hrun := run_entry_at (P := X.P) w it b clock _ es clock e hit hb hmem (by simpa using hbn)
  rw [hek, hpv] at hrun
  simp [execOp, ha.eval hx, hrun]

/-- A step: an entry that has not come yet, whichever; or all have come. -/
theorem s_next {it b : Nat} {m : List (κ × Value)} {pre : List κ} (hx : env.eval x = some (.pointer (some ⟨it, 0, none⟩))) (hne : it ≠ b) (hd : d < X.fn.ntmps) (hp : Pick (MapIt ke it b m pre) L L1)
    (kt : ∀ k v, (k, v) ∈ m → k ∉ pre → Kont X ((d, .tuple #[.bool true, ke.val k, v]) :: env) (MapIt ke it b m (pre ++ [k]) :: L1) K)
    (kf : (∀ k ∈ m.map (fun p : κ × Value => p.1), k ∈ pre) → Kont X ((d, .tuple #[.bool false]) :: env) (MapIt ke it b m pre :: L1) K) :
    StepK X kk ⟨some d, .next x false, T, pos, af, none⟩ env L K := by
  refine s_main (γ := Option (κ × Value)) (V := fun o => match o with | some (k, v) => .tuple #[.bool true, ke.val k, v] | none => .tuple #[.bool false])
    (pu := fun o => match o with | some (k, v) => (k, v) ∈ m ∧ k ∉ pre | none => ∀ k ∈ m.map (fun p : κ × Value => p.1), k ∈ pre)
    (L' := fun o => match o with | some (k, _) => MapIt ke it b m (pre ++ [k]) :: L1 | none => MapIt ke it b m pre :: L1) ?_ hd (fun o ho => match o, ho with | some (k, v), ho => kt k v ho.1 ho.2 | none, ho => kf ho)
  intro a w O ha hst hdom
  obtain ⟨O1, O2, s, ⟨q1, q2, es, clock, seen, hb, hit, he, hbn, hbc, hnd, ps, hp1, hp2, hp3⟩, hs2⟩ := hp w O hst
  have hkeys := ents_keys ke he hnd
  rcases run_next_at (P := X.P) w T it b clock clock seen es clock hit hb hbc (Nat.le_refl _) with ⟨h0, hrun⟩ | ⟨e, hel, w1, hw1, hrun⟩
  · refine ⟨none, w, O, by simp [execOp, ha.eval hx, hrun], ?_, ⟨O1, O2, s, ⟨q1, q2, es, clock, seen, hb, hit, he, hbn, hbc, hnd, ps, hp1, hp2, hp3⟩, hs2⟩, Rel.refl hdom⟩
    intro k hk
    obtain ⟨p, hpm, rfl⟩ := List.mem_map.1 hk
    obtain ⟨e, hee, hek, _⟩ := mem_ents ke he hpm
    have hall : seen.contains e.born = true := by
      have : (leftOf es seen).toList = [] := List.eq_nil_of_length_eq_zero (by simpa using h0)
      by_cases hc : seen.contains e.born = true
      · exact hc
      · exfalso
        have : e ∈ (leftOf es seen).toList := by
          unfold leftOf
          rw [Array.toList_filter, List.mem_filter]
          exact ⟨hee, by simpa using hc⟩
        rw [‹(leftOf es seen).toList = []›] at this
        cases this
    have hmem : e.born ∈ seen.toList := by simpa using hall
    rw [hp2] at hmem
    obtain ⟨e', he', hbb⟩ := List.mem_map.1 hmem
    have : e' = e := nodup_inj hbn (hp3 e' he') hee hbb
    subst this
    have : ke.val p.1 ∈ pre.map ke.val := by rw [← hp1]; exact List.mem_map.2 ⟨e', he', hek⟩
    obtain ⟨k', hk', hkk⟩ := List.mem_map.1 this
    rw [← ke.inj hkk]; exact hk'
  · unfold leftOf at hel
    rw [Array.toList_filter, List.mem_filter] at hel
    obtain ⟨hee, hns⟩ := hel
    obtain ⟨p, hpm, hpk, hpv⟩ := ents_mem ke he hee
    have hsz : it < w.heap.size := hdom it (by have := s.l it; omega)
    have hw : ∀ c, (ChangeMaps.setBlock w1 it (.mapIter (some b) clock (seen.push e.born) clock)).heap[c]? = if c = it then some (.mapIter (some b) clock (seen.push e.born) clock) else w.heap[c]? := by
      intro c
      have hh : w1.heap = w.heap := by rcases hw1 with rfl | rfl <;> rfl
      simp only [ChangeMaps.setBlock, hh]
      by_cases hc : c = it
      · subst hc; simp [hsz]
      · rw [if_neg hc, Array.getElem?_setIfInBounds_ne (Ne.symm hc)]
    have hrest : w1.os = w.os ∧ w1.tape = w.tape ∧ w1.output = w.output ∧ w1.heap.size = w.heap.size := by rcases hw1 with rfl | rfl <;> exact ⟨rfl, rfl, rfl, rfl⟩
    refine ⟨some (p.1, p.2), ChangeMaps.setBlock w1 it (.mapIter (some b) clock (seen.push e.born) clock), O, ?_, ⟨hpm, ?_⟩, ⟨O1, O2, s, ⟨q1, q2, es, clock, seen.push e.born, ?_, ?_, he, hbn, hbc, hnd, ps ++ [e], ?_, ?_, ?_⟩, hs2.loc fun c hc => ?_⟩, ⟨hrest.1, hrest.2.1, hrest.2.2.1, ?_, fun c hc hlt => ?_, fun _ _ => Nat.le_refl _, fun c hc => ?_⟩⟩
    · simp [execOp, ha.eval hx, hrun, hpk, hpv]
    · intro hk
      have : ke.val p.1 ∈ ps.map fun e : MapEntry => e.key := by rw [hp1]; exact List.mem_map.2 ⟨p.1, hk, rfl⟩
      obtain ⟨e', he', hek⟩ := List.mem_map.1 this
      have : e' = e := nodup_inj hkeys (hp3 e' he') hee (hek.trans hpk.symm)
      subst this
      have : e'.born ∈ seen.toList := by rw [hp2]; exact List.mem_map.2 ⟨e', he', rfl⟩
      simp at hns
      exact hns (by simpa using this)
    · rw [hw, if_neg (Ne.symm hne)]; exact hb
    · rw [hw, if_pos rfl]
    · simp [hp1, hpk]
    · simp [hp2]
    · intro e' he'
      rcases List.mem_append.1 he' with h | h
      · exact hp3 e' h
      · rw [List.mem_singleton.1 h]; exact hee
    · have : c ≠ it := by intro e; subst e; have := s.lr c q1; omega
      rw [hw, if_neg this]
    · simp [ChangeMaps.setBlock, hrest.2.2.2]
    · have : c ≠ it := by intro e; subst e; have := s.l c; omega
      rw [hw, if_neg this]
    · simp [ChangeMaps.setBlock, hrest.2.2.2]; exact hdom c hc

theorem s_range_map {t kt et : TypeId} {b : Nat} {m : List (κ × Value)} (hu : X.P.underlying t = some (.map kt et)) (hx : env.eval x = some (.map (some b))) (hd : d < X.fn.ntmps) (hp : Pick (MapA ke b m) L L1)
    (k : ∀ it, it ≠ b → Kont X ((d, .pointer (some ⟨it, 0, none⟩)) :: env) (MapIt ke it b m [] :: L1) K) : StepK X kk ⟨some d, .range t x, T, pos, af, none⟩ env L K := by
  refine s_main (γ := Nat) (V := fun it => .pointer (some ⟨it, 0, none⟩)) (pu := fun it => it ≠ b) (L' := fun it => MapIt ke it b m [] :: L1) ?_ hd (fun it hit => k it hit)
  intro a w O ha hst hdom
  obtain ⟨O1, O2, s, ⟨h1, es, clock, hh, he, hbn, hbc, hnd⟩, hs2⟩ := hp w O hst
  have hb : b < w.heap.size := hdom b (by have := s.l b; omega)
  have hget : (getObj b).run X.P w = .ok (.map es clock) w := by simp [getObj, Sem.run, hh]
  have hold : ∀ c, c < w.heap.size → (w.alloc (.mapIter (some b) clock #[] clock)).heap[c]? = w.heap[c]? := fun c hc => by
    show (w.heap.push _)[c]? = _
    rw [Array.getElem?_push, if_neg (by omega)]
  have hn : O w.heap.size = 0 := by
    rcases Nat.eq_zero_or_pos (O w.heap.size) with h | h
    · exact h
    · have := hdom w.heap.size (by omega); omega
  refine ⟨w.heap.size, w.alloc (.mapIter (some b) clock #[] clock), fresh w O, ?_, by omega, ?_, rel_alloc _ hdom⟩
  · have hrun : (Instr.range t (.map (some b))).run X.P w = .ok (.pointer (some ⟨w.heap.size, 0, none⟩)) (w.alloc (.mapIter (some b) clock #[] clock)) := by
      simp [Instr.range, run_underlying hu, hget]
    simp [execOp, ha.eval hx, hrun]
  · refine ⟨fresh w O1, O2, ⟨fun c => ?_, fun c => ?_, fun c hc => ?_, fun c hc => ?_⟩, ⟨by simp [fresh], ?_, es, clock, #[], ?_, heap_alloc w _, he, hbn, hbc, hnd, [], rfl, rfl, fun e h => by cases h⟩, hs2.loc fun c hc => hold c (hdom c (by have := s.r c; omega))⟩
    · simp only [fresh]; split
      · exact Nat.le_refl _
      · exact s.l c
    · simp only [fresh]; split
      · rename_i h; have := s.r c; rw [h] at this ⊢; omega
      · exact s.r c
    · simp only [fresh] at hc
      split at hc
      · rename_i h; have := s.r c; rw [h] at this ⊢; omega
      · exact s.lr c hc
    · have h1' := s.rl c hc
      simp only [fresh]; split
      · rename_i h; have := s.r c; rw [h] at this hc; omega
      · exact h1'
    · simp only [fresh]; split
      · omega
      · exact h1
    · rw [hold b hb]; exact hh
theorem Pick.map_it {it b : Nat} {m : List (κ × Value)} {pre : List κ} {L : List A} : Pick (MapA ke b m) (MapIt ke it b m pre :: L) L :=
  Pick.of Pick.here fun _ _ ⟨_, h2, es, clock, _, h3, _, h4, h5, h6, h7, _⟩ => ⟨h2, es, clock, h3, h4, h5, h6, h7⟩
end
end Go.SL

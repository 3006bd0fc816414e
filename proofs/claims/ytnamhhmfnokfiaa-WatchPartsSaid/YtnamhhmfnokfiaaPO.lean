import Derived.Test.YtnamhhmfnokfiaaLS
/- Orders of strings and numbers: sorted rows, rows without repeats. -/
namespace Go.Proofs.Ytnamhhmfnokfiaa
open Go Go.SL

def ltS (a b : ByteArray) : Bool := Op.bytesLess a.data.toList b.data.toList
theorem bl_irrefl : ∀ x : List UInt8, Op.bytesLess x x = false
  | [] => rfl
  | a :: x => by simp [Op.bytesLess, bl_irrefl x]
theorem bl_trans : ∀ {x y z : List UInt8}, Op.bytesLess x y = true → Op.bytesLess y z = true → Op.bytesLess x z = true
  | _, _, [], _, h => by simp [Op.bytesLess] at h
  | _, [], _ :: _, h, _ => by simp [Op.bytesLess] at h
  | [], _ :: _, _ :: _, _, _ => rfl
  | a :: x, b :: y, c :: z, h, k => by
    simp only [Op.bytesLess, Bool.or_eq_true, decide_eq_true_iff, Bool.and_eq_true, beq_iff_eq] at h k ⊢
    rcases h with h | ⟨rfl, h⟩ <;> rcases k with k | ⟨rfl, k⟩
    · exact .inl (UInt8.lt_trans h k)
    · exact .inl h
    · exact .inl k
    · exact .inr ⟨rfl, bl_trans h k⟩
theorem bl_tri : ∀ {x y : List UInt8}, Op.bytesLess x y = false → Op.bytesLess y x = false → x = y
  | [], [], _, _ => rfl
  | [], _ :: _, h, _ => by simp [Op.bytesLess] at h
  | _ :: _, [], _, h => by simp [Op.bytesLess] at h
  | a :: x, b :: y, h, k => by
    simp only [Op.bytesLess, Bool.or_eq_false_iff, decide_eq_false_iff_not, Bool.and_eq_false_iff, beq_eq_false_iff_ne] at h k
    have hab : a = b := by
      have h1 := h.1; have k1 := k.1
      rw [UInt8.lt_iff_toNat_lt] at h1 k1
      exact UInt8.toNat_inj.1 (by omega)
    subst hab
    rw [bl_tri (h.2.resolve_left (by simp)) (k.2.resolve_left (by simp))]
theorem ltS_irrefl (a : ByteArray) : ltS a a = false := bl_irrefl _
theorem ltS_trans {a b c : ByteArray} (h : ltS a b = true) (k : ltS b c = true) : ltS a c = true := bl_trans h k
theorem ltS_tri {a b : ByteArray} (h : ltS a b = false) (k : ltS b a = false) : a = b := by
  have := bl_tri h k
  cases a; cases b; simp only at this; congr 1; exact Array.ext' this
theorem ltS_asymm {a b : ByteArray} (h : ltS a b = true) : ltS b a = false := by
  cases k : ltS b a with
  | false => rfl
  | true => have := ltS_trans h k; rw [ltS_irrefl] at this; cases this

/-- Two rising rows of the same members are the same. -/
theorem rising_eq {α : Type} {lt : α → α → Prop} (irr : ∀ a, ¬ lt a a) (tr : ∀ a b c, lt a b → lt b c → lt a c) : ∀ {l r : List α}, l.Pairwise lt → r.Pairwise lt → (∀ x, x ∈ l ↔ x ∈ r) → l = r
  | [], [], _, _, _ => rfl
  | [], b :: r, _, _, h => by have := (h b).2 (by simp); cases this
  | a :: l, [], _, _, h => by have := (h a).1 (by simp); cases this
  | a :: l, b :: r, hl, hr, h => by
    obtain ⟨h1, h2⟩ := List.pairwise_cons.1 hl
    obtain ⟨k1, k2⟩ := List.pairwise_cons.1 hr
    have hab : a = b := by
      rcases List.mem_cons.1 ((h a).1 (by simp)) with e | e
      · exact e
      · rcases List.mem_cons.1 ((h b).2 (by simp)) with e' | e'
        · exact e'.symm
        · exact absurd (tr _ _ _ (h1 b e') (k1 a e)) (irr a)
    subst hab
    rw [rising_eq irr tr h2 k2 fun x => ?_]
    constructor
    · intro hx
      rcases List.mem_cons.1 ((h x).1 (by simp [hx])) with e | e
      · subst e; exact absurd (h1 x hx) (irr x)
      · exact e
    · intro hx
      rcases List.mem_cons.1 ((h x).2 (by simp [hx])) with e | e
      · subst e; exact absurd (k1 x hx) (irr x)
      · exact e
/-- Of a sorted row, each once. -/
theorem compact_spec {α : Type} [Inhabited α] [DecidableEq α] {lt : α → α → Prop} (irr : ∀ a, ¬ lt a a) (tr : ∀ a b c, lt a b → lt b c → lt a c) {d : List α} (hs : d.Pairwise fun a b => lt a b ∨ a = b) :
    (Lib.compact d).Pairwise lt ∧ ∀ x, x ∈ Lib.compact d ↔ x ∈ d := by
  have key : ∀ m, m ≤ d.length → (Lib.compactUpTo d.toArray m).Pairwise lt ∧ (∀ x, x ∈ Lib.compactUpTo d.toArray m ↔ x ∈ d.take m) ∧ ∀ x ∈ d.take m, ∀ y, d[m - 1]? = some y → 0 < m → lt x y ∨ x = y := by
    intro m
    induction m with
    | zero => exact fun _ => ⟨by simp [Lib.compactUpTo], by simp [Lib.compactUpTo], by simp⟩
    | succ m ih =>
      intro hm
      obtain ⟨h1, h2, h3⟩ := ih (by omega)
      have hlt : m < d.length := by omega
      have hget : d.toArray[m]! = d[m] := by simp [hlt]
      have htk : d.take (m + 1) = d.take m ++ [d[m]] := List.take_succ_eq_append_getElem hlt
      have h4 : ∀ x ∈ d.take (m + 1), lt x d[m] ∨ x = d[m] := by
        intro x hx
        obtain ⟨j, hj, rfl⟩ := List.mem_iff_getElem.1 hx
        simp only [List.length_take] at hj
        rw [List.getElem_take]
        rcases Nat.lt_or_ge j m with h | h
        · exact List.pairwise_iff_getElem.1 hs j m (by omega) hlt h
        · have : j = m := by omega
          subst this; exact .inr rfl
      rw [Lib.compactUpTo_succ]
      refine ⟨?_, ?_, ?_⟩
      · by_cases hk : Lib.keeps d.toArray m = true
        · rw [if_pos hk, hget]
          refine List.pairwise_append.2 ⟨h1, by simp, fun x hx y hy => ?_⟩
          rw [List.mem_singleton.1 hy]
          have hx' := (h2 x).1 hx
          rcases h4 x (by rw [htk]; exact List.mem_append_left _ hx') with h | h
          · exact h
          · -- x equals d[m], though d[m] differs from the one ahead of it
            subst h
            exfalso
            have hm0 : 0 < m := by
              rcases Nat.eq_zero_or_pos m with h0 | h0
              · subst h0; simp at hx'
              · exact h0
            simp only [Lib.keeps, decide_eq_true_iff] at hk
            have hne := hk.resolve_left (by omega)
            have hm1 : m - 1 < d.length := by omega
            rw [hget, show d.toArray[m - 1]! = d[m - 1] by simp [hm1]] at hne
            have e1 : lt d[m] d[m - 1] ∨ d[m] = d[m - 1] := h3 _ hx' d[m - 1] (List.getElem?_eq_getElem hm1) hm0
            have e2 : lt d[m - 1] d[m] ∨ d[m - 1] = d[m] := List.pairwise_iff_getElem.1 hs (m - 1) m hm1 hlt (by omega)
            rcases e1 with e1 | e1
            · rcases e2 with e2 | e2
              · exact irr _ (tr _ _ _ e1 e2)
              · exact hne e2.symm
            · exact hne e1
        · rw [if_neg hk, List.append_nil]; exact h1
      · intro x
        rw [htk]
        by_cases hk : Lib.keeps d.toArray m = true
        · rw [if_pos hk, hget, List.mem_append, List.mem_append, h2 x]
        · rw [if_neg hk, List.append_nil, h2 x, List.mem_append]
          constructor
          · exact .inl
          · rintro (h | h)
            · exact h
            · rw [List.mem_singleton.1 h]
              simp only [Lib.keeps, decide_eq_true_iff, not_or, Classical.not_not] at hk
              have hm1 : m - 1 < d.length := by omega
              rw [hget, show d.toArray[m - 1]! = d[m - 1] by simp [hm1]] at hk
              rw [hk.2]
              exact List.mem_iff_getElem.2 ⟨m - 1, by simp; omega, by rw [List.getElem_take]⟩
      · intro x hx y hy _
        simp only [Nat.add_sub_cancel, List.getElem?_eq_getElem hlt, Option.some.injEq] at hy
        subst hy
        exact h4 x hx
  have := key d.length (Nat.le_refl _)
  rw [List.take_length] at this
  exact ⟨by simpa [Lib.compact] using this.1, by simpa [Lib.compact] using this.2.1⟩
theorem leS_iff (a b : List UInt8) : decide (a ≤ b) = !Op.bytesLess b a := by
  rw [Go.Proofs.bytesLess_eq]
  by_cases h : b < a
  · rw [decide_eq_true h, decide_eq_false (by rw [List.not_le]; exact h)]; rfl
  · rw [decide_eq_false h, decide_eq_true (List.not_lt.1 h)]; rfl
def leS (a b : ByteArray) : Prop := ltS a b = true ∨ a = b
theorem sortS_mem (xs : List ByteArray) (x : ByteArray) : x ∈ sortS xs ↔ x ∈ xs := by
  simp only [sortS, List.mem_map, List.mem_mergeSort]
  constructor
  · rintro ⟨l, ⟨y, hy, rfl⟩, rfl⟩; exact hy
  · intro h; exact ⟨sbs x, ⟨x, h, rfl⟩, rfl⟩
theorem sortS_sorted (xs : List ByteArray) : (sortS xs).Pairwise fun a b => ltS a b = true ∨ a = b := by
  unfold sortS
  refine List.Pairwise.map (R := fun a b : List UInt8 => decide (a ≤ b) = true) bss ?_ ?_
  · intro a b h
    rw [leS_iff] at h
    have h' : Op.bytesLess b a = false := by simpa using h
    cases k : Op.bytesLess a b with
    | true => exact .inl k
    | false => exact .inr (by rw [bl_tri k h'])
  · refine List.pairwise_mergeSort (fun a b c => ?_) (fun a b => ?_) _
    · simp only [leS_iff, Bool.not_eq_true']
      intro h k
      cases g : Op.bytesLess c a with
      | false => rfl
      | true =>
        exfalso
        cases g1 : Op.bytesLess a b with
        | true => have := bl_trans g g1; rw [k] at this; cases this
        | false => have := bl_tri g1 h; subst this; rw [k] at g; cases g
    · simp only [leS_iff, Bool.or_eq_true, Bool.not_eq_true']
      cases g : Op.bytesLess b a with
      | false => exact .inl rfl
      | true =>
        right
        cases g1 : Op.bytesLess a b with
        | false => rfl
        | true => have := bl_trans g g1; rw [bl_irrefl] at this; cases this
theorem sortI_mem (xs : List Int) (x : Int) : x ∈ sortI xs ↔ x ∈ xs := List.mem_mergeSort
theorem sortI_sorted (xs : List Int) : (sortI xs).Pairwise fun a b => a < b ∨ a = b := by
  refine List.Pairwise.imp (R := fun a b : Int => decide (a ≤ b) = true) ?_ (List.pairwise_mergeSort (fun a b c h k => ?_) (fun a b => ?_) _)
  · intro a b h
    have : a ≤ b := by simpa using h
    omega
  · simp at h k ⊢; omega
  · simp; omega
theorem inhabited_sbs : (default : List UInt8) = [] := rfl
/-- The members, each once, rising. -/
def setS (xs : List ByteArray) : List ByteArray := compS (sortS xs)
def setI (xs : List Int) : List Int := compI (sortI xs)
theorem setS_spec (xs : List ByteArray) : (setS xs).Pairwise (fun a b => ltS a b = true) ∧ ∀ x, x ∈ setS xs ↔ x ∈ xs := by
  have h := compact_spec (lt := fun a b : List UInt8 => Op.bytesLess a b = true) (fun a => by simp [bl_irrefl]) (fun a b c => bl_trans) (d := (sortS xs).map sbs) (List.Pairwise.map sbs (fun a b h => by
    rcases h with h | h
    · exact .inl h
    · exact .inr (by rw [h])) (sortS_sorted xs))
  refine ⟨List.Pairwise.map bss (fun a b h => h) h.1, fun x => ?_⟩
  unfold setS compS
  rw [List.mem_map, ← sortS_mem xs x]
  constructor
  · rintro ⟨l, hl, rfl⟩
    obtain ⟨y, hy, rfl⟩ := List.mem_map.1 ((h.2 l).1 hl)
    exact hy
  · intro hx
    exact ⟨sbs x, (h.2 _).2 (List.mem_map.2 ⟨x, hx, rfl⟩), rfl⟩
theorem setI_spec (xs : List Int) : (setI xs).Pairwise (fun a b => a < b) ∧ ∀ x, x ∈ setI xs ↔ x ∈ xs := by
  have h := compact_spec (lt := fun a b : Int => a < b) (fun a => by omega) (fun a b c => by omega) (sortI_sorted xs)
  exact ⟨h.1, fun x => by rw [← sortI_mem xs x]; exact h.2 x⟩
/-- A rising row that has the members of another one. -/
theorem sortI_of_rising {xs ys : List Int} (hy : ys.Pairwise (· < ·)) (hn : xs.Nodup) (hm : ∀ x, x ∈ xs ↔ x ∈ ys) : sortI xs = ys := by
  refine rising_eq (lt := (· < ·)) (fun a => by omega) (fun a b c => by omega) ?_ hy fun x => by rw [sortI_mem, hm]
  have h1 := sortI_sorted xs
  have h2 : (sortI xs).Nodup := (List.mergeSort_perm xs _).nodup_iff.2 hn
  exact (List.Pairwise.and h1 h2).imp fun ⟨a, b⟩ => a.resolve_right b
end Go.Proofs.Ytnamhhmfnokfiaa

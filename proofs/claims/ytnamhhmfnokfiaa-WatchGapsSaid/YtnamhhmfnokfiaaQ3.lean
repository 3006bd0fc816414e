/- Readings of memory: encodings, slices, rows of one's own, blocks. -/
import Derived.Test.YtnamhhmfnokfiaaQ2
import Derived.Laws.AppendOwn
import Derived.Laws.OwnMore
import Derived.Laws.MakeOwn
import Derived.Laws.Cells
namespace Go.SL
open Go

/-- How a value of α lies in cells. -/
structure Enc (α : Type) where
  n : Nat
  rd : World → Perm → List Value → α → Prop
  len : ∀ {w O cs x}, rd w O cs x → cs.length = n
  one : ∀ {w O cs x}, rd w O cs x → ∀ u ∈ cs, u.oneCell' = true
  mono : ∀ {w O O' cs x}, rd w O cs x → (∀ b, O b ≤ O' b) → rd w O' cs x
  loc : ∀ {w w' : World} {O : Perm} {cs x}, rd w O cs x → (∀ b, O b ≠ 0 → w'.heap[b]? = w.heap[b]?) → rd w' O cs x
  dup : ∀ {w O cs x}, rd w O cs x → rd w (fun b => min (O b) 1) cs x

def Rows {α : Type} (e : Enc α) (w : World) (O : Perm) : List Value → List α → Prop
  | cs, [] => cs = []
  | cs, x :: xs => ∃ c1 c2, cs = c1 ++ c2 ∧ e.rd w O c1 x ∧ Rows e w O c2 xs

section
variable {α : Type} {e : Enc α} {w w' : World} {O O' : Perm} {cs : List Value} {xs : List α}
theorem Rows.mono (h : Rows e w O cs xs) (hO : ∀ b, O b ≤ O' b) : Rows e w O' cs xs := by
  induction xs generalizing cs with
  | nil => exact h
  | cons x xs ih => obtain ⟨c1, c2, rfl, h1, h2⟩ := h; exact ⟨c1, c2, rfl, e.mono h1 hO, ih h2⟩
theorem Rows.loc (h : Rows e w O cs xs) (hw : ∀ b, O b ≠ 0 → w'.heap[b]? = w.heap[b]?) : Rows e w' O cs xs := by
  induction xs generalizing cs with
  | nil => exact h
  | cons x xs ih => obtain ⟨c1, c2, rfl, h1, h2⟩ := h; exact ⟨c1, c2, rfl, e.loc h1 hw, ih h2⟩
theorem Rows.dup (h : Rows e w O cs xs) : Rows e w (fun b => min (O b) 1) cs xs := by
  induction xs generalizing cs with
  | nil => exact h
  | cons x xs ih => obtain ⟨c1, c2, rfl, h1, h2⟩ := h; exact ⟨c1, c2, rfl, e.dup h1, ih h2⟩
theorem Rows.length (h : Rows e w O cs xs) : cs.length = xs.length * e.n := by
  induction xs generalizing cs with
  | nil => cases h; simp
  | cons x xs ih => obtain ⟨c1, c2, rfl, h1, h2⟩ := h; rw [List.length_append, e.len h1, ih h2, List.length_cons, Nat.add_mul]; omega
theorem Rows.one (h : Rows e w O cs xs) : ∀ u ∈ cs, u.oneCell' = true := by
  induction xs generalizing cs with
  | nil => cases h; simp
  | cons x xs ih =>
    obtain ⟨c1, c2, rfl, h1, h2⟩ := h
    intro u hu
    rcases List.mem_append.1 hu with hu | hu
    · exact e.one h1 u hu
    · exact ih h2 u hu
theorem Rows.append {ds : List Value} {ys : List α} (h : Rows e w O cs xs) (k : Rows e w O ds ys) : Rows e w O (cs ++ ds) (xs ++ ys) := by
  induction xs generalizing cs with
  | nil => cases h; exact k
  | cons x xs ih => obtain ⟨c1, c2, rfl, h1, h2⟩ := h; exact ⟨c1, c2 ++ ds, by simp, h1, ih h2⟩
theorem Rows.take (h : Rows e w O cs xs) (k : Nat) : Rows e w O (cs.take (k * e.n)) (xs.take k) := by
  induction xs generalizing cs k with
  | nil => cases h; simp [Rows]
  | cons x xs ih =>
    obtain ⟨c1, c2, rfl, h1, h2⟩ := h
    cases k with
    | zero => simp [Rows]
    | succ k =>
      have hl := e.len h1
      refine ⟨c1, c2.take (k * e.n), ?_, h1, ih h2 k⟩
      rw [List.take_append, hl, show (k + 1) * e.n - e.n = k * e.n by rw [Nat.add_mul]; omega, List.take_of_length_le (by rw [hl, Nat.add_mul]; omega)]
theorem Rows.drop (h : Rows e w O cs xs) (k : Nat) : Rows e w O (cs.drop (k * e.n)) (xs.drop k) := by
  induction xs generalizing cs k with
  | nil => cases h; simp [Rows]
  | cons x xs ih =>
    cases k with
    | zero => simpa using h
    | succ k =>
      obtain ⟨c1, c2, rfl, h1, h2⟩ := h
      have hl := e.len h1
      rw [List.drop_append, hl, show (k + 1) * e.n - e.n = k * e.n by rw [Nat.add_mul]; omega, List.drop_of_length_le (by rw [hl, Nat.add_mul]; omega)]
      exact ih h2 k
theorem Rows.get (h : Rows e w O cs xs) {i : Nat} {x : α} (hx : xs[i]? = some x) : ∃ c, e.rd w O c x ∧ ∀ j u, c[j]? = some u → cs[i * e.n + j]? = some u := by
  induction xs generalizing cs i with
  | nil => simp at hx
  | cons y xs ih =>
    obtain ⟨c1, c2, rfl, h1, h2⟩ := h
    cases i with
    | zero =>
      simp only [List.getElem?_cons_zero, Option.some.injEq] at hx
      subst hx
      refine ⟨c1, h1, fun j u hj => ?_⟩
      have : j < c1.length := by
        rcases Nat.lt_or_ge j c1.length with h | h
        · exact h
        · rw [List.getElem?_eq_none h] at hj; cases hj
      rw [Nat.zero_mul, Nat.zero_add, List.getElem?_append_left this]; exact hj
    | succ i =>
      obtain ⟨c, hc, hj⟩ := ih h2 (i := i) (by simpa using hx)
      refine ⟨c, hc, fun j u hu => ?_⟩
      have hl := e.len h1
      rw [List.getElem?_append_right (by rw [hl, Nat.add_mul]; omega), hl, show (i + 1) * e.n + j - e.n = i * e.n + j by rw [Nat.add_mul]; omega]
      exact hj j u hu
theorem Rows.set (h : Rows e w O cs xs) {i : Nat} {x : α} {c : List Value} (hc : e.rd w O c x) (hi : i < xs.length) : Rows e w O (cs.take (i * e.n) ++ c ++ cs.drop ((i + 1) * e.n)) (xs.set i x) := by
  have h1 := h.take i
  have h2 := h.drop (i + 1)
  rw [List.set_eq_take_append_cons_drop, if_pos hi, List.append_assoc]
  exact h1.append ⟨c, cs.drop ((i + 1) * e.n), rfl, hc, h2⟩
theorem Rows.nil_iff : Rows e w O cs [] ↔ cs = [] := Iff.rfl
end

/-! ### slices that are read -/
def SlP {α : Type} (e : Enc α) (w : World) (O : Perm) (v : Value) (xs : List α) : Prop :=
  ∃ a cap, v = .slice a xs.length cap ∧ xs.length ≤ cap ∧ cap ≤ maxLen ∧
    (((a = none ∨ cap = 0) ∧ xs = []) ∨ ∃ b off cs, a = some ⟨b, off, none⟩ ∧ 1 ≤ O b ∧ Rows e w O cs xs ∧ ∀ j u, cs[j]? = some u → w.cell? ⟨b, off + j, none⟩ = some u)

theorem SlP.mono {α : Type} {e : Enc α} {w : World} {O O' : Perm} {v : Value} {xs : List α} (h : SlP e w O v xs) (hO : ∀ b, O b ≤ O' b) : SlP e w O' v xs := by
  obtain ⟨a, cap, rfl, h1, h2, h3⟩ := h
  refine ⟨a, cap, rfl, h1, h2, h3.imp id ?_⟩
  rintro ⟨b, off, cs, rfl, hb, hr, hc⟩
  exact ⟨b, off, cs, rfl, Nat.le_trans hb (hO b), hr.mono hO, hc⟩
theorem SlP.loc {α : Type} {e : Enc α} {w w' : World} {O : Perm} {v : Value} {xs : List α} (h : SlP e w O v xs) (hw : ∀ b, O b ≠ 0 → w'.heap[b]? = w.heap[b]?) : SlP e w' O v xs := by
  obtain ⟨a, cap, rfl, h1, h2, h3⟩ := h
  refine ⟨a, cap, rfl, h1, h2, h3.imp id ?_⟩
  rintro ⟨b, off, cs, rfl, hb, hr, hc⟩
  refine ⟨b, off, cs, rfl, hb, hr.loc hw, fun j u hj => ?_⟩
  rw [World.cell?_of_block (w := w) (hw b (by omega))]
  exact hc j u hj
theorem SlP.dup {α : Type} {e : Enc α} {w : World} {O : Perm} {v : Value} {xs : List α} (h : SlP e w O v xs) : SlP e w (fun b => min (O b) 1) v xs := by
  obtain ⟨a, cap, rfl, h1, h2, h3⟩ := h
  refine ⟨a, cap, rfl, h1, h2, h3.imp id ?_⟩
  rintro ⟨b, off, cs, rfl, hb, hr, hc⟩
  exact ⟨b, off, cs, rfl, by show 1 ≤ min (O b) 1; omega, hr.dup, hc⟩

/-- v reads as xs. -/
def Sl {α : Type} (e : Enc α) (v : Value) (xs : List α) : A := ⟨fun w O => SlP e w O v xs, SlP.mono, SlP.loc⟩
theorem Sl.isDup {α : Type} (e : Enc α) (v : Value) (xs : List α) : (Sl e v xs).Dup := fun _ _ h => SlP.dup h

/-! ### rows of one's own -/
/-- v is a row of one's own (elements of type T): it may be appended to; what its elements lead to is read. -/
def Own {α : Type} (e : Enc α) (T : TypeId) (v : Value) (xs : List α) : A where
  h := fun w O => ∃ O1 O2 cs, Split O O1 O2 ∧ w.ownsRow 0 T e.n v xs.length cs ∧ (∀ k, v.ownBlock = some k → 2 ≤ O1 k) ∧ Rows e w O2 cs xs
  mono := fun ⟨O1, O2, cs, s, h1, h2, h3⟩ hO => ⟨O1, O2, cs, s.mono hO, h1, h2, h3⟩
  loc := fun {w w' O} ⟨O1, O2, cs, s, h1, h2, h3⟩ hw => by
    refine ⟨O1, O2, cs, s, ⟨h1.1, h1.2.imp id ?_⟩, h2, h3.loc fun b hb => hw b (by have := s.r b; omega)⟩
    rintro ⟨g, cap, cur, rfl, hg, hh, r⟩
    have := h2 g (by simp [Value.ownBlock])
    exact ⟨g, cap, cur, rfl, hg, (hw g (by have := s.l g; omega)).trans hh, r⟩

theorem Own.sl {α : Type} {e : Enc α} {T : TypeId} {v : Value} {xs : List α} {w : World} {O : Perm} (h : (Own e T v xs).h w O) : (Sl e v xs).h w O := by
  obtain ⟨O1, O2, cs, s, h1, h2, h3⟩ := h
  rcases h1.2 with ⟨rfl, h0⟩ | ⟨g, cap, cur, rfl, _, hg, hle, hmx, hcs, htk⟩
  · have : xs = [] := List.eq_nil_of_length_eq_zero h0
    subst this
    exact ⟨none, 0, rfl, Nat.le_refl _, Nat.zero_le _, .inl ⟨.inl rfl, rfl⟩⟩
  · refine ⟨some ⟨g, 0, none⟩, cap, rfl, hle, hmx, .inr ⟨g, 0, cs, rfl, by have := h2 g (by simp [Value.ownBlock]); have := s.l g; omega, h3.mono s.r, fun j u hj => ?_⟩⟩
    have hjl : j < xs.length * e.n := by
      rcases Nat.lt_or_ge j cs.length with h | h
      · rw [h3.length] at h; exact h
      · rw [List.getElem?_eq_none h] at hj; cases hj
    simp only [World.cell?, hg, Nat.zero_add]
    rw [← htk, List.getElem?_take, if_pos hjl] at hj
    simpa using hj
theorem Own.nil {α : Type} (e : Enc α) (T : TypeId) (w : World) (O : Perm) : (Own e T (.slice none 0 0) ([] : List α)).h w O :=
  ⟨fun _ => 0, fun _ => 0, [], ⟨fun _ => Nat.zero_le _, fun _ => Nat.zero_le _, fun _ _ => rfl, fun _ _ => rfl⟩, ⟨by simp, .inl ⟨rfl, rfl⟩⟩, fun k hk => by simp [Value.ownBlock] at hk, rfl⟩
theorem Sl.nil {α : Type} (e : Enc α) (w : World) (O : Perm) : (Sl e (.slice none 0 0) ([] : List α)).h w O := Own.sl (T := 0) (Own.nil e 0 w O)

/-! ### blocks -/
/-- Block b is one's own, of type T, and holds just cs. -/
def Blk (b : Nat) (T : TypeId) (cs : List Value) : A where
  h := fun w O => 2 ≤ O b ∧ w.heap[b]? = some (.cells cs.toArray T (0, 0))
  mono := fun ⟨h1, h2⟩ hO => ⟨Nat.le_trans h1 (hO b), h2⟩
  loc := fun ⟨h1, h2⟩ hw => ⟨h1, (hw b (by omega)).trans h2⟩
/-- Block b may be read, and holds just cs. -/
def BlkR (b : Nat) (T : TypeId) (cs : List Value) : A where
  h := fun w O => 1 ≤ O b ∧ ∃ fz, w.heap[b]? = some (.cells cs.toArray T fz)
  mono := fun ⟨h1, h2⟩ hO => ⟨Nat.le_trans h1 (hO b), h2⟩
  loc := fun ⟨h1, fz, h2⟩ hw => ⟨h1, fz, (hw b (by omega)).trans h2⟩
theorem BlkR.isDup (b : Nat) (T : TypeId) (cs : List Value) : (BlkR b T cs).Dup := fun _ _ ⟨h1, h2⟩ => ⟨by show 1 ≤ min _ 1; omega, h2⟩
theorem Blk.r {b : Nat} {T : TypeId} {cs : List Value} {w : World} {O : Perm} (h : (Blk b T cs).h w O) : (BlkR b T cs).h w O := ⟨by have := h.1; omega, _, h.2⟩
/-- Cells that read as x. -/
def Rd {α : Type} (e : Enc α) (cs : List Value) (x : α) : A := ⟨fun w O => e.rd w O cs x, e.mono, e.loc⟩
theorem Rd.isDup {α : Type} (e : Enc α) (cs : List Value) (x : α) : (Rd e cs x).Dup := fun _ _ h => e.dup h
def Pu (p : Prop) : A := ⟨fun _ _ => p, fun h _ => h, fun h _ => h⟩
def ExA {γ : Type} (f : γ → A) : A := ⟨fun w O => ∃ g, (f g).h w O, fun ⟨g, h⟩ hO => ⟨g, (f g).mono h hO⟩, fun ⟨g, h⟩ hw => ⟨g, (f g).loc h hw⟩⟩
/-- Several in one. -/
def AllA (l : List A) : A := ⟨fun w O => Stars l w O, Stars.mono, Stars.loc⟩

/-! ### encodings -/
def eInt (K : IntKind) : Enc Int where
  n := 1
  rd := fun _ _ cs x => cs = [.int K x]
  len := fun h => by rw [h]; rfl
  one := fun h u hu => by rw [h] at hu; simp at hu; rw [hu]; rfl
  mono := fun h _ => h
  loc := fun h _ => h
  dup := fun h => h
def eBool : Enc Bool where
  n := 1
  rd := fun _ _ cs x => cs = [.bool x]
  len := fun h => by rw [h]; rfl
  one := fun h u hu => by rw [h] at hu; simp at hu; rw [hu]; rfl
  mono := fun h _ => h
  loc := fun h _ => h
  dup := fun h => h
def eStr : Enc ByteArray where
  n := 1
  rd := fun _ _ cs x => cs = [.string x]
  len := fun h => by rw [h]; rfl
  one := fun h u hu => by rw [h] at hu; simp at hu; rw [hu]; rfl
  mono := fun h _ => h
  loc := fun h _ => h
  dup := fun h => h
def ePair {α β : Type} (e : Enc α) (f : Enc β) : Enc (α × β) where
  n := e.n + f.n
  rd := fun w O cs x => ∃ c1 c2, cs = c1 ++ c2 ∧ e.rd w O c1 x.1 ∧ f.rd w O c2 x.2
  len := fun ⟨c1, c2, h, h1, h2⟩ => by rw [h, List.length_append, e.len h1, f.len h2]
  one := fun ⟨c1, c2, h, h1, h2⟩ u hu => by
    rw [h] at hu
    rcases List.mem_append.1 hu with hu | hu
    · exact e.one h1 u hu
    · exact f.one h2 u hu
  mono := fun ⟨c1, c2, h, h1, h2⟩ hO => ⟨c1, c2, h, e.mono h1 hO, f.mono h2 hO⟩
  loc := fun ⟨c1, c2, h, h1, h2⟩ hw => ⟨c1, c2, h, e.loc h1 hw, f.loc h2 hw⟩
  dup := fun ⟨c1, c2, h, h1, h2⟩ => ⟨c1, c2, h, e.dup h1, f.dup h2⟩
def eMap {α β : Type} (g : α → β) (e : Enc β) : Enc α where
  n := e.n
  rd := fun w O cs x => e.rd w O cs (g x)
  len := fun h => e.len h
  one := fun h => e.one h
  mono := fun h hO => e.mono h hO
  loc := fun h hw => e.loc h hw
  dup := fun h => e.dup h
def eSl {α : Type} (e : Enc α) : Enc (List α) where
  n := 1
  rd := fun w O cs xs => ∃ v, cs = [v] ∧ SlP e w O v xs
  len := fun ⟨_, h, _⟩ => by rw [h]; rfl
  one := fun ⟨v, h, a, cap, hv, _⟩ u hu => by rw [h] at hu; simp at hu; rw [hu, hv]; rfl
  mono := fun ⟨v, h, h1⟩ hO => ⟨v, h, h1.mono hO⟩
  loc := fun ⟨v, h, h1⟩ hw => ⟨v, h, h1.loc hw⟩
  dup := fun ⟨v, h, h1⟩ => ⟨v, h, h1.dup⟩

/-! ### elements -/
/-- Where element i of a slice lies. -/
def elemAddr : Value → Nat → Nat → Addr
  | .slice (some a) _ _, i, n => ⟨a.block, a.off + i * n, none⟩
  | _, _, _ => ⟨0, 0, none⟩
/-- Element i of v reads as z: its cells, with what they lead to beside. -/
def Elem {α : Type} (L : List A) (e : Enc α) (v : Value) (i : Nat) (z : α) : Prop :=
  ∀ w O, Stars L w O → ∃ c, Stars (Rd e c z :: L) w O ∧ (∃ b, 1 ≤ O b ∧ (elemAddr v i e.n).block = b) ∧ ∀ j u, c[j]? = some u → w.cell? ⟨(elemAddr v i e.n).block, (elemAddr v i e.n).off + j, none⟩ = some u
/-- What may be lent. -/
def Lend (a b : A) : Prop := ∀ w O, a.h w O → ∃ O1 O2, Split O O1 O2 ∧ a.h w O1 ∧ b.h w O2 ∧ ∀ q, O2 q ≤ 1
theorem Lend.dup {a b : A} (hd : a.Dup) (h : ∀ w O, a.h w O → b.h w O) : Lend a b := fun w O ha =>
  ⟨fun b => min (O b) 1, fun b => min (O b) 1, ⟨fun _ => by show min _ _ ≤ _; omega, fun _ => by show min _ _ ≤ _; omega, fun _ h => by have h' : 2 ≤ min _ 1 := h; omega, fun _ h => by have h' : 2 ≤ min _ 1 := h; omega⟩, hd w O ha, h _ _ (hd w O ha), fun _ => by show min _ 1 ≤ 1; omega⟩
theorem Lend.pick {a b : A} {L L' : List A} (hp : Pick a L L') (hl : Lend a b) : ∀ w O, Stars L w O → Stars (b :: a :: L') w O := by
  intro w O hs
  obtain ⟨O1, O2, s, h1, h2⟩ := hp w O hs
  obtain ⟨P1, P2, t, g1, g2, _⟩ := hl w O1 h1
  refine ⟨P2, fun b => max (P1 b) (O2 b), ⟨fun b => ?_, fun b => ?_, fun b => ?_, fun b => ?_⟩, g2, P1, O2, ⟨fun b => ?_, fun b => ?_, fun b => ?_, fun b => ?_⟩, g1, h2⟩ <;>
    (have := s.l b; have := s.r b; have := s.lr b; have := s.rl b; have := t.l b; have := t.r b; have := t.lr b; have := t.rl b; omega)
/-- Something lent lies beside the list itself. -/
def Beside (b : A) (L : List A) : Prop := ∀ w O, Stars L w O → Stars (b :: L) w O
theorem Beside.here {a b : A} {L : List A} (hl : Lend a b) : Beside b (a :: L) := Lend.pick Pick.here hl
theorem Beside.there {a b : A} {L : List A} (h : Beside b L) : Beside b (a :: L) := by
  intro w O hs
  obtain ⟨O1, O2, s, h1, h2⟩ := hs
  obtain ⟨P1, P2, t, g1, g2⟩ := h w O2 h2
  refine ⟨P1, fun b => max (O1 b) (P2 b), ⟨fun b => ?_, fun b => ?_, fun b => ?_, fun b => ?_⟩, g1, O1, P2, ⟨fun b => ?_, fun b => ?_, fun b => ?_, fun b => ?_⟩, h1, g2⟩ <;>
    (have := s.l b; have := s.r b; have := s.lr b; have := s.rl b; have := t.l b; have := t.r b; have := t.lr b; have := t.rl b; omega)

theorem cell_in {cs : List Value} {j : Nat} {u : Value} (h : cs[j]? = some u) : j < cs.length := by
  rcases Nat.lt_or_ge j cs.length with h' | h'
  · exact h'
  · rw [List.getElem?_eq_none h'] at h; cases h

theorem SlP.elem {α : Type} {e : Enc α} {w : World} {O : Perm} {v : Value} {zs : List α} (h : SlP e w O v zs) {i : Nat} {z : α} (hz : zs[i]? = some z) :
    ∃ c, e.rd w O c z ∧ 1 ≤ O (elemAddr v i e.n).block ∧ ∀ j u, c[j]? = some u → w.cell? ⟨(elemAddr v i e.n).block, (elemAddr v i e.n).off + j, none⟩ = some u := by
  obtain ⟨a, cap, rfl, h1, h2, h3⟩ := h
  rcases h3 with ⟨_, rfl⟩ | ⟨b, off, cs, rfl, hb, hr, hc⟩
  · simp at hz
  · obtain ⟨c, hc1, hc2⟩ := hr.get hz
    refine ⟨c, hc1, hb, fun j u hj => ?_⟩
    have := hc _ u (hc2 j u hj)
    simpa [elemAddr, Nat.add_assoc] using this

theorem Elem.sl {α : Type} {e : Enc α} {v : Value} {zs : List α} {L : List A} {i : Nat} {z : α} (hz : zs[i]? = some z) : Elem (Sl e v zs :: L) e v i z := by
  intro w O hs
  obtain ⟨O1, O2, s, h1, h2⟩ := hs
  have hd := SlP.dup h1
  obtain ⟨c, hc, hb, hcell⟩ := SlP.elem hd hz
  refine ⟨c, ⟨fun b => min (O1 b) 1, fun b => max (min (O1 b) 1) (O2 b), ⟨fun b => ?_, fun b => ?_, fun b => ?_, fun b => ?_⟩, hc, fun b => min (O1 b) 1, O2, ⟨fun b => ?_, fun b => ?_, fun b => ?_, fun b => ?_⟩, hd, h2⟩,
    ⟨_, Nat.le_trans (Nat.le_trans hb (by show min _ _ ≤ _; omega)) (s.l _), rfl⟩, hcell⟩ <;>
    (have := s.l b; have := s.r b; have := s.lr b; have := s.rl b; omega)
theorem Elem.own {α : Type} {e : Enc α} {T : TypeId} {v : Value} {zs : List α} {L : List A} {i : Nat} {z : α} (hz : zs[i]? = some z) : Elem (Own e T v zs :: L) e v i z := by
  intro w O hs
  obtain ⟨O1, O2, s, h1, h2⟩ := hs
  obtain ⟨c0, _, hb, hcell0⟩ := SlP.elem (Own.sl h1) hz
  obtain ⟨P1, P2, cs, t, g1, g2, g3⟩ := h1
  have hd := g3.dup
  obtain ⟨c, hc, hcj⟩ := hd.get hz
  have hcell : ∀ j u, c[j]? = some u → w.cell? ⟨(elemAddr v i e.n).block, (elemAddr v i e.n).off + j, none⟩ = some u := by
    intro j u hj
    have hcs := hcj j u hj
    rcases g1.2 with ⟨rfl, h0⟩ | ⟨g, cap, cur, rfl, _, hg, hle, hmx, hcs', htk⟩
    · have : zs = [] := List.eq_nil_of_length_eq_zero h0
      subst this; simp at hz
    · have hl := cell_in hcs
      rw [g3.length] at hl
      simp only [elemAddr, World.cell?, hg, Nat.zero_add]
      rw [← htk, List.getElem?_take, if_pos hl] at hcs
      simpa using hcs
  refine ⟨c, ⟨fun b => min (P2 b) 1, fun b => max (max (P1 b) (min (P2 b) 1)) (O2 b), ⟨fun b => ?_, fun b => ?_, fun b => ?_, fun b => ?_⟩, hc, fun b => max (P1 b) (min (P2 b) 1), O2, ⟨fun b => ?_, fun b => ?_, fun b => ?_, fun b => ?_⟩,
    ⟨P1, fun b => min (P2 b) 1, cs, ⟨fun b => ?_, fun b => ?_, fun b => ?_, fun b => ?_⟩, g1, g2, hd⟩, h2⟩, ⟨_, Nat.le_trans hb (s.l _), rfl⟩, hcell⟩ <;>
    (have := s.l b; have := s.r b; have := s.lr b; have := s.rl b; have := t.l b; have := t.r b; have := t.lr b; have := t.rl b; omega)
theorem Elem.there {α : Type} {e : Enc α} {v : Value} {a : A} {L : List A} {i : Nat} {z : α} (h : Elem L e v i z) : Elem (a :: L) e v i z := by
  intro w O hs
  obtain ⟨O1, O2, s, h1, h2⟩ := hs
  obtain ⟨c, hs2, ⟨b, hb, hbe⟩, hcell⟩ := h w O2 h2
  obtain ⟨P1, P2, t, g1, g2⟩ := hs2
  refine ⟨c, ⟨P1, fun b => max (O1 b) (P2 b), ⟨fun b => ?_, fun b => ?_, fun b => ?_, fun b => ?_⟩, g1, O1, P2, ⟨fun b => ?_, fun b => ?_, fun b => ?_, fun b => ?_⟩, h1, g2⟩, ⟨b, Nat.le_trans hb (s.r b), hbe⟩, hcell⟩ <;>
    (have := s.l b; have := s.r b; have := s.lr b; have := s.rl b; have := t.l b; have := t.r b; have := t.lr b; have := t.rl b; omega)

/-! ### getting at what a list says -/
theorem Has.sl_own {α : Type} {e : Enc α} {T : TypeId} {v : Value} {xs : List α} {L : List A} : Has (Own e T v xs :: L) (Sl e v xs) := Has.here.imp fun _ _ h => Own.sl h
theorem Has.r_blk {b : Nat} {T : TypeId} {cs : List Value} {L : List A} : Has (Blk b T cs :: L) (BlkR b T cs) := Has.here.imp fun _ _ h => Blk.r h

section
variable {X : Cx} {k : List Item} {env : Env} {L : List A} {ops : Array Oper} {l : List Oper}
theorem c_ex {γ : Type} {f : γ → A} (h : ∀ g, Cfg X k env (f g :: L)) : Cfg X k env (ExA f :: L) := by
  intro a w O ha hs hr
  obtain ⟨O1, O2, s, ⟨g, hg⟩, h2⟩ := hs
  exact h g a w O ha ⟨O1, O2, s, hg, h2⟩ hr
theorem o_ex {γ : Type} {f : γ → A} (h : ∀ g, Ops X ops l k env (f g :: L)) : Ops X ops l k env (ExA f :: L) := by
  intro a w O ha hs hr
  obtain ⟨O1, O2, s, ⟨g, hg⟩, h2⟩ := hs
  exact h g a w O ha ⟨O1, O2, s, hg, h2⟩ hr
/-- A fact that the memory shows. -/
theorem c_fact {p : Prop} {a : A} (ha : Has L a) (hp : ∀ w O, a.h w O → p) (h : p → Cfg X k env L) : Cfg X k env L :=
  fun ac w O hac hs hr => h (hp w O (ha w O hs)) ac w O hac hs hr
theorem o_fact {p : Prop} {a : A} (ha : Has L a) (hp : ∀ w O, a.h w O → p) (h : p → Ops X ops l k env L) : Ops X ops l k env L :=
  fun ac w O hac hs hr => h (hp w O (ha w O hs)) ac w O hac hs hr
/-- Something that follows is laid beside. -/
theorem Ent.beside {b : A} {L : List A} (hb : ∀ w O, Stars L w O → b.h w fun _ => 0) : Ent L (b :: L) := fun w O hs =>
  ⟨fun _ => 0, O, ⟨fun b => Nat.zero_le _, fun b => Nat.le_refl _, fun b h => by omega, fun b h => rfl⟩, hb w O hs, hs⟩
theorem Ent.drop {b : A} {L : List A} : Ent (b :: L) L := fun w O hs => by
  obtain ⟨O1, O2, s, _, h2⟩ := hs
  exact h2.mono s.r
theorem Ent.cons {b : A} {L L' : List A} (h : Ent L L') : Ent (b :: L) (b :: L') := fun w O hs => by
  obtain ⟨O1, O2, s, h1, h2⟩ := hs
  exact ⟨O1, O2, s, h1, h w O2 h2⟩
theorem Ent.head {a b : A} {L : List A} (h : ∀ w O, a.h w O → b.h w O) : Ent (a :: L) (b :: L) := fun w O hs => by
  obtain ⟨O1, O2, s, h1, h2⟩ := hs
  exact ⟨O1, O2, s, h _ _ h1, h2⟩
/-- What is read may be laid beside once more, in another form. -/
theorem Ent.share {a b : A} {L L' : List A} (hp : Pick a L L') (hd : a.Dup) (hab : ∀ w O, a.h w O → b.h w O) : Ent L (b :: a :: L') := fun w O hs => by
  obtain ⟨O1, O2, s, h1, h2⟩ := (Pick.keep (l := L') hd) w O (hp w O hs)
  exact ⟨O1, O2, s, hab _ _ h1, h2⟩
end
end Go.SL

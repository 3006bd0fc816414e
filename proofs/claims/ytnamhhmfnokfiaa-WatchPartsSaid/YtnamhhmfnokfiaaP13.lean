import Derived.Test.YtnamhhmfnokfiaaPO
import Derived.Test.YtnamhhmfnokfiaaL2
/- Chapter 13: watchers, in plain words, and as the memory has them. -/
namespace Go.Proofs.Ytnamhhmfnokfiaa
open Go Go.SL

abbrev Nt := Int × List ByteArray × Bool
abbrev Wr := Int × ByteArray × List Nt
abbrev eNt : Enc Nt := ePair (eInt .i64) (ePair (eSl eStr) eBool)
abbrev eWr : Enc Wr := ePair (eInt .i64) (ePair eStr (eSl eNt))
/-- A note's cells, the names as a bare slice. -/
abbrev eNr : Enc (Int × Value × Bool) := ePair (eInt .i64) (ePair eRaw eBool)
def hp (p s : ByteArray) : Bool := Lib.hasPrefix s.data.toList p.data.toList
def touched (names : List ByteArray) (p : ByteArray) : List ByteArray := (setS names).filter (hp p)
def atW (H : List Wr) (id : Int) : Int := idxF (fun w : Wr => decide (w.1 = id)) H
def addW (H : List Wr) (id : Int) (p : ByteArray) : List Wr × Int :=
  if 12 ≤ H.length ∨ 0 ≤ atW H id then (H, 131) else (H.filter (fun w => decide (w.1 < id)) ++ [(id, p, [])] ++ H.filter (fun w => decide (id < w.1)), 0)
def dropW (H : List Wr) (id : Int) : List Wr × Int := if atW H id < 0 then (H, 130) else (H.take (atW H id).toNat ++ H.drop ((atW H id).toNat + 1), 0)
def noteW (ver : Int) (t : List ByteArray) (l : List Nt) : List Nt := if l.length < 4 then l ++ [(ver, t, false)] else l.take 3 ++ [(ver, [], true)]
def stepW (ver : Int) (names : List ByteArray) (w : Wr) : Wr := if touched names w.2.1 = [] then w else (w.1, w.2.1, noteW ver (touched names w.2.1) w.2.2)
def toldW (H : List Wr) (names : List ByteArray) : List Int := (H.filter fun w => decide (touched names w.2.1 ≠ [])).map (·.1)
def pushW (H : List Wr) (ver : Int) (names : List ByteArray) : List Wr := H.map (stepW ver names)
def manyW (n : Int) (l : List Nt) : Nat := (min (max n 0) l.length).toNat
def takeW (H : List Wr) (id n : Int) : List Wr × List Nt × Int :=
  match H[(atW H id).toNat]? with
  | some w => if atW H id < 0 then (H, [], 130) else (H.set (atW H id).toNat (w.1, w.2.1, w.2.2.drop (manyW n w.2.2)), w.2.2.take (manyW n w.2.2), 0)
  | none => (H, [], 130)
theorem prefix_iff (p s : ByteArray) : hp p s = true ↔ p.size ≤ s.size ∧ s.extract 0 p.size = p := by
  unfold hp Lib.hasPrefix
  rw [List.isPrefixOf_iff_prefix]
  have h1 : p.size = p.data.toList.length := Lib.size_eq p
  have h2 : s.size = s.data.toList.length := Lib.size_eq s
  have h3 : (s.extract 0 p.size).data.toList = s.data.toList.take p.data.toList.length := by
    rw [ByteArray.data_extract, Array.toList_extract, h1]; simp [List.extract_eq_take_drop]
  constructor
  · intro h
    refine ⟨by rw [h1, h2]; exact h.length_le, ?_⟩
    apply ByteArray.ext
    apply Array.toList_inj.1
    rw [h3]
    exact (List.prefix_iff_eq_take.1 h).symm
  · rintro ⟨_, h⟩
    rw [List.prefix_iff_eq_take, ← h3, h]
theorem touched_mem {names : List ByteArray} {p s : ByteArray} : s ∈ touched names p ↔ s ∈ names ∧ hp p s = true := by
  unfold touched; rw [List.mem_filter, (setS_spec names).2]
theorem touched_rising (names : List ByteArray) (p : ByteArray) : (touched names p).Pairwise fun a b => ltS a b = true := (setS_spec names).1.filter _
/-- What the least ones above the last one, again and again, come to. -/
theorem touched_of {names out : List ByteArray} {p : ByteArray} (h1 : out.Pairwise fun a b => ltS a b = true) (h2 : ∀ s, s ∈ out ↔ s ∈ names ∧ hp p s = true) : out = touched names p :=
  rising_eq (lt := fun a b => ltS a b = true) (fun a => by simp [ltS_irrefl]) (fun a b c => ltS_trans) h1 (touched_rising names p) fun s => by rw [h2, touched_mem]
theorem wr_open {z : Wr} (w : World) (O : Perm) (c : List Value) (h : eWr.rd w O c z) : ∃ u : Value, c = [.int .i64 z.1, .string z.2.1, u] ∧ Stars [Sl eNt u z.2.2] w O := by
  obtain ⟨c1, c2, rfl, h1, c3, c4, rfl, h2, u, rfl, h3⟩ := h
  have e1 : c1 = [.int .i64 z.1] := h1
  have e2 : c3 = [.string z.2.1] := h2
  subst e1; subst e2
  exact ⟨u, rfl, O, fun _ => 0, ⟨fun _ => Nat.le_refl _, fun _ => Nat.zero_le _, fun _ _ => rfl, fun _ h => by omega⟩, h3, trivial⟩
theorem wr_rd {id : Int} {p : ByteArray} {u : Value} {l : List Nt} (w : World) (O : Perm) (h : Stars [Sl eNt u l] w O) : eWr.rd w O [.int .i64 id, .string p, u] (id, p, l) := by
  obtain ⟨O1, O2, s, h1, _⟩ := h
  exact ⟨[.int .i64 id], [.string p, u], rfl, rfl, [.string p], [u], rfl, rfl, u, rfl, SlP.mono h1 s.l⟩
theorem wr_rd0 {id : Int} {p : ByteArray} (w : World) (O : Perm) : eWr.rd w O [.int .i64 id, .string p, .slice none 0 0] (id, p, []) := wr_rd w O (Ent.get (L := []) trivial (Ent.beside fun w _ _ => Sl.nil eNt w _))
theorem nt_open {z : Nt} (w : World) (O : Perm) (c : List Value) (h : eNt.rd w O c z) : ∃ u : Value, c = [.int .i64 z.1, u, .bool z.2.2] ∧ Stars [Sl eStr u z.2.1] w O := by
  obtain ⟨c1, c2, rfl, h1, c3, c4, rfl, ⟨u, rfl, h2⟩, h3⟩ := h
  have e1 : c1 = [.int .i64 z.1] := h1
  have e3 : c4 = [.bool z.2.2] := h3
  subst e1; subst e3
  exact ⟨u, rfl, O, fun _ => 0, ⟨fun _ => Nat.le_refl _, fun _ => Nat.zero_le _, fun _ _ => rfl, fun _ h => by omega⟩, h2, trivial⟩
theorem nt_rd {ver : Int} {b : Bool} {u : Value} {l : List ByteArray} (w : World) (O : Perm) (h : Stars [Sl eStr u l] w O) : eNt.rd w O [.int .i64 ver, u, .bool b] (ver, l, b) := by
  obtain ⟨O1, O2, s, h1, _⟩ := h
  exact ⟨[.int .i64 ver], [u, .bool b], rfl, rfl, [u], [.bool b], rfl, ⟨u, rfl, SlP.mono h1 s.l⟩, rfl⟩
theorem nt_rd0 {ver : Int} {b : Bool} (w : World) (O : Perm) : eNt.rd w O [.int .i64 ver, .slice none 0 0, .bool b] (ver, [], b) := nt_rd w O (Ent.get (L := []) trivial (Ent.beside fun w _ _ => Sl.nil eStr w _))
end Go.Proofs.Ytnamhhmfnokfiaa

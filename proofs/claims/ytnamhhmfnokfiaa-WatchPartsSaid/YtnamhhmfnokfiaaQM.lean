/- Maps: what a map's block holds; look-ups, updates, deletions. -/
import Derived.Test.YtnamhhmfnokfiaaQS
import Derived.WideLaws
import Derived.MapKept
namespace Go.SL
open Go

structure KeyEnc (κ : Type) [DecidableEq κ] where
  val : κ → Value
  desc : TypeDesc
  now : ∀ a b, Instr.sameNow desc (val a) (val b) = some (decide (a = b))
  chk : ∀ (P : Program) (w : World) (n : Nat) (e : Bool) (t : TypeId) (k : κ), P.underlying t = some desc → (Instr.checkKey e (n + 1) t (val k)).run P w = .ok () w
def kInt : KeyEnc Int where
  val := .int .i64
  desc := .int .i64
  now := fun a b => by simp [Instr.sameNow, BEq.beq]
  chk := fun P w n e t k h => by simp [Instr.checkKey, run_underlying h]
def kStr : KeyEnc ByteArray where
  val := .string
  desc := .string
  now := fun a b => by
    simp only [Instr.sameNow]
    congr 1
    rw [Bool.eq_iff_iff, Go.MapKept.bytes_beq, decide_eq_true_iff]
  chk := fun P w n e t k h => by simp [Instr.checkKey, run_underlying h]

section
variable {κ : Type} [DecidableEq κ] (ke : KeyEnc κ)
def Ents (es : List MapEntry) (m : List (κ × Value)) : Prop := es.map (fun e => (e.key, e.val)) = m.map (fun p => (ke.val p.1, p.2))
def look (m : List (κ × Value)) (k : κ) : Option Value := (m.find? fun p => decide (p.1 = k)).map (·.2)
theorem findNow_of {k : κ} : ∀ {es : List MapEntry} {m : List (κ × Value)} (i : Nat), Ents ke es m → ∃ r, Instr.findNow ke.desc (ke.val k) es i = some r ∧ r.map (·.2) = look m k ∧ (∀ j v, r = some (j, v) → ∃ n, j = i + n ∧ (m[n]?).map (·.1) = some k) ∧ (r = none → k ∉ m.map (·.1))
  | [], [], i, _ => ⟨none, rfl, rfl, (fun j v h => by cases h), (fun _ => by simp)⟩
  | e :: es, [], i, h => by simp [Ents] at h
  | [], p :: m, i, h => by simp [Ents] at h
  | e :: es, p :: m, i, h => by
    simp only [Ents, List.map_cons, List.cons.injEq, Prod.mk.injEq] at h
    obtain ⟨⟨h1, h2⟩, h3⟩ := h
    rw [Instr.findNow, h1, ke.now]
    by_cases hk : k = p.1
    · rw [decide_eq_true hk]
      refine ⟨_, rfl, ?_, (fun j v hj => ⟨0, ?_, ?_⟩), (fun h => by cases h)⟩
      · simp [look, hk, h2]
      · cases hj; rfl
      · simp [hk]
    · rw [decide_eq_false hk]
      obtain ⟨r, g1, g2, g3, g4⟩ := findNow_of (k := k) (es := es) (m := m) (i + 1) h3
      refine ⟨r, g1, ?_, (fun j v hj => ?_), (fun hr => ?_)⟩
      · rw [g2]; simp [look, Ne.symm hk, List.find?_cons, fun e => hk (Eq.symm e)]
      · obtain ⟨n, hn, hm⟩ := g3 j v hj
        exact ⟨n + 1, by omega, by simpa using hm⟩
      · have := g4 hr
        simp only [List.map_cons, List.mem_cons, not_or]
        exact ⟨hk, this⟩
/-- Block b is one's own, and is a map of these entries. -/
def MapA (b : Nat) (m : List (κ × Value)) : A where
  h := fun w O => 2 ≤ O b ∧ ∃ es clock, w.heap[b]? = some (.map es clock) ∧ Ents ke es.toList m ∧ (es.toList.map fun e : MapEntry => e.born).Nodup ∧ (∀ e ∈ es.toList, e.born < clock) ∧ (m.map fun p : κ × Value => p.1).Nodup
  mono := fun ⟨h1, h2⟩ hO => ⟨Nat.le_trans h1 (hO b), h2⟩
  loc := fun ⟨h1, es, c, h2, h3⟩ hw => ⟨h1, es, c, (hw b (by omega)).trans h2, h3⟩
variable {X : Cx} {env : Env} {L L1 : List A} {T : TypeId} {x y : Operand}
theorem v_lookup {t kt et : TypeId} {b : Nat} {m : List (κ × Value)} {k : κ} {z : Value} {n nb : Nat} (hu : X.P.underlying t = some (.map kt et)) (hk : X.P.underlying kt = some ke.desc) (hz : TI X.P et z n nb)
    (hx : env.eval x = some (.map (some b))) (hy : env.eval y = some (ke.val k)) (hm : Has L (MapA ke b m)) : Val X env L (.lookup t x y false) T ((look m k).getD z) := by
  intro _ _ _ _ a w O ha hs
  obtain ⟨_, es, clock, hh, he, _⟩ := hm w O hs
  obtain ⟨r, g1, g2, _⟩ := findNow_of ke (k := k) 0 he
  obtain ⟨ti, hi, hz0, _⟩ := hz
  have hzero : (zeroValue et).run X.P w = .ok z w := by simp [zeroValue, typeInfo, hi, hz0]
  have hget : (getObj b).run X.P w = .ok (.map es clock) w := by simp [getObj, Sem.run, hh]
  have hfind : (Instr.findKey kt (ke.val k) es.toList).run X.P w = .ok r w := by
    simp [Instr.findKey, run_underlying hk, g1]
  have hchk : (Instr.checkKey es.isEmpty 10000 kt (ke.val k)).run X.P w = .ok () w := ke.chk X.P w 9999 es.isEmpty kt k hk
  have hl : (Instr.lookup t (.map (some b)) (ke.val k) false).run X.P w = .ok ((look m k).getD z) w := by
    cases r with
    | none => simp [Instr.lookup, run_underlying hu, hget, hchk, hfind, ← g2, hzero]
    | some p => obtain ⟨i, v⟩ := p; simp [Instr.lookup, run_underlying hu, hget, hchk, hfind, ← g2]
  simp [execOp, ha.eval hx, ha.eval hy, hl]

omit ke in
def upd : List (κ × Value) → κ → Value → List (κ × Value)
  | [], k, v => [(k, v)]
  | p :: m, k, v => if p.1 = k then (k, v) :: m else p :: upd m k v
theorem look_nil (k : κ) : look ([] : List (κ × Value)) k = none := rfl
theorem look_cons (p : κ × Value) (m : List (κ × Value)) (k : κ) : look (p :: m) k = if p.1 = k then some p.2 else look m k := by
  simp only [look, List.find?_cons]
  by_cases h : p.1 = k <;> simp [h]
theorem look_upd (v : Value) (k k' : κ) : ∀ m : List (κ × Value), look (upd m k v) k' = if k' = k then some v else look m k'
  | [] => by
    rw [upd, look_cons, look_nil]
    by_cases h : k' = k
    · simp [h]
    · rw [if_neg (fun e => h e.symm), if_neg h]
  | p :: m => by
    rw [upd]
    by_cases hp : p.1 = k
    · rw [if_pos hp, look_cons, look_cons]
      by_cases h : k' = k
      · simp [h]
      · rw [if_neg (fun e => h e.symm), if_neg h, if_neg (fun e => h (e.symm.trans hp))]
    · rw [if_neg hp, look_cons, look_cons, look_upd v k k' m]
      by_cases h : k' = k
      · subst h; simp [hp]
      · simp [h]
theorem upd_keys (k : κ) (v : Value) : ∀ (m : List (κ × Value)), (upd m k v).map (fun p : κ × Value => p.1) = if k ∈ m.map (fun p : κ × Value => p.1) then m.map (fun p : κ × Value => p.1) else m.map (fun p : κ × Value => p.1) ++ [k]
  | [] => by simp [upd]
  | p :: m => by
    rw [upd]
    by_cases hp : p.1 = k
    · simp [hp]
    · rw [if_neg hp, List.map_cons, upd_keys k v m]
      by_cases hk : k ∈ m.map (fun p : κ × Value => p.1)
      · rw [if_pos hk, if_pos (by simp only [List.map_cons, List.mem_cons]; exact .inr hk)]; rfl
      · rw [if_neg hk, if_neg (by simp only [List.map_cons, List.mem_cons, not_or]; exact ⟨fun e => hp e.symm, hk⟩)]; rfl
theorem upd_nodup {k : κ} {v : Value} {m : List (κ × Value)} (h : (m.map fun p : κ × Value => p.1).Nodup) : ((upd m k v).map fun p : κ × Value => p.1).Nodup := by
  rw [upd_keys]
  split
  · exact h
  · rename_i hk
    exact List.nodup_append.2 ⟨h, by simp, fun a ha b hb e => hk (by rw [List.mem_singleton.1 hb] at e; rw [← e]; exact ha)⟩
theorem ents_found {k : κ} {v : Value} : ∀ {es : List MapEntry} {m : List (κ × Value)} (n : Nat), Ents ke es m → (m[n]?).map (fun p : κ × Value => p.1) = some k → (m.map fun p : κ × Value => p.1).Nodup →
    Ents ke (es.modify n fun e => { e with key := ke.val k, val := v }) (upd m k v)
  | [], [], n, _, hn, _ => by simp at hn
  | e :: es, [], n, h, _, _ => by simp [Ents] at h
  | [], p :: m, n, h, _, _ => by simp [Ents] at h
  | e :: es, p :: m, 0, h, hn, _ => by
    simp only [Ents, List.map_cons, List.cons.injEq] at h
    have : p.1 = k := by simpa using hn
    rw [upd, if_pos this]
    simp only [Ents, List.modify_zero_cons, List.map_cons, List.cons.injEq]
    exact ⟨trivial, h.2⟩
  | e :: es, p :: m, n + 1, h, hn, hd => by
    simp only [Ents, List.map_cons, List.cons.injEq] at h
    have hn' : (m[n]?).map (fun p : κ × Value => p.1) = some k := by simpa using hn
    have hd' := List.nodup_cons.1 (by simpa using hd : (p.1 :: m.map fun p : κ × Value => p.1).Nodup)
    have hp : p.1 ≠ k := fun e => hd'.1 (by
      rw [e]
      rw [Option.map_eq_some_iff] at hn'
      obtain ⟨q, hq, hqk⟩ := hn'
      exact List.mem_map.2 ⟨q, List.mem_of_getElem? hq, hqk⟩)
    rw [upd, if_neg hp, List.modify_succ_cons]
    have := ents_found n h.2 hn' hd'.2 (v := v)
    simp only [Ents, List.map_cons, List.cons.injEq]
    exact ⟨h.1, this⟩
theorem ents_new {k : κ} {v : Value} {c : Nat} : ∀ {es : List MapEntry} {m : List (κ × Value)}, Ents ke es m → k ∉ m.map (fun p : κ × Value => p.1) → Ents ke (es ++ [{ key := ke.val k, val := v, born := c }]) (upd m k v)
  | [], [], _, _ => rfl
  | e :: es, [], h, _ => by simp [Ents] at h
  | [], p :: m, h, _ => by simp [Ents] at h
  | e :: es, p :: m, h, hk => by
    simp only [Ents, List.map_cons, List.cons.injEq] at h
    simp only [List.map_cons, List.mem_cons, not_or] at hk
    rw [upd, if_neg (fun e => hk.1 e.symm)]
    have := ents_new (k := k) (v := v) (c := c) h.2 hk.2
    simp only [Ents, List.cons_append, List.map_cons, List.cons.injEq]
    exact ⟨h.1, this⟩
theorem modify_born {v : Value} {kv : Value} : ∀ (es : List MapEntry) (n : Nat), (es.modify n fun e => { e with key := kv, val := v }).map (fun e : MapEntry => e.born) = es.map fun e : MapEntry => e.born
  | [], n => by simp
  | e :: es, 0 => by simp
  | e :: es, n + 1 => by rw [List.modify_succ_cons, List.map_cons, List.map_cons, modify_born es n]

variable {K : Act → World → Prop} {kk : List Item} {pos : String} {af : Array Edge} {d : Nat}
theorem sameBits_self {ι : Type} (kx : ι → Value) (h : ∀ a, (∃ n j, kx a = .int j n) ∨ ∃ s, kx a = .string s) (a : ι) : Instr.sameBits 10000 (kx a) (kx a) = true := by
  rcases h a with ⟨n, j, e⟩ | ⟨s, e⟩
  · rw [e]; simp [Instr.sameBits]
  · rw [e]; simp only [Instr.sameBits]; exact (Go.MapKept.bytes_beq s s).2 rfl
theorem s_mapUpdate {t kt et : TypeId} {b : Nat} {m : List (κ × Value)} {k : κ} {u : Value} {z : Operand} (hu : X.P.underlying t = some (.map kt et)) (hk : X.P.underlying kt = some ke.desc) (hsc : ∀ a, (∃ n j, ke.val a = .int j n) ∨ ∃ s, ke.val a = .string s)
    (hx : env.eval x = some (.map (some b))) (hy : env.eval y = some (ke.val k)) (hz : env.eval z = some u) (hp : Pick (MapA ke b m) L L1) (kk' : Kont X env (MapA ke b (upd m k u) :: L1) K) :
    StepK X kk ⟨none, .mapUpdate t x y z, T, pos, af, none⟩ env L K := by
  refine s_skip (γ := Unit) (pu := fun _ => True) (L' := fun _ => MapA ke b (upd m k u) :: L1) ?_ (fun _ _ => kk')
  intro a w O ha hst hdom
  obtain ⟨O1, O2, s, ⟨h1, es, clock, hh, he, hbn, hbc, hnd⟩, hs2⟩ := hp w O hst
  obtain ⟨r, g1, g2, g3, g4⟩ := findNow_of ke (k := k) 0 he
  have hget : (getObj b).run X.P w = .ok (.map es clock) w := by simp [getObj, Sem.run, hh]
  have hfind : (Instr.findKey kt (ke.val k) es.toList).run X.P w = .ok r w := by simp [Instr.findKey, run_underlying hk, g1]
  have hchk : (Instr.checkKey false 10000 kt (ke.val k)).run X.P w = .ok () w := ke.chk X.P w 9999 false kt k hk
  have hset : ∀ o, (setObj b o).run X.P w = .ok () (w.putObj b o) := fun o => by simp [setObj, Sem.run, hh, World.putObj]
  have fin : ∀ (es' : Array MapEntry) (c' : Nat), Ents ke es'.toList (upd m k u) → (es'.toList.map fun e : MapEntry => e.born).Nodup → (∀ e ∈ es'.toList, e.born < c') →
      Stars (MapA ke b (upd m k u) :: L1) (w.putObj b (.map es' c')) O ∧ Rel w O (w.putObj b (.map es' c')) O := by
    intro es' c' e1 e2 e3
    obtain ⟨q1, q2⟩ := obj_put (o := .map es clock) (o' := .map es' c') (L := L1) ⟨O1, O2, s, ⟨h1, hh⟩, hs2⟩ hdom
    refine ⟨?_, q2⟩
    obtain ⟨P1, P2, t', ⟨a1, a2⟩, a3⟩ := q1
    exact ⟨P1, P2, t', ⟨a1, es', c', a2, e1, e2, e3, upd_nodup hnd⟩, a3⟩
  cases r with
  | none =>
    have hnew := ents_new ke (v := u) (c := clock) he (g4 rfl)
    obtain ⟨q1, q2⟩ := fin (es.push { key := ke.val k, val := u, born := clock }) (clock + 1) (by simpa using hnew) (by
      simp only [Array.toList_push, List.map_append, List.map_cons, List.map_nil]
      exact List.nodup_append.2 ⟨hbn, by simp, fun x hx y hy e => by
        rw [List.mem_singleton.1 hy] at e
        obtain ⟨q, hq, hqb⟩ := List.mem_map.1 hx
        have := hbc q hq
        omega⟩) (fun e he' => by
      simp only [Array.toList_push, List.mem_append, List.mem_singleton] at he'
      rcases he' with he' | rfl
      · have := hbc e he'; omega
      · exact Nat.lt_succ_self _)
    refine ⟨(), _, O, ?_, trivial, q1, q2⟩
    have hrun : (Instr.mapUpdate t (.map (some b)) (ke.val k) u).run X.P w = .ok () (w.putObj b (.map (es.push { key := ke.val k, val := u, born := clock }) (clock + 1))) := by
      simp [Instr.mapUpdate, run_underlying hu, hget, hchk, hfind, hset]
    simp [execOp, ha.eval hx, ha.eval hy, ha.eval hz, hrun]
  | some p =>
    obtain ⟨i, v⟩ := p
    obtain ⟨n, hn, hm⟩ := g3 i v rfl
    rw [Nat.zero_add] at hn
    subst hn
    have hold : ((es[i]?).map (fun e : MapEntry => e.key)).getD (ke.val k) = ke.val k := by
      have := congrArg (fun l => l[i]?) he
      simp only [List.getElem?_map, Array.getElem?_toList] at this
      rw [Option.map_eq_some_iff] at hm
      obtain ⟨q, hq, hqk⟩ := hm
      rw [hq] at this
      cases he2 : es[i]? with
      | none => rfl
      | some e2 =>
        rw [he2] at this
        simp only [Option.map_some, Option.some.injEq, Prod.mk.injEq] at this
        simp [this.1, hqk]
    obtain ⟨q1, q2⟩ := fin (es.modify i fun e => { e with key := ke.val k, val := u }) clock (by rw [Array.toList_modify]; exact ents_found ke i he hm hnd) (by rw [Array.toList_modify, modify_born]; exact hbn) (fun e he' => by
      have : e.born ∈ (es.toList.modify i fun e => { e with key := ke.val k, val := u }).map fun e : MapEntry => e.born := List.mem_map.2 ⟨e, by rwa [Array.toList_modify] at he', rfl⟩
      rw [modify_born] at this
      obtain ⟨q, hq, hqb⟩ := List.mem_map.1 this
      have := hbc q hq
      omega)
    refine ⟨(), _, O, ?_, trivial, q1, q2⟩
    have hstay : (Instr.keyThatStays (ke.val k) (ke.val k)).run X.P w = .ok (ke.val k) w := by
      simp [Instr.keyThatStays, sameBits_self ke.val hsc k]
    have hrun : (Instr.mapUpdate t (.map (some b)) (ke.val k) u).run X.P w = .ok () (w.putObj b (.map (es.modify i fun e => { e with key := ke.val k, val := u }) clock)) := by
      simp [Instr.mapUpdate, run_underlying hu, hget, hchk, hfind, hset, hold, hstay]
    simp [execOp, ha.eval hx, ha.eval hy, ha.eval hz, hrun]

omit ke in
def del (m : List (κ × Value)) (k : κ) : List (κ × Value) := m.filter fun p => decide (p.1 ≠ k)
theorem look_del (k k' : κ) : ∀ m : List (κ × Value), look (del m k) k' = if k' = k then none else look m k'
  | [] => by simp [del, look_nil]
  | p :: m => by
    have ih := look_del k k' m
    unfold del at ih ⊢
    rw [List.filter_cons]
    by_cases hp : p.1 = k
    · rw [if_neg (by simp [hp]), ih, look_cons]
      by_cases h : k' = k
      · simp [h]
      · rw [if_neg h, if_neg h, if_neg (fun e => h (e.symm.trans hp))]
    · rw [if_pos (by simpa using hp), look_cons, ih, look_cons]
      by_cases h : k' = k
      · subst h; simp [hp]
      · simp [h]
theorem del_none {k : κ} {m : List (κ × Value)} (h : k ∉ m.map (fun p : κ × Value => p.1)) : del m k = m := by
  unfold del
  rw [List.filter_eq_self]
  intro p hp
  have : p.1 ≠ k := fun e => h (List.mem_map.2 ⟨p, hp, e⟩)
  simpa using this
theorem ents_del {k : κ} : ∀ {es : List MapEntry} {m : List (κ × Value)} (n : Nat), Ents ke es m → (m[n]?).map (fun p : κ × Value => p.1) = some k → (m.map fun p : κ × Value => p.1).Nodup → Ents ke (es.eraseIdx n) (del m k)
  | [], [], n, _, hn, _ => by simp at hn
  | e :: es, [], n, h, _, _ => by simp [Ents] at h
  | [], p :: m, n, h, _, _ => by simp [Ents] at h
  | e :: es, p :: m, 0, h, hn, hd => by
    simp only [Ents, List.map_cons, List.cons.injEq] at h
    have hp : p.1 = k := by simpa using hn
    have hd' := List.nodup_cons.1 (by simpa using hd : (p.1 :: m.map fun p : κ × Value => p.1).Nodup)
    have : del (p :: m) k = m := by
      have := del_none (k := k) (m := m) (by rw [← hp]; exact hd'.1)
      unfold del at this ⊢
      rw [List.filter_cons, if_neg (by simp [hp]), this]
    rw [this]
    exact h.2
  | e :: es, p :: m, n + 1, h, hn, hd => by
    simp only [Ents, List.map_cons, List.cons.injEq] at h
    have hn' : (m[n]?).map (fun p : κ × Value => p.1) = some k := by simpa using hn
    have hd' := List.nodup_cons.1 (by simpa using hd : (p.1 :: m.map fun p : κ × Value => p.1).Nodup)
    have hp : p.1 ≠ k := fun e => hd'.1 (by
      rw [e]
      rw [Option.map_eq_some_iff] at hn'
      obtain ⟨q, hq, hqk⟩ := hn'
      exact List.mem_map.2 ⟨q, List.mem_of_getElem? hq, hqk⟩)
    have : del (p :: m) k = p :: del m k := by unfold del; rw [List.filter_cons, if_pos (by simpa using hp)]
    rw [this, List.eraseIdx_cons_succ]
    have := ents_del n h.2 hn' hd'.2
    simp only [Ents, List.map_cons, List.cons.injEq]
    exact ⟨h.1, this⟩
theorem ents_size {es : List MapEntry} {m : List (κ × Value)} (h : Ents ke es m) : es.length = m.length := by
  have := congrArg List.length h
  simpa using this
theorem v_len_map {t kt et : TypeId} {b : Nat} {m : List (κ × Value)} (hu : X.P.underlying t = some (.map kt et)) (hx : env.eval x = some (.map (some b))) (hm : Has L (MapA ke b m)) : Val X env L (.call ⟨.builtin .len, #[x], #[t]⟩) T (.int .i64 m.length) := by
  intro _ _ _ _ a w O ha hs
  obtain ⟨_, es, clock, hh, he, _⟩ := hm w O hs
  have hget : (getObj b).run X.P w = .ok (.map es clock) w := by simp [getObj, Sem.run, hh]
  have : es.size = m.length := by rw [← ents_size ke he]; simp
  simp [execOp, resolve, invoke, builtin, Builtin.len_, ha.eval hx, run_underlying hu, hget, goInt, this]
theorem s_delete {t kt et : TypeId} {b : Nat} {m : List (κ × Value)} {k : κ} {ts : Array TypeId} (hts : ts[0]? = some t) (hu : X.P.underlying t = some (.map kt et)) (hk : X.P.underlying kt = some ke.desc)
    (hx : env.eval x = some (.map (some b))) (hy : env.eval y = some (ke.val k)) (hp : Pick (MapA ke b m) L L1) (kk' : Kont X env (MapA ke b (del m k) :: L1) K) :
    StepK X kk ⟨none, .call ⟨.builtin .delete, #[x, y], ts⟩, T, pos, af, none⟩ env L K := by
  refine s_main0 (γ := Unit) (V := fun _ => .tuple #[]) (pu := fun _ => True) (L' := fun _ => MapA ke b (del m k) :: L1) ?_ (fun _ _ => kk')
  intro a w O ha hst hdom
  obtain ⟨O1, O2, s, ⟨h1, es, clock, hh, he, hbn, hbc, hnd⟩, hs2⟩ := hp w O hst
  obtain ⟨r, g1, g2, g3, g4⟩ := findNow_of ke (k := k) 0 he
  have hget : (getObj b).run X.P w = .ok (.map es clock) w := by simp [getObj, Sem.run, hh]
  have hfind : (Instr.findKey kt (ke.val k) es.toList).run X.P w = .ok r w := by simp [Instr.findKey, run_underlying hk, g1]
  have hchk : (Instr.checkKey es.isEmpty 10000 kt (ke.val k)).run X.P w = .ok () w := ke.chk X.P w 9999 es.isEmpty kt k hk
  have hset : ∀ o, (setObj b o).run X.P w = .ok () (w.putObj b o) := fun o => by simp [setObj, Sem.run, hh, World.putObj]
  have hnd' : ((del m k).map fun p : κ × Value => p.1).Nodup := (List.filter_sublist.map _).nodup hnd
  have fin : ∀ (es' : Array MapEntry), Ents ke es'.toList (del m k) → (es'.toList.map fun e : MapEntry => e.born).Nodup → (∀ e ∈ es'.toList, e.born < clock) →
      Stars (MapA ke b (del m k) :: L1) (w.putObj b (.map es' clock)) O ∧ Rel w O (w.putObj b (.map es' clock)) O := by
    intro es' e1 e2 e3
    obtain ⟨q1, q2⟩ := obj_put (o := .map es clock) (o' := .map es' clock) (L := L1) ⟨O1, O2, s, ⟨h1, hh⟩, hs2⟩ hdom
    refine ⟨?_, q2⟩
    obtain ⟨P1, P2, t', ⟨a1, a2⟩, a3⟩ := q1
    exact ⟨P1, P2, t', ⟨a1, es', clock, a2, e1, e2, e3, hnd'⟩, a3⟩
  cases r with
  | none =>
    obtain ⟨q1, q2⟩ := fin es (by rw [del_none (g4 rfl)]; exact he) hbn hbc
    refine ⟨(), _, O, ?_, trivial, q1, q2⟩
    have hrun : (Builtin.delete_ ts T #[.map (some b), ke.val k]).run X.P w = .ok (.tuple #[]) (w.putObj b (.map es clock)) := by
      simp [Builtin.delete_, hts, run_underlying hu, hget, hchk, hfind, hset]
    simp [execOp, resolve, invoke, builtin, ha.eval hx, ha.eval hy, hrun]
  | some p =>
    obtain ⟨i, v⟩ := p
    obtain ⟨n, hn, hm⟩ := g3 i v rfl
    rw [Nat.zero_add] at hn
    subst hn
    have hsub : (es.eraseIdxIfInBounds i).toList = es.toList.eraseIdx i := by simp
    obtain ⟨q1, q2⟩ := fin (es.eraseIdxIfInBounds i) (by rw [hsub]; exact ents_del ke i he hm hnd) (by rw [hsub]; exact ((List.eraseIdx_sublist _ _).map _).nodup hbn) (fun e he' => by
      rw [hsub] at he'; exact hbc e ((List.eraseIdx_sublist _ _).subset he'))
    refine ⟨(), _, O, ?_, trivial, q1, q2⟩
    have hrun : (Builtin.delete_ ts T #[.map (some b), ke.val k]).run X.P w = .ok (.tuple #[]) (w.putObj b (.map (es.eraseIdxIfInBounds i) clock)) := by
      simp [Builtin.delete_, hts, run_underlying hu, hget, hchk, hfind, hset]
    simp [execOp, resolve, invoke, builtin, ha.eval hx, ha.eval hy, hrun]
theorem s_makeMap {t : TypeId} (hd : d < X.fn.ntmps) (kk' : ∀ b, Kont X ((d, .map (some b)) :: env) (MapA ke b [] :: L) K) : StepK X kk ⟨some d, .makeMap t none, T, pos, af, none⟩ env L K := by
  refine s_main (γ := Nat) (V := fun b => .map (some b)) (pu := fun _ => True) (L' := fun b => MapA ke b [] :: L) ?_ hd (fun b _ => kk' b)
  intro a w O ha hst hdom
  refine ⟨w.heap.size, w.alloc (.map #[] 0), fresh w O, ?_, trivial, stars_alloc _ hdom hst ⟨by simp, #[], 0, heap_alloc w _, rfl, by simp, by simp, by simp⟩, rel_alloc _ hdom⟩
  simp [execOp, Instr.makeMap]
end
end Go.SL

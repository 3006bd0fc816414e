/- The texts KT, T1, T2, T3, T4, T5, T6, T7, T8, one behind the other. -/
import Derived.Test.YtnamhhmfnokfiaaZZ5
set_option linter.unusedVariables false
set_option linter.unusedSimpArgs false
/- Chapter 12: the table in memory. -/
namespace Go.Proofs.Ytnamhhmfnokfiaa
open Go Go.SL

/-- A name's place: who has it, and who waits for it. -/
abbrev Pl := ByteArray × List (Int × Int) × List (Int × Int)
abbrev eW : Enc (Int × Int) := ePair (eInt .i64) (eInt .i64)
/-- A place in memory: its map's block, its queue's slice. -/
abbrev MPl := Nat × Value × Pl
abbrev Wt := List (Int × Int)
def mInt (m : List (Int × Int)) : List (Int × Value) := m.map fun q => (q.1, .int .i64 q.2)
def plV (p : MPl) : Value := .agg #[.map (some p.1), p.2.1]
def plA (p : MPl) : A := AllA [MapO kInt (some p.1) (mInt p.2.2.2.1), OwnO eW 137 p.2.1 p.2.2.2.2]
def entP (p : MPl) : ByteArray × Value := (p.2.2.1, plV p)
def goalV (n : ByteArray) : Value := .agg #[.string n]
def entG (g : Int × ByteArray) : Int × Value := (g.1, goalV g.2)
/-- What a table says. -/
structure Sg where
  has : ByteArray → Int → Option Int
  wait : ByteArray → Wt
  goal : Int → Option ByteArray
def lkA {κ β : Type} [DecidableEq κ] (m : List (κ × β)) (k : κ) : Option β := (m.find? fun p => decide (p.1 = k)).map (·.2)
def plOf (ps : List MPl) (n : ByteArray) : Wt × Wt := ((ps.find? fun p => decide (p.2.2.1 = n)).map fun p => p.2.2.2).getD ([], [])
def plZ : Value := .agg #[.map none, .slice none 0 0]
theorem lkA_nil {κ β : Type} [DecidableEq κ] (k : κ) : lkA ([] : List (κ × β)) k = none := rfl
theorem lkA_cons {κ β : Type} [DecidableEq κ] (p : κ × β) (m : List (κ × β)) (k : κ) : lkA (p :: m) k = if p.1 = k then some p.2 else lkA m k := by
  simp only [lkA, List.find?_cons]
  by_cases h : p.1 = k <;> simp [h]
theorem look_map {κ β : Type} [DecidableEq κ] (g : β → Value) (k : κ) : ∀ m : List (κ × β), Go.SL.look (m.map fun q => (q.1, g q.2)) k = (lkA m k).map g
  | [] => rfl
  | q :: m => by
    rw [List.map_cons, look_cons, lkA_cons, look_map g k m]
    split <;> rfl
theorem look_mInt (m : Wt) (k : Int) : Go.SL.look (mInt m) k = (lkA m k).map (.int .i64) := look_map (.int .i64) k m
theorem look_entG (gs : List (Int × ByteArray)) (k : Int) : Go.SL.look (gs.map entG) k = (lkA gs k).map goalV := look_map goalV k gs
theorem plOf_cons (p : MPl) (ps : List MPl) (n : ByteArray) : plOf (p :: ps) n = if p.2.2.1 = n then p.2.2.2 else plOf ps n := by
  simp only [plOf, List.find?_cons]
  by_cases h : p.2.2.1 = n <;> simp [h]
theorem plOf_nil (n : ByteArray) : plOf [] n = ([], []) := rfl
theorem plOf_none {ps : List MPl} {n : ByteArray} (h : ∀ p ∈ ps, p.2.2.1 ≠ n) : plOf ps n = ([], []) := by
  induction ps with
  | nil => rfl
  | cons p ps ih => rw [plOf_cons, if_neg (h p (by simp)), ih fun q hq => h q (by simp [hq])]
theorem plOf_mid {ps1 ps2 : List MPl} {p : MPl} (h : ∀ q ∈ ps1, q.2.2.1 ≠ p.2.2.1) : plOf (ps1 ++ p :: ps2) p.2.2.1 = p.2.2.2 := by
  induction ps1 with
  | nil => rw [List.nil_append, plOf_cons, if_pos rfl]
  | cons q ps1 ih => rw [List.cons_append, plOf_cons, if_neg (h q (by simp)), ih fun r hr => h r (by simp [hr])]
theorem plOf_skip {ps1 ps2 : List MPl} {p : MPl} {n : ByteArray} (h : p.2.2.1 ≠ n) : plOf (ps1 ++ p :: ps2) n = plOf (ps1 ++ ps2) n := by
  induction ps1 with
  | nil => rw [List.nil_append, plOf_cons, if_neg h]; rfl
  | cons q ps1 ih => rw [List.cons_append, plOf_cons, ih, List.cons_append, plOf_cons]
theorem look_pl : ∀ (ps : List MPl) (n : ByteArray), (Go.SL.look (ps.map entP) n = none ∧ ∀ p ∈ ps, p.2.2.1 ≠ n) ∨ ∃ ps1 p ps2, ps = ps1 ++ p :: ps2 ∧ p.2.2.1 = n ∧ Go.SL.look (ps.map entP) n = some (plV p)
  | [], n => .inl ⟨rfl, fun _ h => by cases h⟩
  | p :: ps, n => by
    rw [List.map_cons, look_cons]
    by_cases hp : p.2.2.1 = n
    · right
      refine ⟨[], p, ps, rfl, hp, ?_⟩
      rw [if_pos (show (entP p).1 = n from hp)]; rfl
    · rw [if_neg (show ¬ (entP p).1 = n from hp)]
      rcases look_pl ps n with ⟨h1, h2⟩ | ⟨ps1, q, ps2, h1, h2, h3⟩
      · left
        refine ⟨h1, fun q hq => ?_⟩
        rcases List.mem_cons.1 hq with rfl | hq
        · exact hp
        · exact h2 q hq
      · right
        exact ⟨p :: ps1, q, ps2, by rw [h1]; rfl, h2, h3⟩

def ViewF (N : Nat) (σ : Sg) (o1 o2 : Option Nat) (ps : List MPl) (gs : List (Int × ByteArray)) : Prop :=
  (ps.map fun p : MPl => p.2.2.1).Nodup ∧ (∀ n, σ.has n = lkA (plOf ps n).1 ∧ σ.wait n = (plOf ps n).2) ∧ σ.goal = lkA gs ∧ o1.isNone = o2.isNone ∧ ps.length ≤ N ∧ gs.length ≤ N ∧ ∀ p ∈ ps, p.2.2.2.1.length + p.2.2.2.2.length ≤ N
/-- Nothing at all. -/
def EmptyF (σ : Sg) : Prop := (∀ k, σ.has k = lkA [] ∧ σ.wait k = []) ∧ σ.goal = lkA []
/-- The table: its places, its waiters, in the order in which the maps hold them. -/
def TabA (N t : Nat) (σ : Sg) : A := ExA fun o : Option Nat × Option Nat => ExA fun ps : List MPl => ExA fun gs : List (Int × ByteArray) =>
  AllA [Blk t 75 [.map o.1, .map o.2], MapO kStr o.1 (ps.map entP), MapO kInt o.2 (gs.map entG), AllA (ps.map plA), Pu (ViewF N σ o.1 o.2 ps gs)]
def stale (n : ByteArray) : Option Value → List (ByteArray × Value)
  | none => []
  | some x => [(n, x)]
def HoleF (N : Nat) (σ : Sg) (n : ByteArray) (o1 o2 : Option Nat) (es : List (ByteArray × Value)) (ps : List MPl) (gs : List (Int × ByteArray)) : Prop :=
  (∃ ps1 ps2 st, ps = ps1 ++ ps2 ∧ es = ps1.map entP ++ stale n st ++ ps2.map entP ∧ (st = none → ps2 = [])) ∧ (∀ p ∈ ps, p.2.2.1 ≠ n) ∧ (ps.map fun p : MPl => p.2.2.1).Nodup ∧ (∀ k, k ≠ n → σ.has k = lkA (plOf ps k).1 ∧ σ.wait k = (plOf ps k).2) ∧ σ.goal = lkA gs ∧
    o1 ≠ none ∧ o2 ≠ none ∧ ps.length + 1 ≤ N ∧ gs.length ≤ N ∧ ∀ p ∈ ps, p.2.2.2.1.length + p.2.2.2.2.length ≤ N
/-- The table, but for the place of one name. -/
def TabH (N t : Nat) (σ : Sg) (n : ByteArray) : A := ExA fun o : Option Nat × Option Nat => ExA fun es : List (ByteArray × Value) => ExA fun ps : List MPl => ExA fun gs : List (Int × ByteArray) =>
  AllA [Blk t 75 [.map o.1, .map o.2], MapO kStr o.1 es, MapO kInt o.2 (gs.map entG), AllA (ps.map plA), Pu (HoleF N σ n o.1 o.2 es ps gs)]
def Sg.put (σ : Sg) (n : ByteArray) (h : Int → Option Int) (w : Wt) : Sg := ⟨fun k => if k = n then h else σ.has k, fun k => if k = n then w else σ.wait k, σ.goal⟩

theorem mapO_nodup {o : Option Nat} {m : Wt} {w : World} {O : Perm} (h : (MapO kInt o (mInt m)).h w O) : (m.map fun q : Int × Int => q.1).Nodup := by
  cases o with
  | none =>
    have h0 : mInt m = [] := h
    unfold mInt at h0
    rw [List.map_eq_nil_iff] at h0
    rw [h0]; exact List.nodup_nil
  | some b =>
    obtain ⟨_, es, c, _, _, _, _, hn⟩ := (show (MapA kInt b (mInt m)).h w O from h)
    unfold mInt at hn
    rw [List.map_map] at hn; exact hn
theorem lkA_mem {κ β : Type} [DecidableEq κ] {m : List (κ × β)} {k : κ} {x : β} (h : lkA m k = some x) : (k, x) ∈ m := by
  induction m with
  | nil => cases h
  | cons p m ih =>
    rw [lkA_cons] at h
    split at h
    · rename_i hp
      subst hp
      rw [← Option.some.inj h]; exact List.mem_cons_self
    · exact List.mem_cons_of_mem _ (ih h)
theorem mem_lkA {κ β : Type} [DecidableEq κ] {m : List (κ × β)} {k : κ} {x : β} (hn : (m.map fun q : κ × β => q.1).Nodup) (h : (k, x) ∈ m) : lkA m k = some x := by
  induction m with
  | nil => cases h
  | cons p m ih =>
    rw [List.map_cons, List.nodup_cons] at hn
    rw [lkA_cons]
    rcases List.mem_cons.1 h with rfl | h
    · rw [if_pos rfl]
    · rw [if_neg fun e => hn.1 (List.mem_map.2 ⟨_, h, e.symm⟩)]
      exact ih hn.2 h
theorem lkA_isSome {κ β : Type} [DecidableEq κ] {m : List (κ × β)} {k : κ} : (lkA m k).isSome = true ↔ k ∈ m.map fun q : κ × β => q.1 := by
  induction m with
  | nil => simp [lkA_nil]
  | cons p m ih =>
    rw [lkA_cons, List.map_cons, List.mem_cons]
    by_cases h : p.1 = k
    · rw [if_pos h]; simp [h]
    · rw [if_neg h, ih]
      exact ⟨.inr, fun k => k.resolve_left fun e => h e.symm⟩
theorem ps_none {o1 : Option Nat} {ps : List MPl} {w : World} {O : Perm} (h : (MapO kStr o1 (ps.map entP)).h w O) : o1 = none → ps = [] := fun e => by
  subst e; exact List.map_eq_nil_iff.1 (show ps.map entP = [] from h)
theorem pull_pl {ps1 ps2 : List MPl} {p : MPl} {L : List A} : Ent (AllA ((ps1 ++ p :: ps2).map plA) :: L) (plA p :: AllA ((ps1 ++ ps2).map plA) :: L) := by
  intro W O hs
  have h1 := stars_join hs
  have h2 : Stars (plA p :: ((ps1 ++ ps2).map plA ++ L)) W O := Ent.perm (by
    simp only [List.map_append, List.map_cons, List.append_assoc, List.cons_append]
    exact List.perm_middle) W O h1
  obtain ⟨O1, O2, s, g1, g2⟩ := h2
  obtain ⟨P1, P2, t, k1, k2⟩ := stars_split g2
  exact ⟨O1, O2, s, g1, P1, P2, t, k1, k2⟩
theorem push_pl {ps1 ps2 : List MPl} {p : MPl} {L : List A} : Ent (plA p :: AllA ((ps1 ++ ps2).map plA) :: L) (AllA ((ps1 ++ p :: ps2).map plA) :: L) := by
  intro W O hs
  have h1 : Stars (AllA ((ps1 ++ ps2).map plA) :: plA p :: L) W O := Ent.perm (List.Perm.swap _ _ _) W O hs
  have h2 := stars_join h1
  refine ent_all W O (Ent.perm ?_ W O h2)
  simp only [List.map_append, List.map_cons, List.append_assoc, List.cons_append]
  exact List.Perm.append_left _ List.perm_middle

section
variable {X : Cx} {k : List Item} {env : Env} {L : List A}
theorem tab_mk {N t : Nat} {σ : Sg} {o1 o2 : Option Nat} {ps : List MPl} {gs : List (Int × ByteArray)} (h : ViewF N σ o1 o2 ps gs) :
    Ent (Blk t 75 [.map o1, .map o2] :: MapO kStr o1 (ps.map entP) :: MapO kInt o2 (gs.map entG) :: AllA (ps.map plA) :: L) (TabA N t σ :: L) :=
  fun w O hs => Ent.head (b := TabA N t σ) (a := AllA [Blk t 75 [.map o1, .map o2], MapO kStr o1 (ps.map entP), MapO kInt o2 (gs.map entG), AllA (ps.map plA), Pu (ViewF N σ o1 o2 ps gs)]) (fun _ _ k => ⟨(o1, o2), ps, gs, k⟩) w O
    (ent_all w O (Ent.cons (Ent.cons (Ent.cons (Ent.cons (Ent.pu h)))) w O hs))
theorem hole_mk {N t : Nat} {σ : Sg} {n : ByteArray} {o1 o2 : Option Nat} {es : List (ByteArray × Value)} {ps : List MPl} {gs : List (Int × ByteArray)} (h : HoleF N σ n o1 o2 es ps gs) :
    Ent (Blk t 75 [.map o1, .map o2] :: MapO kStr o1 es :: MapO kInt o2 (gs.map entG) :: AllA (ps.map plA) :: L) (TabH N t σ n :: L) :=
  fun w O hs => Ent.head (b := TabH N t σ n) (a := AllA [Blk t 75 [.map o1, .map o2], MapO kStr o1 es, MapO kInt o2 (gs.map entG), AllA (ps.map plA), Pu (HoleF N σ n o1 o2 es ps gs)]) (fun _ _ k => ⟨(o1, o2), es, ps, gs, k⟩) w O
    (ent_all w O (Ent.cons (Ent.cons (Ent.cons (Ent.cons (Ent.pu h)))) w O hs))
theorem pl_mk {b : Nat} {v : Value} {n : ByteArray} {m w : Wt} : Ent (MapO kInt (some b) (mInt m) :: OwnO eW 137 v w :: L) (plA (b, v, n, m, w) :: L) :=
  fun W O hs => ent_all (l := [MapO kInt (some b) (mInt m), OwnO eW 137 v w]) W O hs
theorem c_tab {N t : Nat} {σ : Sg} (hc : ∀ o1 o2 ps gs, ViewF N σ o1 o2 ps gs → Cfg X k env (Blk t 75 [.map o1, .map o2] :: MapO kStr o1 (ps.map entP) :: MapO kInt o2 (gs.map entG) :: AllA (ps.map plA) :: L)) : Cfg X k env (TabA N t σ :: L) :=
  c_ex fun o => c_ex fun ps => c_ex fun gs => c_all (c_pu (p := ViewF N σ o.1 o.2 ps gs) (.there (.there (.there (.there .here)))) fun h => c_ent (Ent.cons (Ent.cons (Ent.cons (Ent.cons Ent.drop)))) (hc o.1 o.2 ps gs h))
theorem c_hole {N t : Nat} {σ : Sg} {n : ByteArray} (hc : ∀ o1 o2 es ps gs, HoleF N σ n o1 o2 es ps gs → Cfg X k env (Blk t 75 [.map o1, .map o2] :: MapO kStr o1 es :: MapO kInt o2 (gs.map entG) :: AllA (ps.map plA) :: L)) : Cfg X k env (TabH N t σ n :: L) :=
  c_ex fun o => c_ex fun es => c_ex fun ps => c_ex fun gs => c_all (c_pu (p := HoleF N σ n o.1 o.2 es ps gs) (.there (.there (.there (.there .here)))) fun h => c_ent (Ent.cons (Ent.cons (Ent.cons (Ent.cons Ent.drop)))) (hc o.1 o.2 es ps gs h))
theorem c_tab_at {N t : Nat} {σ : Sg} (n : ByteArray) (hc : ∀ (o1 o2 : Option Nat) (es : List (ByteArray × Value)) (gs : List (Int × ByteArray)) (ob : Option Nat) (v : Value) (m w : Wt) (R : A), (Go.SL.look es n).getD plZ = .agg #[.map ob, v] → σ.has n = lkA m → σ.wait n = w → σ.goal = lkA gs → m.length + w.length ≤ N → gs.length ≤ N →
      (ob = none → m = [] ∧ w = [] ∧ v = .slice none 0 0) → o1.isNone = o2.isNone → (m.map fun q : Int × Int => q.1).Nodup → (o1 = none → EmptyF σ) →
      Ent [Blk t 75 [.map o1, .map o2], MapO kStr o1 es, MapO kInt o2 (gs.map entG), MapO kInt ob (mInt m), OwnO eW 137 v w, R] [TabA N t σ] →
      (o1 ≠ none → Ent [Blk t 75 [.map o1, .map o2], MapO kStr o1 es, MapO kInt o2 (gs.map entG), R] [TabH (if ob = none then N + 1 else N) t σ n]) →
      Cfg X k env (Blk t 75 [.map o1, .map o2] :: MapO kStr o1 es :: MapO kInt o2 (gs.map entG) :: MapO kInt ob (mInt m) :: OwnO eW 137 v w :: R :: L)) : Cfg X k env (TabA N t σ :: L) := by
  refine c_tab fun o1 o2 ps gs hv => ?_
  obtain ⟨h1, h2, h3, h4, h5, h6, h7⟩ := id hv
  refine c_fact (a := MapO kStr o1 (ps.map entP)) (p := o1 = none → ps = []) (.there .here) (fun _ _ h e => by subst e; exact List.map_eq_nil_iff.1 (show ps.map entP = [] from h)) fun hps => ?_
  refine c_fact (a := MapO kInt o2 (gs.map entG)) (p := o2 = none → gs = []) (.there (.there .here)) (fun _ _ h e => by subst e; exact List.map_eq_nil_iff.1 (show gs.map entG = [] from h)) fun hgs => ?_
  have hemp : o1 = none → EmptyF σ := fun e => by
    have e2 : o2 = none := by subst e; cases o2 <;> simp_all
    rw [hgs e2] at h3
    refine ⟨fun k => ?_, h3⟩
    have := h2 k
    rw [hps e] at this
    exact this
  clear hps hgs
  rcases look_pl ps n with ⟨hl, hn⟩ | ⟨ps1, p, ps2, rfl, hp, hl⟩
  · refine c_ent (L' := Blk t 75 [.map o1, .map o2] :: MapO kStr o1 (ps.map entP) :: MapO kInt o2 (gs.map entG) :: MapO kInt none (mInt []) :: OwnO eW 137 (.slice none 0 0) [] :: AllA (ps.map plA) :: L) (Ent.cons (Ent.cons (Ent.cons (Ent.trans (Ent.beside fun w O _ => OwnO.nil w _) (Ent.pu (p := mInt [] = []) rfl))))) ?_
    refine hc o1 o2 (ps.map entP) gs none (.slice none 0 0) [] [] (AllA (ps.map plA)) (by rw [hl]; rfl) ?_ ?_ h3 (Nat.zero_le _) h6 (fun _ => ⟨rfl, rfl, rfl⟩) h4 List.nodup_nil hemp ?_ fun ho => ?_
    · rw [(h2 n).1, plOf_none hn]
    · rw [(h2 n).2, plOf_none hn]
    · exact Ent.trans (Ent.cons (Ent.cons (Ent.cons (Ent.trans Ent.drop Ent.drop)))) (tab_mk hv)
    · rw [if_pos rfl]
      exact hole_mk ⟨⟨ps, [], none, by simp, by simp [stale], fun _ => rfl⟩, hn, h1, fun k _ => h2 k, h3, ho, fun e => by subst e; cases o1 <;> simp_all, by omega, by omega, fun p hp => by have := h7 p hp; omega⟩
  · subst hp
    rw [List.map_append, List.map_cons] at h1
    have hd := List.nodup_append.1 h1
    have hd2 := List.nodup_cons.1 hd.2.1
    have ho1 : ∀ q ∈ ps1, q.2.2.1 ≠ p.2.2.1 := fun q hq e => hd.2.2 q.2.2.1 (List.mem_map.2 ⟨q, hq, rfl⟩) p.2.2.1 (by simp) e
    have ho2 : ∀ q ∈ ps2, q.2.2.1 ≠ p.2.2.1 := fun q hq e => hd2.1 (List.mem_map.2 ⟨q, hq, e⟩)
    obtain ⟨b, v, n, m, w⟩ := p
    refine c_ent (L' := Blk t 75 [.map o1, .map o2] :: MapO kStr o1 ((ps1 ++ (b, v, n, m, w) :: ps2).map entP) :: MapO kInt o2 (gs.map entG) :: MapO kInt (some b) (mInt m) :: OwnO eW 137 v w :: AllA ((ps1 ++ ps2).map plA) :: L) (Ent.cons (Ent.cons (Ent.cons (Ent.trans pull_pl fun _ _ hs => stars_join (L1 := [MapO kInt (some b) (mInt m), OwnO eW 137 v w]) hs)))) ?_
    refine c_fact (a := MapO kInt (some b) (mInt m)) (p := (m.map fun q : Int × Int => q.1).Nodup) (.there (.there (.there .here))) (fun _ _ => mapO_nodup) fun hnd => ?_
    refine hc o1 o2 _ gs (some b) v m w (AllA ((ps1 ++ ps2).map plA)) (by rw [hl]; rfl) ?_ ?_ h3 (h7 (b, v, n, m, w) (by simp)) h6 (fun e => by cases e) h4 hnd hemp ?_ fun ho => ?_
    · rw [(h2 n).1]; exact congrArg (fun q : Wt × Wt => lkA q.1) (plOf_mid (p := (b, v, n, m, w)) ho1)
    · rw [(h2 n).2]; exact congrArg (fun q : Wt × Wt => q.2) (plOf_mid (p := (b, v, n, m, w)) ho1)
    · exact Ent.trans (Ent.cons (Ent.cons (Ent.cons (Ent.trans pl_mk push_pl)))) (tab_mk hv)
    · rw [if_neg (by simp)]
      refine hole_mk ⟨⟨ps1, ps2, some (plV (b, v, n, m, w)), rfl, by simp [stale, entP], fun e => by cases e⟩, fun q hq => ?_, ?_, fun k hk => ?_, h3, ho, fun e => by subst e; cases o1 <;> simp_all, by simp at h5 ⊢; omega, h6, fun q hq => h7 q ?_⟩
      · rcases List.mem_append.1 hq with h | h
        · exact ho1 q h
        · exact ho2 q h
      · rw [List.map_append]
        exact List.nodup_append.2 ⟨hd.1, hd2.2, fun a ha b hb => hd.2.2 a ha b (List.mem_cons_of_mem _ hb)⟩
      · rw [(h2 k).1, (h2 k).2, plOf_skip (p := (b, v, n, m, w)) (Ne.symm hk)]; exact ⟨rfl, rfl⟩
      · rcases List.mem_append.1 hq with h | h <;> simp [h]
end
theorem hole_le {N M : Nat} {σ : Sg} {n : ByteArray} {o1 o2 : Option Nat} {es : List (ByteArray × Value)} {ps : List MPl} {gs : List (Int × ByteArray)} (hNM : N ≤ M) (h : HoleF N σ n o1 o2 es ps gs) : HoleF M σ n o1 o2 es ps gs := by
  obtain ⟨h1, h2, h3, h4, h5, h6, h7, h8, h9, h10⟩ := h
  exact ⟨h1, h2, h3, h4, h5, h6, h7, by omega, by omega, fun p hp => by have := h10 p hp; omega⟩
theorem tabH_le {N M t : Nat} {σ : Sg} {n : ByteArray} (hNM : N ≤ M) {w : World} {O : Perm} (h : (TabH N t σ n).h w O) : (TabH M t σ n).h w O := by
  obtain ⟨o, es, ps, gs, hs⟩ := h
  refine ⟨o, es, ps, gs, ?_⟩
  obtain ⟨O1, O2, s, a1, O3, O4, s2, a2, O5, O6, s3, a3, O7, O8, s4, a4, O9, O10, s5, a5, a6⟩ := hs
  exact ⟨O1, O2, s, a1, O3, O4, s2, a2, O5, O6, s3, a3, O7, O8, s4, a4, O9, O10, s5, hole_le hNM a5, a6⟩
theorem view_le {N M : Nat} {σ : Sg} {o1 o2 : Option Nat} {ps : List MPl} {gs : List (Int × ByteArray)} (hNM : N ≤ M) (h : ViewF N σ o1 o2 ps gs) : ViewF M σ o1 o2 ps gs := by
  obtain ⟨h1, h2, h3, h4, h5, h6, h7⟩ := h
  exact ⟨h1, h2, h3, h4, by omega, by omega, fun p hp => by have := h7 p hp; omega⟩
theorem tabA_le {N M t : Nat} {σ : Sg} (hNM : N ≤ M) {w : World} {O : Perm} (h : (TabA N t σ).h w O) : (TabA M t σ).h w O := by
  obtain ⟨o, ps, gs, hs⟩ := h
  refine ⟨o, ps, gs, ?_⟩
  obtain ⟨O1, O2, s, a1, O3, O4, s2, a2, O5, O6, s3, a3, O7, O8, s4, a4, O9, O10, s5, a5, a6⟩ := hs
  exact ⟨O1, O2, s, a1, O3, O4, s2, a2, O5, O6, s3, a3, O7, O8, s4, a4, O9, O10, s5, view_le hNM a5, a6⟩
theorem hole_empty {N : Nat} {σ : Sg} {n : ByteArray} {b1 b2 : Nat} (h : EmptyF σ) : HoleF (N + 1) σ n (some b1) (some b2) [] [] [] :=
  ⟨⟨[], [], none, rfl, rfl, fun _ => rfl⟩, fun _ h => (by cases h), List.nodup_nil, fun k _ => h.1 k, h.2, (by simp), (by simp), (by simp), (by simp), fun _ h => (by cases h)⟩
theorem ent_app {l r L : List A} (h : Ent l r) : Ent (l ++ L) (r ++ L) := fun w O hs => by
  obtain ⟨O1, O2, s, h1, h2⟩ := stars_split hs
  exact Stars.app s (h w O1 h1) h2
theorem del_ne {ps : List MPl} {n : ByteArray} (h : ∀ p ∈ ps, p.2.2.1 ≠ n) : del (ps.map entP) n = ps.map entP := by
  unfold del
  rw [List.filter_eq_self]
  intro q hq
  obtain ⟨p, hp, rfl⟩ := List.mem_map.1 hq
  exact decide_eq_true (h p hp)
theorem del_hole {ps1 ps2 : List MPl} {n : ByteArray} {st : Option Value} (h : ∀ p ∈ ps1 ++ ps2, p.2.2.1 ≠ n) : del (ps1.map entP ++ stale n st ++ ps2.map entP) n = (ps1 ++ ps2).map entP := by
  have h1 := del_ne (ps := ps1) (n := n) fun p hp => h p (List.mem_append_left _ hp)
  have h2 := del_ne (ps := ps2) (n := n) fun p hp => h p (List.mem_append_right _ hp)
  have h3 : del (stale n st) n = [] := by cases st <;> simp [del, stale]
  unfold del at h1 h2 h3 ⊢
  rw [List.filter_append, List.filter_append, h1, h2, h3, List.append_nil, List.map_append]
theorem upd_hole {ps1 ps2 : List MPl} {n : ByteArray} {st : Option Value} {x : Value} (h : ∀ p ∈ ps1, p.2.2.1 ≠ n) (hs : st = none → ps2 = []) : upd (ps1.map entP ++ stale n st ++ ps2.map entP) n x = ps1.map entP ++ (n, x) :: ps2.map entP := by
  induction ps1 with
  | nil =>
    cases st with
    | none => rw [hs rfl]; rfl
    | some y => simp [stale, upd]
  | cons p ps1 ih =>
    rw [List.map_cons, List.cons_append, List.cons_append, upd, if_neg (show ¬ (entP p).1 = n from h p (by simp)), ih fun q hq => h q (by simp [hq])]
    rfl
theorem view_put {N : Nat} {σ : Sg} {n : ByteArray} {o1 o2 : Option Nat} {es : List (ByteArray × Value)} {ps1 ps2 : List MPl} {gs : List (Int × ByteArray)} {b : Nat} {v : Value} {m w : Wt} (h : HoleF N σ n o1 o2 es (ps1 ++ ps2) gs) (hm : m.length + w.length ≤ N) :
    ViewF N (σ.put n (lkA m) w) o1 o2 (ps1 ++ (b, v, n, m, w) :: ps2) gs := by
  obtain ⟨_, h2, h3, h4, h5, h6, h7, h8, h9, h10⟩ := h
  refine ⟨?_, fun k => ?_, h5, by cases o1 <;> cases o2 <;> simp_all, by simp at h8 ⊢; omega, h9, fun p hp => ?_⟩
  · rw [List.map_append, List.map_cons]
    rw [List.map_append] at h3
    refine (List.perm_middle.nodup_iff).2 (List.nodup_cons.2 ⟨fun hx => ?_, h3⟩)
    rw [← List.map_append] at hx
    obtain ⟨p, hp, he⟩ := List.mem_map.1 hx
    exact h2 p hp he
  · by_cases hk : k = n
    · subst hk
      have := plOf_mid (p := (b, v, k, m, w)) (ps1 := ps1) (ps2 := ps2) fun q hq => h2 q (List.mem_append_left _ hq)
      rw [this]
      simp [Sg.put]
    · rw [plOf_skip (p := (b, v, n, m, w)) (Ne.symm hk)]
      simp only [Sg.put, if_neg hk]
      exact h4 k hk
  · rcases List.mem_append.1 hp with h | h
    · exact h10 p (List.mem_append_left _ h)
    · rcases List.mem_cons.1 h with rfl | h
      · exact hm
      · exact h10 p (List.mem_append_right _ h)
theorem view_del {N : Nat} {σ : Sg} {n : ByteArray} {o1 o2 : Option Nat} {es : List (ByteArray × Value)} {ps : List MPl} {gs : List (Int × ByteArray)} (h : HoleF N σ n o1 o2 es ps gs) :
    ViewF N (σ.put n (lkA []) []) o1 o2 ps gs := by
  obtain ⟨_, h2, h3, h4, h5, h6, h7, h8, h9, h10⟩ := h
  refine ⟨h3, fun k => ?_, h5, by cases o1 <;> cases o2 <;> simp_all, by omega, h9, h10⟩
  by_cases hk : k = n
  · subst hk
    rw [plOf_none h2]; simp [Sg.put]
  · simp only [Sg.put, if_neg hk]; exact h4 k hk
theorem mapO_sep {κ : Type} [DecidableEq κ] {ke : KeyEnc κ} {o : Option Nat} {m : List (κ × Value)} : (MapO ke o m).Sep := by
  cases o with
  | none => exact Pu.sep _
  | some b => exact MapA.sep
theorem pl2_sep {c : Nat} {T : TypeId} {cs : List Value} {κ : Type} [DecidableEq κ] {ke : KeyEnc κ} {o : Option Nat} {m : List (κ × Value)} : (AllA [Blk c T cs, MapO ke o m]).Sep := AllA.sep (.cons Blk.sep (.cons mapO_sep .nil))
theorem pls_sep : ∀ ps : List MPl, Seps (ps.map plA)
  | [] => .nil
  | p :: ps => .cons (AllA.sep (.cons mapO_sep (.cons OwnO.sep .nil))) (pls_sep ps)
theorem tab_sep {N t : Nat} {σ : Sg} : (TabA N t σ).Sep := ExA.sep fun _ => ExA.sep fun _ => ExA.sep fun _ => AllA.sep (.cons Blk.sep (.cons mapO_sep (.cons mapO_sep (.cons (AllA.sep (pls_sep _)) (.cons (Pu.sep _) .nil)))))
theorem hole_sep {N t : Nat} {σ : Sg} {n : ByteArray} : (TabH N t σ n).Sep := ExA.sep fun _ => ExA.sep fun _ => ExA.sep fun _ => ExA.sep fun _ => AllA.sep (.cons Blk.sep (.cons mapO_sep (.cons mapO_sep (.cons (AllA.sep (pls_sep _)) (.cons (Pu.sep _) .nil)))))
instance {N t : Nat} {σ : Sg} : SepC (TabA N t σ) := ⟨tab_sep⟩
instance {N t : Nat} {σ : Sg} {n : ByteArray} : SepC (TabH N t σ n) := ⟨hole_sep⟩
end Go.Proofs.Ytnamhhmfnokfiaa
/- Chapter 12: what a table tells. -/
namespace Go.Proofs.Ytnamhhmfnokfiaa
open Go Go.SL
attribute [local irreducible] Cfg Kont StepK Val Con Qops Any Sl Own Blk BlkR Rd Pu ExA AllA Has Pick Ent Elem Beside Callable TI Lone OwnO AndA
set_option maxRecDepth 100000 in
theorem has_con (N t : Nat) (σ : Sg) (o : Int) (n : ByteArray) :
    Con Try.prog 40 [.pointer (some ⟨t, 0, none⟩), .int .i64 o, .string n] [TabA N t σ] (γ := Unit) (fun _ => .tuple #[.int .i64 ((σ.has n o).getD 0), .bool (σ.has n o).isSome]) (fun _ => True) (fun _ => [TabA N t σ]) := by
  refine con_of Try.func40 rfl (dd rfl) fun w0 O0 => ?_
  refine c_tab_at n fun o1 o2 es gs ob v m w R hl hm hw hg hN hG hno hoo hnd hemp hcl hch => ?_
  unfold plZ at hl
  refine c_seq ?_
  refine c_region ?_
  refine o_val (v_assign rfl) (dd rfl) ?_
  refine o_val (v_assign rfl) (dd rfl) ?_
  refine o_nil ?_
  refine c_seq ?_
  refine c_region ?_
  refine o_val (v_move rfl) (dd rfl) ?_
  refine o_val (v_nilCheck rfl) (dd rfl) ?_
  refine o_val (v_fieldAddrC 0 Try.underlying75 rfl ti72 (by decide) rfl) (dd rfl) ?_
  refine o_val (v_load lone72 rfl (hX (by repeat constructor)) rfl) (dd rfl) ?_
  refine o_val (v_move rfl) (dd rfl) ?_
  refine o_val (v_lookupO kStr Try.underlying72 Try.underlying9 ti135 rfl rfl (hX (by repeat constructor))) (dd rfl) ?_
  try simp only [hl, Option.getD_none, Option.getD_some, Option.isSome_none, Option.isSome_some]
  refine o_val (v_field Try.underlying135 rfl lone97 rfl rfl) (dd rfl) ?_
  refine o_val (v_move rfl) (dd rfl) ?_
  refine o_val (v_lookupO2 kInt Try.underlying97 Try.underlying3 ti3 rfl rfl (hX (by repeat constructor))) (dd rfl) ?_
  try simp only [hl, Option.getD_none, Option.getD_some, Option.isSome_none, Option.isSome_some]
  refine o_val (v_move rfl) (dd rfl) ?_
  refine o_val (v_extract rfl rfl) (dd rfl) ?_
  refine o_val (v_extract rfl rfl) (dd rfl) ?_
  refine o_val (v_assign rfl) (dd rfl) ?_
  refine o_val (v_assign rfl) (dd rfl) ?_
  refine o_nil ?_
  refine c_seq ?_
  refine c_region ?_
  refine o_val (v_move rfl) (dd rfl) ?_
  refine o_val (v_move rfl) (dd rfl) ?_
  refine o_val (v_assign rfl) (dd rfl) ?_
  refine o_val (v_assign rfl) (dd rfl) ?_
  refine o_nil ?_
  refine c_ret2 Try.func40 rfl rfl rfl fun w O hS => ?_
  refine ⟨(), ?_, trivial, Ent.get (Ent.get hS (eX (by repeat constructor))) hcl⟩
  rw [look_mInt, hm]
  cases lkA m o <;> rfl
def lastM (w : Wt) (o : Int) : Int := w.foldl (fun a q => if q.1 = o then q.2 else a) 0
theorem lastM_step {w : Wt} {i : Nat} (o : Int) (hi : i < w.length) : lastM (w.take (i + 1)) o = if w[i].1 = o then w[i].2 else lastM (w.take i) o := by
  unfold lastM
  rw [List.take_succ_eq_append_getElem hi, List.foldl_append]; rfl
def modeOf (σ : Sg) (o : Int) : Int := ((σ.goal o).map fun n => lastM (σ.wait n) o).getD 0
set_option maxRecDepth 100000 in
theorem waits_con (N t : Nat) (σ : Sg) (o : Int) (hN : N ≤ 100000) :
    Con Try.prog 47 [.pointer (some ⟨t, 0, none⟩), .int .i64 o] [TabA N t σ] (γ := Unit) (fun _ => .tuple #[.string ((σ.goal o).getD ⟨#[]⟩), .int .i64 (modeOf σ o), .bool (σ.goal o).isSome]) (fun _ => True) (fun _ => [TabA N t σ]) := by
  refine con_of Try.func47 rfl (dd rfl) fun w0 O0 => ?_
  refine c_tab_at ((σ.goal o).getD ⟨#[]⟩) fun o1 o2 es gs ob v m w R hl hm hw hG hmw hgN hno hoo hnd hemp hcl hch => ?_
  have hlg : Go.SL.look (gs.map entG) o = (σ.goal o).map goalV := by rw [look_entG, hG]
  unfold plZ at hl
  cases hgo : σ.goal o with
  | none =>
    have hmo : modeOf σ o = 0 := by unfold modeOf; rw [hgo]; rfl
    rw [hgo] at hl hlg
    simp only [Option.getD_none, Option.map_none] at hl hlg
    refine c_seq ?_
    refine c_region ?_
    refine o_val (v_assign rfl) (dd rfl) ?_
    refine o_val (v_assign rfl) (dd rfl) ?_
    refine o_val (v_assign rfl) (dd rfl) ?_
    refine o_nil ?_
    refine c_seq ?_
    refine c_region ?_
    refine o_val (v_move rfl) (dd rfl) ?_
    refine o_val (v_nilCheck rfl) (dd rfl) ?_
    refine o_val (v_fieldAddrC 1 Try.underlying75 rfl ti73 (by decide) rfl) (dd rfl) ?_
    refine o_val (v_load lone73 rfl (hX (by repeat constructor)) rfl) (dd rfl) ?_
    refine o_val (v_move rfl) (dd rfl) ?_
    refine o_val (v_lookupO2 kInt Try.underlying73 Try.underlying3 ti140 rfl rfl (hX (by repeat constructor))) (dd rfl) ?_
    try simp only [hl, hlg, Option.getD_none, Option.getD_some, Option.isSome_none, Option.isSome_some]
    refine o_val (v_move rfl) (dd rfl) ?_
    refine o_val (v_extract rfl rfl) (dd rfl) ?_
    refine o_val (v_extract rfl rfl) (dd rfl) ?_
    refine o_step (s_alloc ti140 (dd rfl) (fun b7 => ?_))
    refine o_step (s_store_all ti140 rfl rfl (by first | exact CellsV.lit rfl | exact CellsV.one (by first | exact OneC.lit rfl | exact OneC.sl (hX (by repeat constructor)) )) (by repeat (first | exact OneAll.nil | (refine OneAll.cons ?_ ?_; · first | exact OneC.lit rfl | exact OneC.sl (hX (by repeat constructor)) ) | exact OneAll.rd (hX (by repeat constructor)))) rfl (pB (by repeat constructor)) rfl (?_))
    refine o_val (v_assign rfl) (dd rfl) ?_
    refine o_nil ?_
    refine c_seq ?_
    refine c_region ?_
    refine o_val (v_fieldAddrC 0 Try.underlying140 rfl ti9 (by decide) rfl) (dd rfl) ?_
    refine o_val (v_load lone9 rfl (hX (by repeat constructor)) rfl) (dd rfl) ?_
    refine o_val (v_assign rfl) (dd rfl) ?_
    refine o_nil ?_
    refine c_seq ?_
    refine c_seq ?_
    refine c_region ?_
    refine o_val (v_move rfl) (dd rfl) ?_
    refine o_val (v_nilCheck rfl) (dd rfl) ?_
    refine o_val (v_fieldAddrC 0 Try.underlying75 rfl ti72 (by decide) rfl) (dd rfl) ?_
    refine o_val (v_load lone72 rfl (hX (by repeat constructor)) rfl) (dd rfl) ?_
    refine o_val (v_move rfl) (dd rfl) ?_
    refine o_val (v_lookupO kStr Try.underlying72 Try.underlying9 ti135 rfl rfl (hX (by repeat constructor))) (dd rfl) ?_
    try simp only [hl, hlg, Option.getD_none, Option.getD_some, Option.isSome_none, Option.isSome_some]
    refine o_val (v_field Try.underlying135 rfl lone133 rfl rfl) (dd rfl) ?_
    refine o_val ((by first | exact v_len_form Try.underlying133 rfl | exact v_len_sl Try.underlying133 rfl (hX (by repeat constructor)))) (dd rfl) ?_
    refine o_val (v_move rfl) (dd rfl) ?_
    refine o_nil ?_
    refine c_block ?_
    refine c_loopQ (γ := Nat) [(1, _), (4, _)] (fun i => w.length - i) (fun i => i ≤ w.length) (fun i => [(29, .int .i64 i), (27, v), (28, .int .i64 w.length), (6, .bool false), (5, .int .i64 0)]) (0) (Nat.zero_le _) (by repeat (first | exact trivial | refine ⟨rfl, ?_⟩)) ?_
    intro i hi IH
    try dsimp only [List.cons_append, List.nil_append]
    refine c_seq ?_
    refine c_region ?_
    refine o_val (v_lt rfl rfl) (dd rfl) ?_
    refine o_nil ?_
    refine c_seq ?_
    refine c_cond_p rfl (fun hlt => ?_) (fun hlt => ?_)
    · have hi' : i < w.length := by omega
      refine c_skip ?_
      refine c_seq ?_
      refine c_block ?_
      refine c_seq ?_
      refine c_region ?_
      refine o_val ((by first | exact v_indexAddrN Try.underlying133 ti137 rfl rfl (hX (by repeat constructor)) (by omega) | exact v_indexAddr Try.underlying133 ti137 rfl rfl (hX (by repeat constructor)) (by omega))) (dd rfl) ?_
      refine o_val (v_load_p (by repeat (first | exact PEnc.int _ | exact PEnc.str | exact PEnc.bool | exact PEnc.byte | exact PEnc.raw | apply PEnc.pair | apply PEnc.map)) ⟨_, Try.underlying137⟩ ti137 rfl (by repeat (first|exact el1 (by omega)|exact el2 (by omega)|exact el3 (by omega)|apply Elem.there))) (dd rfl) ?_
      refine o_step (s_alloc ti137 (dd rfl) (fun b9 => ?_))
      refine o_step (s_store_all ti137 rfl rfl (by first | exact CellsV.lit rfl | exact CellsV.one (by first | exact OneC.lit rfl | exact OneC.sl (hX (by repeat constructor)) )) (by repeat (first | exact OneAll.nil | (refine OneAll.cons ?_ ?_; · first | exact OneC.lit rfl | exact OneC.sl (hX (by repeat constructor)) ) | exact OneAll.rd (hX (by repeat constructor)))) rfl (pB (by repeat constructor)) rfl (?_))
      refine o_nil ?_
      refine c_seq ?_
      refine c_region ?_
      refine o_val (v_move rfl) (dd rfl) ?_
      refine o_val (v_move rfl) (dd rfl) ?_
      refine o_off rfl rfl rfl (dd rfl) ?_
      refine o_off rfl rfl rfl (dd rfl) ?_
      refine o_off rfl rfl rfl (dd rfl) ?_
      refine o_off rfl rfl rfl (dd rfl) ?_
      refine o_val (v_pick_f rfl rfl) (dd rfl) ?_
      refine o_nil ?_
      refine c_cond_f rfl ?_
      refine c_skip ?_
      refine c_inBlock ?_
      refine c_region ?_
      refine o_val ((by first | exact v_add64 rfl rfl (by omega) | exact v_add rfl rfl)) (dd rfl) ?_
      refine o_val (v_move rfl) (dd rfl) ?_
      refine o_nil ?_
      refine c_use (IH (i + 1) (by first | omega | (dsimp only; omega)) (by omega)) (by repeat (first | exact trivial | refine ⟨rfl, ?_⟩)) (eX (by repeat constructor))
    · refine c_exit rfl ?_
      refine c_seq ?_
      refine c_region ?_
      refine o_val (v_move rfl) (dd rfl) ?_
      refine o_val (v_move rfl) (dd rfl) ?_
      refine o_val (v_move rfl) (dd rfl) ?_
      refine o_val (v_assign rfl) (dd rfl) ?_
      refine o_val (v_assign rfl) (dd rfl) ?_
      refine o_val (v_assign rfl) (dd rfl) ?_
      refine o_nil ?_
      refine c_ret3 Try.func47 rfl rfl rfl rfl fun w O hS => ?_
      exact ⟨(), by rw [hmo], trivial, Ent.get (Ent.get hS (eX (by repeat constructor))) hcl⟩
  | some n =>
    have hmo : modeOf σ o = lastM w o := by
      rw [hgo] at hw
      unfold modeOf; rw [hgo, ← hw]; rfl
    rw [hgo] at hl hlg
    simp only [Option.getD_some, Option.map_some, goalV] at hl hlg
    refine c_seq ?_
    refine c_region ?_
    refine o_val (v_assign rfl) (dd rfl) ?_
    refine o_val (v_assign rfl) (dd rfl) ?_
    refine o_val (v_assign rfl) (dd rfl) ?_
    refine o_nil ?_
    refine c_seq ?_
    refine c_region ?_
    refine o_val (v_move rfl) (dd rfl) ?_
    refine o_val (v_nilCheck rfl) (dd rfl) ?_
    refine o_val (v_fieldAddrC 1 Try.underlying75 rfl ti73 (by decide) rfl) (dd rfl) ?_
    refine o_val (v_load lone73 rfl (hX (by repeat constructor)) rfl) (dd rfl) ?_
    refine o_val (v_move rfl) (dd rfl) ?_
    refine o_val (v_lookupO2 kInt Try.underlying73 Try.underlying3 ti140 rfl rfl (hX (by repeat constructor))) (dd rfl) ?_
    try simp only [hl, hlg, Option.getD_none, Option.getD_some, Option.isSome_none, Option.isSome_some]
    refine o_val (v_move rfl) (dd rfl) ?_
    refine o_val (v_extract rfl rfl) (dd rfl) ?_
    refine o_val (v_extract rfl rfl) (dd rfl) ?_
    refine o_step (s_alloc ti140 (dd rfl) (fun b7 => ?_))
    refine o_step (s_store_all ti140 rfl rfl (by first | exact CellsV.lit rfl | exact CellsV.one (by first | exact OneC.lit rfl | exact OneC.sl (hX (by repeat constructor)) )) (by repeat (first | exact OneAll.nil | (refine OneAll.cons ?_ ?_; · first | exact OneC.lit rfl | exact OneC.sl (hX (by repeat constructor)) ) | exact OneAll.rd (hX (by repeat constructor)))) rfl (pB (by repeat constructor)) rfl (?_))
    refine o_val (v_assign rfl) (dd rfl) ?_
    refine o_nil ?_
    refine c_seq ?_
    refine c_region ?_
    refine o_val (v_fieldAddrC 0 Try.underlying140 rfl ti9 (by decide) rfl) (dd rfl) ?_
    refine o_val (v_load lone9 rfl (hX (by repeat constructor)) rfl) (dd rfl) ?_
    refine o_val (v_assign rfl) (dd rfl) ?_
    refine o_nil ?_
    refine c_seq ?_
    refine c_seq ?_
    refine c_region ?_
    refine o_val (v_move rfl) (dd rfl) ?_
    refine o_val (v_nilCheck rfl) (dd rfl) ?_
    refine o_val (v_fieldAddrC 0 Try.underlying75 rfl ti72 (by decide) rfl) (dd rfl) ?_
    refine o_val (v_load lone72 rfl (hX (by repeat constructor)) rfl) (dd rfl) ?_
    refine o_val (v_move rfl) (dd rfl) ?_
    refine o_val (v_lookupO kStr Try.underlying72 Try.underlying9 ti135 rfl rfl (hX (by repeat constructor))) (dd rfl) ?_
    try simp only [hl, hlg, Option.getD_none, Option.getD_some, Option.isSome_none, Option.isSome_some]
    refine o_val (v_field Try.underlying135 rfl lone133 rfl rfl) (dd rfl) ?_
    refine o_val ((by first | exact v_len_form Try.underlying133 rfl | exact v_len_sl Try.underlying133 rfl (hX (by repeat constructor)))) (dd rfl) ?_
    refine o_val (v_move rfl) (dd rfl) ?_
    refine o_nil ?_
    refine c_block ?_
    refine c_loopQ (γ := Nat × Int) [(1, _), (4, _)] (fun g => w.length - g.1) (fun g => g.1 ≤ w.length ∧ g.2 = lastM (w.take g.1) o) (fun g => [(29, .int .i64 g.1), (27, v), (28, .int .i64 w.length), (6, .bool true), (5, .int .i64 g.2)]) ((0, 0)) (⟨Nat.zero_le _, rfl⟩) (by repeat (first | exact trivial | refine ⟨rfl, ?_⟩)) ?_
    rintro ⟨i, x⟩ ⟨hi, hx⟩ IH
    dsimp only at hi hx ⊢
    try dsimp only [List.cons_append, List.nil_append]
    refine c_seq ?_
    refine c_region ?_
    refine o_val (v_lt rfl rfl) (dd rfl) ?_
    refine o_nil ?_
    refine c_seq ?_
    refine c_cond_p rfl (fun hlt => ?_) (fun hlt => ?_)
    · have hi' : i < w.length := by omega
      have hst := lastM_step o hi'
      refine c_skip ?_
      refine c_seq ?_
      refine c_block ?_
      refine c_seq ?_
      refine c_region ?_
      refine o_val ((by first | exact v_indexAddrN Try.underlying133 ti137 rfl rfl (hX (by repeat constructor)) (by omega) | exact v_indexAddr Try.underlying133 ti137 rfl rfl (hX (by repeat constructor)) (by omega))) (dd rfl) ?_
      refine o_val (v_load_p (by repeat (first | exact PEnc.int _ | exact PEnc.str | exact PEnc.bool | exact PEnc.byte | exact PEnc.raw | apply PEnc.pair | apply PEnc.map)) ⟨_, Try.underlying137⟩ ti137 rfl (by repeat (first|exact el1 (by omega)|exact el2 (by omega)|exact el3 (by omega)|apply Elem.there))) (dd rfl) ?_
      refine o_step (s_alloc ti137 (dd rfl) (fun b9 => ?_))
      refine o_step (s_store_all ti137 rfl rfl (by first | exact CellsV.lit rfl | exact CellsV.one (by first | exact OneC.lit rfl | exact OneC.sl (hX (by repeat constructor)) )) (by repeat (first | exact OneAll.nil | (refine OneAll.cons ?_ ?_; · first | exact OneC.lit rfl | exact OneC.sl (hX (by repeat constructor)) ) | exact OneAll.rd (hX (by repeat constructor)))) rfl (pB (by repeat constructor)) rfl (?_))
      refine o_nil ?_
      refine c_seq ?_
      refine c_region ?_
      refine o_val (v_move rfl) (dd rfl) ?_
      refine o_val (v_move rfl) (dd rfl) ?_
      refine o_on rfl rfl ?_
      refine o_val (v_fieldAddrC 0 Try.underlying137 rfl ti3 (by decide) rfl) (dd rfl) ?_
      refine o_on rfl rfl ?_
      refine o_val (v_load lone3 rfl (hX (by repeat constructor)) rfl) (dd rfl) ?_
      refine o_on rfl rfl ?_
      refine o_val (v_move rfl) (dd rfl) ?_
      refine o_on rfl rfl ?_
      refine o_val (v_eq rfl rfl) (dd rfl) ?_
      refine o_val (v_pick_t rfl rfl) (dd rfl) ?_
      refine o_nil ?_
      refine c_cond_p rfl (fun ho => ?_) (fun ho => ?_)
      · refine c_region ?_
        refine o_val (v_fieldAddrC 1 Try.underlying137 rfl ti3 (by decide) rfl) (dd rfl) ?_
        refine o_val (v_load lone3 rfl (hX (by repeat constructor)) rfl) (dd rfl) ?_
        refine o_val (v_assign rfl) (dd rfl) ?_
        refine o_nil ?_
        refine c_inBlock ?_
        refine c_region ?_
        refine o_val ((by first | exact v_add64 rfl rfl (by omega) | exact v_add rfl rfl)) (dd rfl) ?_
        refine o_val (v_move rfl) (dd rfl) ?_
        refine o_nil ?_
        rw [if_pos ho] at hst
        refine c_use (IH ((i + 1, w[i].2)) (by first | omega | (dsimp only; omega)) (⟨by dsimp only; omega, hst.symm⟩)) (by repeat (first | exact trivial | refine ⟨rfl, ?_⟩)) (eX (by repeat constructor))
      · refine c_skip ?_
        refine c_inBlock ?_
        refine c_region ?_
        refine o_val ((by first | exact v_add64 rfl rfl (by omega) | exact v_add rfl rfl)) (dd rfl) ?_
        refine o_val (v_move rfl) (dd rfl) ?_
        refine o_nil ?_
        rw [if_neg ho, ← hx] at hst
        refine c_use (IH ((i + 1, x)) (by first | omega | (dsimp only; omega)) (⟨by dsimp only; omega, hst.symm⟩)) (by repeat (first | exact trivial | refine ⟨rfl, ?_⟩)) (eX (by repeat constructor))
    · have hie : i = w.length := by omega
      rw [hie, List.take_length] at hx
      refine c_exit rfl ?_
      refine c_seq ?_
      refine c_region ?_
      refine o_val (v_move rfl) (dd rfl) ?_
      refine o_val (v_move rfl) (dd rfl) ?_
      refine o_val (v_move rfl) (dd rfl) ?_
      refine o_val (v_assign rfl) (dd rfl) ?_
      refine o_val (v_assign rfl) (dd rfl) ?_
      refine o_val (v_assign rfl) (dd rfl) ?_
      refine o_nil ?_
      refine c_ret3 Try.func47 rfl rfl rfl rfl fun w O hS => ?_
      exact ⟨(), by rw [hmo, hx], trivial, Ent.get (Ent.get hS (eX (by repeat constructor))) hcl⟩
set_option maxRecDepth 100000 in
theorem queue_con (N t : Nat) (σ : Sg) (n : ByteArray) (hN : N ≤ 100000) :
    Con Try.prog 41 [.pointer (some ⟨t, 0, none⟩), .string n] [TabA N t σ] (γ := Value) (fun r => r) (fun _ => True) (fun r => [Own (eInt .i64) 3 r ((σ.wait n).map (·.1)), TabA N t σ]) := by
  refine con_of Try.func41 rfl (dd rfl) fun w0 O0 => ?_
  refine c_tab_at n fun o1 o2 es gs ob v m w R hl hm hw hG hmw hgN hno hoo hnd hemp hcl hch => ?_
  unfold plZ at hl
  refine c_seq ?_
  refine c_region ?_
  refine o_val (v_assign rfl) (dd rfl) ?_
  refine o_nil ?_
  refine c_seq ?_
  refine c_region ?_
  refine o_val (v_assign rfl) (dd rfl) ?_
  refine o_nil ?_
  refine c_seq ?_
  refine c_seq ?_
  refine c_region ?_
  refine o_val (v_move rfl) (dd rfl) ?_
  refine o_val (v_nilCheck rfl) (dd rfl) ?_
  refine o_val (v_fieldAddrC 0 Try.underlying75 rfl ti72 (by decide) rfl) (dd rfl) ?_
  refine o_val (v_load lone72 rfl (hX (by repeat constructor)) rfl) (dd rfl) ?_
  refine o_val (v_move rfl) (dd rfl) ?_
  refine o_val (v_lookupO kStr Try.underlying72 Try.underlying9 ti135 rfl rfl (hX (by repeat constructor))) (dd rfl) ?_
  try simp only [hl, Option.getD_none, Option.getD_some, Option.isSome_none, Option.isSome_some]
  refine o_val (v_field Try.underlying135 rfl lone133 rfl rfl) (dd rfl) ?_
  refine o_val ((by first | exact v_len_form Try.underlying133 rfl | exact v_len_sl Try.underlying133 rfl (hX (by repeat constructor)))) (dd rfl) ?_
  refine o_val (v_move rfl) (dd rfl) ?_
  refine o_nil ?_
  refine c_block ?_
  refine c_ent (Ent.beside (b := Own (eInt .i64) 3 (.slice none 0 0) ([] : List Int)) (fun w O _ => Own.nil (eInt .i64) 3 w _)) ?_
  refine c_loopR (γ := Nat × Value) [(4, _)] (fun g => w.length - g.1) (fun g => g.1 ≤ w.length) (fun g => [(16, .int .i64 g.1), (14, v), (15, .int .i64 w.length), (5, g.2)]) (fun g => [Own (eInt .i64) 3 g.2 ((w.take g.1).map (·.1)), Blk t 75 [.map o1, .map o2], MapO kStr o1 es, MapO kInt o2 (gs.map entG), MapO kInt ob (mInt m), OwnO eW 137 v w, R]) ((0, .slice none 0 0)) (Nat.zero_le _) (by repeat (first | exact trivial | refine ⟨rfl, ?_⟩)) (eX (by repeat constructor)) ?_
  rintro ⟨i, u⟩ hi IH
  dsimp only at hi ⊢
  try dsimp only [List.cons_append, List.nil_append]
  refine c_seq ?_
  refine c_region ?_
  refine o_val (v_lt rfl rfl) (dd rfl) ?_
  refine o_nil ?_
  refine c_seq ?_
  refine c_cond_p rfl (fun hlt => ?_) (fun hlt => ?_)
  · have hi' : i < w.length := by omega
    have hst : (w.take (i + 1)).map (·.1) = (w.take i).map (·.1) ++ [w[i].1] := by rw [List.take_succ_eq_append_getElem hi', List.map_append]; rfl
    refine c_skip ?_
    refine c_seq ?_
    refine c_block ?_
    refine c_seq ?_
    refine c_region ?_
    refine o_val ((by first | exact v_indexAddrN Try.underlying133 ti137 rfl rfl (hX (by repeat constructor)) (by omega) | exact v_indexAddr Try.underlying133 ti137 rfl rfl (hX (by repeat constructor)) (by omega))) (dd rfl) ?_
    refine o_val (v_load_p (by repeat (first | exact PEnc.int _ | exact PEnc.str | exact PEnc.bool | exact PEnc.byte | exact PEnc.raw | apply PEnc.pair | apply PEnc.map)) ⟨_, Try.underlying137⟩ ti137 rfl (by repeat (first|exact el1 (by omega)|exact el2 (by omega)|exact el3 (by omega)|apply Elem.there))) (dd rfl) ?_
    refine o_step (s_alloc ti137 (dd rfl) (fun b7 => ?_))
    refine o_step (s_store_all ti137 rfl rfl (by first | exact CellsV.lit rfl | exact CellsV.one (by first | exact OneC.lit rfl | exact OneC.sl (hX (by repeat constructor)) )) (by repeat (first | exact OneAll.nil | (refine OneAll.cons ?_ ?_; · first | exact OneC.lit rfl | exact OneC.sl (hX (by repeat constructor)) ) | exact OneAll.rd (hX (by repeat constructor)))) rfl (pB (by repeat constructor)) rfl (?_))
    refine o_nil ?_
    refine c_region ?_
    refine o_val (v_move rfl) (dd rfl) ?_
    refine o_val (v_fieldAddrC 0 Try.underlying137 rfl ti3 (by decide) rfl) (dd rfl) ?_
    refine o_val (v_load lone3 rfl (hX (by repeat constructor)) rfl) (dd rfl) ?_
    refine o_step (s_buildSlice Try.underlying35 ti3 rfl rfl rfl (by decide) (by decide) (beside_int .i64 [w[i].1]) rfl rfl (dd rfl) fun v1 => ?_)
    refine o_step (s_append Try.underlying35 ti3 rfl (by decide) rfl rfl (dd rfl) (pB (by repeat constructor)) (pX (by repeat constructor)) rfl (by simp only [maxLen, List.length_map, List.length_take, List.length_cons, List.length_nil]; omega) (by simp only [maxLen, List.length_map, List.length_take, List.length_cons, List.length_nil]; omega) fun v2 => ?_)
    refine o_val (v_assign rfl) (dd rfl) ?_
    refine o_nil ?_
    refine c_inBlock ?_
    refine c_region ?_
    refine o_val ((by first | exact v_add64 rfl rfl (by omega) | exact v_add rfl rfl)) (dd rfl) ?_
    refine o_val (v_move rfl) (dd rfl) ?_
    refine o_nil ?_
    rw [← hst]
    refine c_use (IH ((i + 1, v2)) (by first | omega | (dsimp only; omega)) (by dsimp only; omega)) (by repeat (first | exact trivial | refine ⟨rfl, ?_⟩)) (eX (by repeat constructor))
  · have hie : i = w.length := by omega
    subst hie
    refine c_exit rfl ?_
    refine c_seq ?_
    refine c_region ?_
    refine o_val (v_move rfl) (dd rfl) ?_
    refine o_val (v_assign rfl) (dd rfl) ?_
    refine o_nil ?_
    refine c_ret1 Try.func41 rfl rfl fun w O hS => ?_
    rw [List.take_length] at hS
    exact ⟨u, rfl, trivial, by rw [hw]; exact Ent.get (Ent.get hS (eX (by repeat constructor))) (Ent.cons hcl)⟩
end Go.Proofs.Ytnamhhmfnokfiaa
/- Chapter 12: who has a name; whether a wish fits. -/
namespace Go.Proofs.Ytnamhhmfnokfiaa
open Go Go.SL
attribute [local irreducible] Cfg Kont StepK Val Con Qops Any Sl Own Blk BlkR Rd Pu ExA AllA Has Pick Ent Elem Beside Callable TI Lone OwnO AndA
/-- The keys, rising. -/
def KeysOf {β : Type} (f : Int → Option β) (l : List Int) : Prop := l.Pairwise (· < ·) ∧ ∀ x, x ∈ l ↔ (f x).isSome = true
theorem keys_eq {β : Type} {f : Int → Option β} {l l' : List Int} (h : KeysOf f l) (h' : KeysOf f l') : l = l' :=
  rising_eq (lt := (· < ·)) (fun a => by omega) (fun a b c => by omega) h.1 h'.1 fun x => by rw [h.2, h'.2]
theorem keysOf_fin {β : Type} {m : List (Int × β)} {mv : List (Int × Value)} {pre : List Int} (he : (mv.map fun q : Int × Value => q.1) = m.map fun q : Int × β => q.1) (h : finK mv pre) : KeysOf (lkA m) (sortI pre) := by
  obtain ⟨h1, h2, h3⟩ := h
  rw [he] at h2 h3
  constructor
  · have h4 := sortI_sorted pre
    have h5 : (sortI pre).Nodup := (List.mergeSort_perm pre _).nodup_iff.2 h1
    exact List.Pairwise.imp₂ (fun a b h h' => h.resolve_right h') h4 h5
  · intro x
    rw [sortI_mem, lkA_isSome]
    exact ⟨h2 x, h3 x⟩
theorem mInt_keys (m : Wt) : ((mInt m).map fun q : Int × Value => q.1) = m.map fun q : Int × Int => q.1 := by unfold mInt; rw [List.map_map]; rfl
theorem entG_keys (gs : List (Int × ByteArray)) : ((gs.map entG).map fun q : Int × Value => q.1) = gs.map fun q : Int × ByteArray => q.1 := by rw [List.map_map]; rfl
set_option maxRecDepth 100000 in
theorem holders_con (N t : Nat) (σ : Sg) (n : ByteArray) (hN : N ≤ 100000) :
    Con Try.prog 39 [.pointer (some ⟨t, 0, none⟩), .string n] [TabA N t σ] (γ := Value × List Int) (fun r => r.1) (fun r => KeysOf (σ.has n) r.2 ∧ r.2.length ≤ N) (fun r => [Own (eInt .i64) 3 r.1 r.2, TabA N t σ]) := by
  refine con_of Try.func39 rfl (dd rfl) fun w0 O0 => ?_
  refine c_tab_at n fun o1 o2 es gs ob v m w R hl hm hw hG hmw hgN hno hoo hnd hemp hcl hch => ?_
  have hml : (mInt m).length = m.length := List.length_map _
  unfold plZ at hl
  refine c_seq ?_
  refine c_region ?_
  refine o_val (v_assign rfl) (dd rfl) ?_
  refine o_nil ?_
  refine c_seq ?_
  refine c_region ?_
  refine o_val (v_move rfl) (dd rfl) ?_
  refine o_val (v_nilCheck rfl) (dd rfl) ?_
  refine o_val (v_fieldAddrC 0 Try.underlying75 rfl ti72 (by decide) rfl) (dd rfl) ?_
  refine o_val (v_load lone72 rfl (hX (by repeat constructor)) rfl) (dd rfl) ?_
  refine o_val (v_move rfl) (dd rfl) ?_
  refine o_val (v_lookupO kStr Try.underlying72 Try.underlying9 ti135 rfl rfl (hX (by repeat constructor))) (dd rfl) ?_
  try simp only [hl, Option.getD_none, Option.getD_some, Option.isSome_none, Option.isSome_some]
  refine o_val (v_field Try.underlying135 rfl lone97 rfl rfl) (dd rfl) ?_
  refine o_step (s_callf_keep cl67 (keys_II ob) rfl (dd rfl) (rX (by repeat constructor)) (fun _ => sX) (fun c _ => ?_))
  refine o_step (s_callf cl53 (sorted_I cl101 (keysIter_II c ob (mInt m)) (fun pre x hx => by have := nxK_len hx; omega) (fun pre hf => by have := finK_len hf; omega)) rfl (dd rfl) (pXs (by repeat constructor)) fun r hr2 => ?_)
  refine o_val (v_assign rfl) (dd rfl) ?_
  refine o_nil ?_
  refine c_ret1 Try.func39 rfl rfl fun w O hS => ?_
  obtain ⟨pre, hf, he⟩ := hr2
  have hlen := finK_len hf
  refine ⟨r, rfl, ⟨by rw [hm, he]; exact keysOf_fin (mInt_keys m) hf, by rw [he, sortI_len]; omega⟩, ?_⟩
  exact Ent.get (Ent.get hS (eX (by repeat constructor))) (Ent.cons hcl)
def mayL (m : Wt) (w : Int × Int) : Bool := m.all fun q => decide (q.1 = w.1) || fitsL q.2 w.2
theorem mInt_mem {m : Wt} {k : Int} {v : Value} (h : (k, v) ∈ mInt m) : ∃ x, (k, x) ∈ m ∧ v = .int .i64 x := by
  obtain ⟨q, hq, he⟩ := List.mem_map.1 h
  cases he
  exact ⟨q.2, hq, rfl⟩
set_option maxRecDepth 100000 in
theorem may_con (o : Option Nat) (v : Value) (m : Wt) (w : Int × Int) :
    Con Try.prog 77 [.agg #[.map o, v], .agg #[.int .i64 w.1, .int .i64 w.2]] [MapO kInt o (mInt m)] (γ := Unit) (fun _ => .bool (mayL m w)) (fun _ => True) (fun _ => [MapO kInt o (mInt m)]) := by
  refine con_of Try.func77 rfl (dd rfl) fun w0 O0 => ?_
  refine c_fact (a := MapO kInt o (mInt m)) (p := (m.map fun q : Int × Int => q.1).Nodup) .here (fun _ _ => mapO_nodup) fun hnd => ?_
  refine c_seq ?_
  refine c_region ?_
  refine o_step (s_box rfl (dd rfl) (fun b2 => ?_))
  refine o_step (s_box rfl (dd rfl) (fun b3 => ?_))
  refine o_val (v_assign rfl) (dd rfl) ?_
  refine o_nil ?_
  refine c_seq ?_
  refine c_seq ?_
  refine c_region ?_
  refine o_val (v_fieldAddrC 0 Try.underlying135 rfl ti97 (by decide) rfl) (dd rfl) ?_
  refine o_val (v_load lone97 rfl (hX (by repeat constructor)) rfl) (dd rfl) ?_
  refine o_step (s_range_mapO kInt Try.underlying97 rfl (dd rfl) (pX (by repeat constructor)) (fun it9 => ?_))
  refine o_nil ?_
  refine c_block ?_
  refine c_loopR (γ := List Int) [(3, _), (4, _)] (fun pre => m.length - pre.length) (fun pre => pre.Nodup ∧ (∀ y ∈ pre, y ∈ m.map fun q : Int × Int => q.1) ∧ ∀ q ∈ m, q.1 ∈ pre → (decide (q.1 = w.1) || fitsL q.2 w.2) = true) (fun _ => [(9, .pointer (some ⟨it9, 0, none⟩))]) (fun pre => [MapItO kInt it9 o (mInt m) pre, Blk b2 135 [.map o, v], Blk b3 137 [.int .i64 w.1, .int .i64 w.2]]) ([]) (⟨by simp, by simp, by simp⟩) (by repeat (first | exact trivial | refine ⟨rfl, ?_⟩)) (eX (by repeat constructor)) ?_
  intro pre ⟨hpn, hsub, hdone⟩ IH
  try dsimp only [List.cons_append, List.nil_append]
  refine c_seq ?_
  refine c_region ?_
  refine o_step (s_nextO kInt rfl (dd rfl) (pX (by repeat constructor)) (fun k v hk hn => ?_) (fun hall => ?_))
  · obtain ⟨x, hx, rfl⟩ := mInt_mem hk
    have hkm : k ∈ m.map fun q : Int × Int => q.1 := List.mem_map.2 ⟨_, hx, rfl⟩
    have hpn' : (pre ++ [k]).Nodup := List.nodup_append.2 ⟨hpn, by simp, fun a ha b hb e => hn (by rw [List.mem_singleton.1 hb] at e; rw [← e]; exact ha)⟩
    have hsub' : ∀ y ∈ pre ++ [k], y ∈ m.map fun q : Int × Int => q.1 := fun y hy => by
      rcases List.mem_append.1 hy with h | h
      · exact hsub y h
      · rw [List.mem_singleton.1 h]; exact hkm
    have hlen := nodup_le hpn' hsub'
    simp only [List.length_append, List.length_singleton, List.length_map] at hlen
    refine o_val (v_extract rfl rfl) (dd rfl) ?_
    refine o_nil ?_
    refine c_seq ?_
    refine c_cond_t rfl ?_
    refine c_skip ?_
    refine c_block ?_
    refine c_seq ?_
    refine c_region ?_
    refine o_val (v_entryO kInt rfl hk (hX (by repeat constructor))) (dd rfl) ?_
    refine o_val (v_extract rfl rfl) (dd rfl) ?_
    refine o_val (v_extract rfl rfl) (dd rfl) ?_
    refine o_val (v_assign rfl) (dd rfl) ?_
    refine o_val (v_assign rfl) (dd rfl) ?_
    refine o_nil ?_
    refine c_seq ?_
    refine c_env (env' := [(3, _), (4, _), (5, _), (6, _), (9, _), (10, _), (11, _), (12, _), (13, _), (14, _)]) (by repeat (first | exact trivial | refine ⟨rfl, ?_⟩)) ?_
    refine c_joinb (d := 25) (decide (k ≠ w.1 ∧ fitsL x w.2 = false)) ?_ ?_
    rotate_left
    · intro J
      refine c_region ?_
      refine o_val (v_move rfl) (dd rfl) ?_
      refine o_val (v_fieldAddrC 0 Try.underlying137 rfl ti3 (by decide) rfl) (dd rfl) ?_
      refine o_val (v_load lone3 rfl (hX (by repeat constructor)) rfl) (dd rfl) ?_
      refine o_val (v_ne rfl rfl) (dd rfl) ?_
      refine o_val (v_move rfl) (dd rfl) ?_
      first | refine o_guard_t rfl rfl (fun g19 => ?_) (fun g19 => ?_) | refine o_guard rfl rfl (fun g19 => ?_) (fun g19 => ?_)
      · refine o_val (v_move rfl) (dd rfl) ?_
        refine o_on rfl rfl ?_
        refine o_val (v_fieldAddrC 1 Try.underlying137 rfl ti3 (by decide) rfl) (dd rfl) ?_
        refine o_on rfl rfl ?_
        refine o_val (v_load lone3 rfl (hX (by repeat constructor)) rfl) (dd rfl) ?_
        refine o_on rfl rfl ?_
        refine o_step (s_callf_keep cl32 (Fits_con _ _) rfl (dd rfl) (rX (by repeat constructor)) (fun _ => sX) (fun _ _ => ?_))
        refine o_on rfl rfl ?_
        refine o_val (v_not rfl) (dd rfl) ?_
        refine o_val (v_pick_t rfl rfl) (dd rfl) ?_
        refine o_nil ?_
        exact c_use J ⟨Env.as rfl (congrArg Value.bool (by first | rfl | (simp_all; done) | (simp_all; omega) | (simp; omega))), (by repeat (first | exact trivial | refine ⟨rfl, ?_⟩))⟩ (by first | exact Ent.refl _ | exact eX (by repeat constructor))
      · refine o_off rfl rfl rfl (dd rfl) ?_
        refine o_off rfl rfl rfl (dd rfl) ?_
        refine o_off rfl rfl rfl (dd rfl) ?_
        refine o_off rfl rfl rfl (dd rfl) ?_
        refine o_off rfl rfl rfl (dd rfl) ?_
        refine o_val (v_pick_f rfl rfl) (dd rfl) ?_
        refine o_nil ?_
        exact c_use J ⟨Env.as rfl (congrArg Value.bool (by first | rfl | (simp_all; done) | (simp_all; omega) | (simp; omega))), (by repeat (first | exact trivial | refine ⟨rfl, ?_⟩))⟩ (by first | exact Ent.refl _ | exact eX (by repeat constructor))
    refine c_cond_p rfl (fun hh => ?_) (fun hh => ?_)
    · refine c_seq ?_
      refine c_region ?_
      refine o_val (v_assign rfl) (dd rfl) ?_
      refine o_nil ?_
      refine c_ret1 Try.func77 rfl rfl fun w O hS => ?_
      refine ⟨(), congrArg Value.bool ?_, trivial, Ent.get hS (eX (by repeat constructor))⟩
      refine (Bool.eq_false_iff.2 fun h => ?_).symm
      have := List.all_eq_true.1 h _ hx
      simp only [hh.2, Bool.or_false, decide_eq_true_eq] at this
      exact hh.1 this
    · refine c_skip ?_
      refine c_inBlock ?_
      have hd' : ∀ q ∈ m, q.1 ∈ pre ++ [k] → (decide (q.1 = w.1) || fitsL q.2 w.2) = true := fun q hq hqp => by
        rcases List.mem_append.1 hqp with h | h
        · exact hdone q hq h
        · have hqk : q.1 = k := List.mem_singleton.1 h
          have : q = (k, x) := nodup_inj hnd hq hx hqk
          subst this
          rw [Bool.or_eq_true, decide_eq_true_eq]
          by_cases hkw : k = w.1
          · exact .inl hkw
          · right
            cases hf : fitsL x w.2 with
            | true => rfl
            | false => exact absurd ⟨hkw, hf⟩ hh
      have hl1 : (pre ++ [k]).length = pre.length + 1 := by simp
      refine c_use (IH (pre ++ [k]) (by first | omega | (dsimp only; omega)) (⟨hpn', hsub', hd'⟩)) (by repeat (first | exact trivial | refine ⟨rfl, ?_⟩)) (eX (by repeat constructor))
  · refine o_val (v_extract rfl rfl) (dd rfl) ?_
    refine o_nil ?_
    refine c_seq ?_
    refine c_cond_f rfl ?_
    refine c_exit rfl ?_
    refine c_seq ?_
    refine c_region ?_
    refine o_val (v_assign rfl) (dd rfl) ?_
    refine o_nil ?_
    refine c_ret1 Try.func77 rfl rfl fun w O hS => ?_
    refine ⟨(), congrArg Value.bool (List.all_eq_true.2 fun q hq => ?_).symm, trivial, Ent.get hS (eX (by repeat constructor))⟩
    exact hdone q hq (hall q.1 (by rw [mInt_keys]; exact List.mem_map.2 ⟨q, hq, rfl⟩))
end Go.Proofs.Ytnamhhmfnokfiaa
/- Chapter 12: a name's place, taken out of the table and put back. -/
namespace Go.Proofs.Ytnamhhmfnokfiaa
open Go Go.SL
theorem ent_all_nil {α : Type} {f : α → A} {L : List A} : Ent L (AllA (([] : List α).map f) :: L) := Ent.beside fun _ _ _ => trivial
attribute [local irreducible] Cfg Kont StepK Val Con Qops Any Sl Own Blk BlkR Rd Pu ExA AllA Has Pick Ent Elem Beside Callable TI Lone OwnO AndA
set_option maxRecDepth 100000 in
theorem at_con (N t : Nat) (σ : Sg) (n : ByteArray) :
    Con Try.prog 81 [.pointer (some ⟨t, 0, none⟩), .string n] [TabA N t σ] (γ := Nat × Value × Wt) (fun r => .agg #[.map (some r.1), r.2.1]) (fun r => σ.has n = lkA r.2.2 ∧ r.2.2.length + (σ.wait n).length ≤ N ∧ (r.2.2.map fun q : Int × Int => q.1).Nodup)
      (fun r => [TabH (N + 1) t σ n, MapO kInt (some r.1) (mInt r.2.2), OwnO eW 137 r.2.1 (σ.wait n)]) := by
  refine con_of Try.func81 rfl (dd rfl) fun w0 O0 => ?_
  refine c_tab_at n fun o1 o2 es gs ob v m w R hl hm hw hG hmw hgN hno hoo hnd hemp hcl hch => ?_
  subst hw
  unfold plZ at hl
  cases o1 with
  | none =>
    have he := hemp rfl
    have hm0 : ob = none → m = [] ∧ σ.wait n = [] ∧ v = .slice none 0 0 := hno
    refine c_pu (p := es = []) (.there .here) fun hes => ?_
    subst hes
    simp only [Go.SL.look_nil, Option.getD_none, Value.agg.injEq, Array.mk.injEq, List.cons.injEq, Value.map.injEq, and_true] at hl
    obtain ⟨rfl, rfl⟩ := hl
    obtain ⟨rfl, hw0, -⟩ := hno rfl
    refine c_seq ?_
    refine c_region ?_
    refine o_step (s_alloc ti135 (dd rfl) (fun b4 => ?_))
    refine o_nil ?_
    refine c_seq ?_
    refine c_seq ?_
    refine c_region ?_
    refine o_val (v_move rfl) (dd rfl) ?_
    refine o_val (v_nilCheck rfl) (dd rfl) ?_
    refine o_val (v_fieldAddrC 0 Try.underlying75 rfl ti72 (by decide) rfl) (dd rfl) ?_
    refine o_val (v_load lone72 rfl (hX (by repeat constructor)) rfl) (dd rfl) ?_
    refine o_val (v_eq_map_nil Try.underlying72 rfl rfl) (dd rfl) ?_
    refine o_nil ?_
    refine c_cond_t rfl ?_
    refine c_region ?_
    refine o_val (v_move rfl) (dd rfl) ?_
    refine o_val (v_move rfl) (dd rfl) ?_
    refine o_step (s_makeMap (ke := kStr) (dd rfl) (fun b13 => ?_))
    refine o_step (s_makeMap (ke := kInt) (dd rfl) (fun b14 => ?_))
    refine o_val (v_nilCheck rfl) (dd rfl) ?_
    refine o_val (v_fieldAddrC 0 Try.underlying75 rfl ti72 (by decide) rfl) (dd rfl) ?_
    refine o_step (s_store1 ti72 rfl rfl (by first | exact OneC.lit rfl | exact OneC.sl (hX (by repeat constructor)) ) (pB (by repeat constructor)) (by first | decide | exact Nat.le_of_ble_eq_true rfl | simp) (by first | (dsimp only [List.set_cons_succ, List.set_cons_zero]; first | done | exact rfl) | rfl) (?_))
    refine o_val (v_nilCheck rfl) (dd rfl) ?_
    refine o_val (v_fieldAddrC 1 Try.underlying75 rfl ti73 (by decide) rfl) (dd rfl) ?_
    refine o_step (s_store1 ti73 rfl rfl (by first | exact OneC.lit rfl | exact OneC.sl (hX (by repeat constructor)) ) (pB (by repeat constructor)) (by first | decide | exact Nat.le_of_ble_eq_true rfl | simp) (by first | (dsimp only [List.set_cons_succ, List.set_cons_zero]; first | done | exact rfl) | rfl) (?_))
    refine o_nil ?_
    refine c_seq ?_
    refine c_region ?_
    refine o_val (v_move rfl) (dd rfl) ?_
    refine o_val (v_nilCheck rfl) (dd rfl) ?_
    refine o_val (v_fieldAddrC 0 Try.underlying75 rfl ti72 (by decide) rfl) (dd rfl) ?_
    refine o_val (v_load lone72 rfl (hX (by repeat constructor)) rfl) (dd rfl) ?_
    refine o_val (v_move rfl) (dd rfl) ?_
    refine o_val (v_lookupO kStr Try.underlying72 Try.underlying9 ti135 rfl rfl (hX (by repeat constructor))) (dd rfl) ?_
    try simp only [Go.SL.look_nil, Option.getD_none, Option.getD_some, Option.isSome_none, Option.isSome_some]
    refine o_step (s_alloc ti135 (dd rfl) (fun b5 => ?_))
    refine o_step (s_store_all ti135 rfl rfl (by first | exact CellsV.lit rfl | exact CellsV.one (by first | exact OneC.lit rfl | exact OneC.sl (hX (by repeat constructor)) )) (by repeat (first | exact OneAll.nil | (refine OneAll.cons ?_ ?_; · first | exact OneC.lit rfl | exact OneC.sl (hX (by repeat constructor)) ) | exact OneAll.rd (hX (by repeat constructor)))) rfl (pB (by repeat constructor)) rfl (?_))
    refine o_nil ?_
    refine c_seq ?_
    refine c_seq ?_
    refine c_region ?_
    refine o_val (v_fieldAddrC 0 Try.underlying135 rfl ti97 (by decide) rfl) (dd rfl) ?_
    refine o_val (v_load lone97 rfl (hX (by repeat constructor)) rfl) (dd rfl) ?_
    refine o_val (v_eq_map_nil Try.underlying97 rfl rfl) (dd rfl) ?_
    refine o_nil ?_
    refine c_cond_t rfl ?_
    refine c_region ?_
    refine o_step (s_makeMap (ke := kInt) (dd rfl) (fun b28 => ?_))
    refine o_val (v_fieldAddrC 0 Try.underlying135 rfl ti97 (by decide) rfl) (dd rfl) ?_
    refine o_step (s_store1 ti97 rfl rfl (by first | exact OneC.lit rfl | exact OneC.sl (hX (by repeat constructor)) ) (pB (by repeat constructor)) (by first | decide | exact Nat.le_of_ble_eq_true rfl | simp) (by first | (dsimp only [List.set_cons_succ, List.set_cons_zero]; first | done | exact rfl) | rfl) (?_))
    refine o_nil ?_
    refine c_seq ?_
    refine c_region ?_
    refine o_val (v_load_all ⟨_, Try.underlying135⟩ ti135 rfl (hX (by repeat constructor)) rfl) (dd rfl) ?_
    refine o_step (s_store_all ti135 rfl rfl (by first | exact CellsV.lit rfl | exact CellsV.one (by first | exact OneC.lit rfl | exact OneC.sl (hX (by repeat constructor)) )) (by repeat (first | exact OneAll.nil | (refine OneAll.cons ?_ ?_; · first | exact OneC.lit rfl | exact OneC.sl (hX (by repeat constructor)) ) | exact OneAll.rd (hX (by repeat constructor)))) rfl (pB (by repeat constructor)) rfl (?_))
    refine o_nil ?_
    refine c_ret_cell Try.func81 rfl ⟨_, Try.underlying135⟩ ti135 rfl (hX (by repeat constructor)) fun w O hS => ?_
    rw [hw0] at hS ⊢
    exact ⟨(b28, .slice none 0 0, []), rfl, ⟨hm, Nat.zero_le _, List.nodup_nil⟩, Ent.get (Ent.get hS (L' := [Blk t 75 [.map (some b13), .map (some b14)], MapO kStr (some b13) [], MapO kInt (some b14) ([].map entG), AllA ([].map plA), MapO kInt (some b28) (mInt []), OwnO eW 137 (.slice none 0 0) []]) (Ent.trans (ent_all_nil (f := plA)) (eX (by repeat constructor)))) (hole_mk (hole_empty he))⟩
  | some b1 =>
    refine c_seq ?_
    refine c_region ?_
    refine o_step (s_alloc ti135 (dd rfl) (fun b4 => ?_))
    refine o_nil ?_
    refine c_seq ?_
    refine c_seq ?_
    refine c_region ?_
    refine o_val (v_move rfl) (dd rfl) ?_
    refine o_val (v_nilCheck rfl) (dd rfl) ?_
    refine o_val (v_fieldAddrC 0 Try.underlying75 rfl ti72 (by decide) rfl) (dd rfl) ?_
    refine o_val (v_load lone72 rfl (hX (by repeat constructor)) rfl) (dd rfl) ?_
    refine o_val (v_eq_map_nil Try.underlying72 rfl rfl) (dd rfl) ?_
    refine o_nil ?_
    refine c_cond_f rfl ?_
    refine c_skip ?_
    refine c_seq ?_
    refine c_region ?_
    refine o_val (v_move rfl) (dd rfl) ?_
    refine o_val (v_nilCheck rfl) (dd rfl) ?_
    refine o_val (v_fieldAddrC 0 Try.underlying75 rfl ti72 (by decide) rfl) (dd rfl) ?_
    refine o_val (v_load lone72 rfl (hX (by repeat constructor)) rfl) (dd rfl) ?_
    refine o_val (v_move rfl) (dd rfl) ?_
    refine o_val (v_lookupO kStr Try.underlying72 Try.underlying9 ti135 rfl rfl (hX (by repeat constructor))) (dd rfl) ?_
    try simp only [hl, Option.getD_none, Option.getD_some, Option.isSome_none, Option.isSome_some]
    refine o_step (s_alloc ti135 (dd rfl) (fun b5 => ?_))
    refine o_step (s_store_all ti135 rfl rfl (by first | exact CellsV.lit rfl | exact CellsV.one (by first | exact OneC.lit rfl | exact OneC.sl (hX (by repeat constructor)) )) (by repeat (first | exact OneAll.nil | (refine OneAll.cons ?_ ?_; · first | exact OneC.lit rfl | exact OneC.sl (hX (by repeat constructor)) ) | exact OneAll.rd (hX (by repeat constructor)))) rfl (pB (by repeat constructor)) rfl (?_))
    refine o_nil ?_
    refine c_seq ?_
    refine c_seq ?_
    refine c_region ?_
    refine o_val (v_fieldAddrC 0 Try.underlying135 rfl ti97 (by decide) rfl) (dd rfl) ?_
    refine o_val (v_load lone97 rfl (hX (by repeat constructor)) rfl) (dd rfl) ?_
    refine o_val (v_eq_map_nil Try.underlying97 rfl rfl) (dd rfl) ?_
    refine o_nil ?_
    cases ob with
    | none =>
      obtain ⟨rfl, hw0, rfl⟩ := hno rfl
      rw [if_pos rfl] at hch
      refine c_cond_t rfl ?_
      refine c_region ?_
      refine o_step (s_makeMap (ke := kInt) (dd rfl) (fun b28 => ?_))
      refine o_val (v_fieldAddrC 0 Try.underlying135 rfl ti97 (by decide) rfl) (dd rfl) ?_
      refine o_step (s_store1 ti97 rfl rfl (by first | exact OneC.lit rfl | exact OneC.sl (hX (by repeat constructor)) ) (pB (by repeat constructor)) (by first | decide | exact Nat.le_of_ble_eq_true rfl | simp) (by first | (dsimp only [List.set_cons_succ, List.set_cons_zero]; first | done | exact rfl) | rfl) (?_))
      refine o_nil ?_
      refine c_seq ?_
      refine c_region ?_
      refine o_val (v_load_all ⟨_, Try.underlying135⟩ ti135 rfl (hX (by repeat constructor)) rfl) (dd rfl) ?_
      refine o_step (s_store_all ti135 rfl rfl (by first | exact CellsV.lit rfl | exact CellsV.one (by first | exact OneC.lit rfl | exact OneC.sl (hX (by repeat constructor)) )) (by repeat (first | exact OneAll.nil | (refine OneAll.cons ?_ ?_; · first | exact OneC.lit rfl | exact OneC.sl (hX (by repeat constructor)) ) | exact OneAll.rd (hX (by repeat constructor)))) rfl (pB (by repeat constructor)) rfl (?_))
      refine o_nil ?_
      refine c_ret_cell Try.func81 rfl ⟨_, Try.underlying135⟩ ti135 rfl (hX (by repeat constructor)) fun w O hS => ?_
      rw [hw0] at hS ⊢
      exact ⟨(b28, .slice none 0 0, []), rfl, ⟨hm, Nat.zero_le _, List.nodup_nil⟩, Ent.get (Ent.get hS (L' := [Blk t 75 [.map (some b1), .map o2], MapO kStr (some b1) es, MapO kInt o2 (gs.map entG), R, MapO kInt (some b28) (mInt []), OwnO eW 137 (.slice none 0 0) []]) (eX (by repeat constructor))) (ent_app (hch (by simp)))⟩
    | some b =>
      rw [if_neg (by simp)] at hch
      skip
      refine c_cond_f rfl ?_
      refine c_skip ?_
      refine c_seq ?_
      refine c_region ?_
      refine o_val (v_load_all ⟨_, Try.underlying135⟩ ti135 rfl (hX (by repeat constructor)) rfl) (dd rfl) ?_
      refine o_step (s_store_all ti135 rfl rfl (by first | exact CellsV.lit rfl | exact CellsV.one (by first | exact OneC.lit rfl | exact OneC.sl (hX (by repeat constructor)) )) (by repeat (first | exact OneAll.nil | (refine OneAll.cons ?_ ?_; · first | exact OneC.lit rfl | exact OneC.sl (hX (by repeat constructor)) ) | exact OneAll.rd (hX (by repeat constructor)))) rfl (pB (by repeat constructor)) rfl (?_))
      refine o_nil ?_
      refine c_ret_cell Try.func81 rfl ⟨_, Try.underlying135⟩ ti135 rfl (hX (by repeat constructor)) fun w O hS => ?_
      exact ⟨(b, v, m), rfl, ⟨hm, hmw, hnd⟩, Ent.get (Ent.get (Ent.get hS (L' := [Blk t 75 [.map (some b1), .map o2], MapO kStr (some b1) es, MapO kInt o2 (gs.map entG), R, MapO kInt (some b) (mInt m), OwnO eW 137 v (σ.wait n)]) (eX (by repeat constructor))) (ent_app (hch (by simp)))) (Ent.head fun _ _ => tabH_le (by omega))⟩
set_option maxRecDepth 100000 in
theorem put_con (N t : Nat) (σ : Sg) (n : ByteArray) (b : Nat) (v : Value) (m wq : Wt) (hmw : m.length + wq.length ≤ N) :
    Con Try.prog 78 [.pointer (some ⟨t, 0, none⟩), .string n, .agg #[.map (some b), v]] [TabH N t σ n, MapO kInt (some b) (mInt m), OwnO eW 137 v wq] (γ := Unit) (fun _ => .tuple #[]) (fun _ => True) (fun _ => [TabA N t (σ.put n (lkA m) wq)]) := by
  have hml : (mInt m).length = m.length := List.length_map _
  refine con_of Try.func78 rfl (dd rfl) fun w0 O0 => ?_
  refine c_hole fun o1 o2 es ps gs hh => ?_
  obtain ⟨⟨ps1, ps2, st, rfl, rfl, hst⟩, h2, -, -, -, ho1, -⟩ := id hh
  obtain ⟨b1, rfl⟩ := Option.ne_none_iff_exists'.1 ho1
  refine c_seq ?_
  refine c_region ?_
  refine o_step (s_box rfl (dd rfl) (fun b5 => ?_))
  refine o_nil ?_
  refine c_seq ?_
  refine c_seq ?_
  refine c_env (env' := [(0, _), (1, _), (5, _)]) (by repeat (first | exact trivial | refine ⟨rfl, ?_⟩)) ?_
  refine c_joinb (d := 15) (decide ((((mInt m).length : Int) = 0 ∧ (wq.length : Int) = 0))) ?_ ?_
  rotate_left
  · intro J
    refine c_region ?_
    refine o_val (v_fieldAddrC 0 Try.underlying135 rfl ti97 (by decide) rfl) (dd rfl) ?_
    refine o_val (v_load lone97 rfl (hX (by repeat constructor)) rfl) (dd rfl) ?_
    refine o_val (v_len_mapO kInt Try.underlying97 rfl (hX (by repeat constructor))) (dd rfl) ?_
    refine o_val (v_eq rfl rfl) (dd rfl) ?_
    refine o_val (v_move rfl) (dd rfl) ?_
    first | refine o_guard_t rfl rfl (fun g10 => ?_) (fun g10 => ?_) | refine o_guard rfl rfl (fun g10 => ?_) (fun g10 => ?_)
    · refine o_val (v_fieldAddrC 1 Try.underlying135 rfl ti133 (by decide) rfl) (dd rfl) ?_
      refine o_on rfl rfl ?_
      refine o_val (v_load lone133 rfl (hX (by repeat constructor)) rfl) (dd rfl) ?_
      refine o_on rfl rfl ?_
      refine o_val ((by first | exact v_len_form Try.underlying133 rfl | exact v_len_sl Try.underlying133 rfl (hX (by repeat constructor)))) (dd rfl) ?_
      refine o_on rfl rfl ?_
      refine o_val (v_eq rfl rfl) (dd rfl) ?_
      refine o_val (v_pick_t rfl rfl) (dd rfl) ?_
      refine o_nil ?_
      exact c_use J ⟨Env.as rfl (congrArg Value.bool (by first | rfl | (simp_all; done) | (simp_all; omega) | (simp; omega))), (by repeat (first | exact trivial | refine ⟨rfl, ?_⟩))⟩ (by first | exact Ent.refl _ | exact eX (by repeat constructor))
    · refine o_off rfl rfl rfl (dd rfl) ?_
      refine o_off rfl rfl rfl (dd rfl) ?_
      refine o_off rfl rfl rfl (dd rfl) ?_
      refine o_off rfl rfl rfl (dd rfl) ?_
      refine o_val (v_pick_f rfl rfl) (dd rfl) ?_
      refine o_nil ?_
      exact c_use J ⟨Env.as rfl (congrArg Value.bool (by first | rfl | (simp_all; done) | (simp_all; omega) | (simp; omega))), (by repeat (first | exact trivial | refine ⟨rfl, ?_⟩))⟩ (by first | exact Ent.refl _ | exact eX (by repeat constructor))
  refine c_cond_p rfl (fun hc => ?_) (fun hc => ?_)
  · obtain rfl : m = [] := List.eq_nil_of_length_eq_zero (by omega)
    obtain rfl : wq = [] := List.eq_nil_of_length_eq_zero (by omega)
    refine c_seq ?_
    refine c_region ?_
    refine o_val (v_move rfl) (dd rfl) ?_
    refine o_val (v_nilCheck rfl) (dd rfl) ?_
    refine o_val (v_fieldAddrC 0 Try.underlying75 rfl ti72 (by decide) rfl) (dd rfl) ?_
    refine o_val (v_load lone72 rfl (hX (by repeat constructor)) rfl) (dd rfl) ?_
    refine o_val (v_move rfl) (dd rfl) ?_
    refine o_step (s_deleteO kStr rfl Try.underlying72 Try.underlying9 rfl rfl (pX (by repeat constructor)) (?_))
    refine o_nil ?_
    refine c_ret0 Try.func78 rfl fun w O hS => ?_
    rw [del_hole h2] at hS
    exact ⟨(), rfl, trivial, Ent.get (Ent.get hS (eX (by repeat constructor))) (tab_mk (view_del hh))⟩
  · refine c_skip ?_
    refine c_held [BlkR t 75 [.map (some b1), .map o2], BlkR b5 135 [.map (some b), v]] rfl ?_
    refine a_take 0 rfl (by kernel_rfl) (by kernel_rfl) (by kernel_rfl) (v_move rfl) (eX (by repeat constructor)) (dd rfl) ?_
    refine a_take 1 rfl (by kernel_rfl) (by kernel_rfl) (by kernel_rfl) (v_nilCheck rfl) (eX (by repeat constructor)) (dd rfl) ?_
    refine a_take 2 rfl (by kernel_rfl) (by kernel_rfl) (by kernel_rfl) (v_fieldAddrC 0 Try.underlying75 rfl ti72 (by decide) rfl) (eX (by repeat constructor)) (dd rfl) ?_
    refine a_take 3 rfl (by kernel_rfl) (by kernel_rfl) (by kernel_rfl) (v_load lone72 rfl (hX (by repeat constructor)) rfl) (eX (by repeat constructor)) (dd rfl) ?_
    refine a_take 4 rfl (by kernel_rfl) (by kernel_rfl) (by kernel_rfl) (v_move rfl) (eX (by repeat constructor)) (dd rfl) ?_
    refine a_take 5 rfl (by kernel_rfl) (by kernel_rfl) (by kernel_rfl) (v_load_all ⟨_, Try.underlying135⟩ ti135 rfl (hX (by repeat constructor)) rfl) (eX (by repeat constructor)) (dd rfl) ?_
    refine a_one 6 rfl (by kernel_rfl) (s_mapUpdate kStr Try.underlying72 Try.underlying9 kStr_sc rfl rfl rfl (pX (by repeat constructor)) (a_on (eX (by repeat constructor)) ?_))
    refine a_done (by kernel_rfl) ?_ _
    refine c_end0 Try.func78 rfl fun w O hS => ?_
    rw [upd_hole (fun p hp => h2 p (List.mem_append_left _ hp)) hst] at hS
    have e1 : ps1.map entP ++ (n, plV (b, v, n, m, wq)) :: ps2.map entP = (ps1 ++ (b, v, n, m, wq) :: ps2).map entP := by simp [entP]
    refine ⟨(), rfl, trivial, ?_⟩
    have h3 := Ent.get hS (L' := MapO kInt (some b) (mInt m) :: OwnO eW 137 v wq :: AllA ((ps1 ++ ps2).map plA) :: [Blk t 75 [.map (some b1), .map o2], MapO kStr (some b1) (ps1.map entP ++ (n, plV (b, v, n, m, wq)) :: ps2.map entP), MapO kInt o2 (gs.map entG)]) (eX (by repeat constructor))
    rw [e1] at h3
    exact Ent.get (Ent.get (Ent.get h3 (Ent.trans (pl_mk (n := n)) (push_pl (ps1 := ps1) (ps2 := ps2) (p := (b, v, n, m, wq))))) (eX (by repeat constructor))) (tab_mk (view_put hh hmw))
end Go.Proofs.Ytnamhhmfnokfiaa
/- Chapter 12: Ask of the table. -/
namespace Go.Proofs.Ytnamhhmfnokfiaa
open Go Go.SL
attribute [local irreducible] Cfg Kont StepK Val Con Qops Any Sl Own Blk BlkR Rd Pu ExA AllA Has Pick Ent Elem Beside Callable TI Lone OwnO AndA
def updA {κ β : Type} [DecidableEq κ] : List (κ × β) → κ → β → List (κ × β)
  | [], k, v => [(k, v)]
  | p :: m, k, v => if p.1 = k then (k, v) :: m else p :: updA m k v
theorem upd_map {κ β : Type} [DecidableEq κ] (g : β → Value) (k : κ) (x : β) : ∀ m : List (κ × β), upd (m.map fun q => (q.1, g q.2)) k (g x) = (updA m k x).map fun q => (q.1, g q.2)
  | [] => rfl
  | q :: m => by
    rw [List.map_cons, upd, updA]
    by_cases h : q.1 = k
    · rw [if_pos h, if_pos h]; rfl
    · rw [if_neg h, if_neg h, upd_map g k x m]; rfl
theorem upd_mInt (m : Wt) (k x : Int) : upd (mInt m) k (.int .i64 x) = mInt (updA m k x) := upd_map (.int .i64) k x m
theorem upd_entG (gs : List (Int × ByteArray)) (k : Int) (x : ByteArray) : upd (gs.map entG) k (goalV x) = (updA gs k x).map entG := upd_map goalV k x gs
theorem updA_len {κ β : Type} [DecidableEq κ] (k : κ) (x : β) : ∀ m : List (κ × β), (updA m k x).length ≤ m.length + 1
  | [] => Nat.le_refl _
  | q :: m => by
    rw [updA]
    split
    · simp
    · have := updA_len k x m; simp; omega
theorem lkA_updA {κ β : Type} [DecidableEq κ] (k : κ) (x : β) (k' : κ) : ∀ m : List (κ × β), lkA (updA m k x) k' = if k' = k then some x else lkA m k'
  | [] => by
    rw [updA, lkA_cons, lkA_nil]
    by_cases h : k' = k
    · rw [if_pos h, if_pos h.symm]
    · rw [if_neg h, if_neg (Ne.symm h)]
  | p :: m => by
    rw [updA]
    by_cases hp : p.1 = k
    · rw [if_pos hp, lkA_cons, lkA_cons]
      by_cases h : k' = k
      · rw [if_pos h, if_pos h.symm]
      · rw [if_neg h, if_neg (Ne.symm h), if_neg fun e => h (e.symm.trans hp)]
    · rw [if_neg hp, lkA_cons, lkA_cons, lkA_updA k x k' m]
      by_cases h : k' = k
      · subst h; simp [hp]
      · simp [h]
def updF {κ β : Type} [DecidableEq κ] (f : κ → Option β) (k : κ) (x : β) : κ → Option β := fun y => if y = k then some x else f y
theorem lkA_updF {κ β : Type} [DecidableEq κ] (m : List (κ × β)) (k : κ) (x : β) : lkA (updA m k x) = updF (lkA m) k x := funext fun y => lkA_updA k x y m
def wantS (σ : Sg) (o : Int) (n : ByteArray) (q : Int) : Int := match σ.has n o with
  | some h => bothL h q
  | none => q
def mayP (f : Int → Option Int) (o md : Int) : Prop := ∀ x k, f x = some k → x = o ∨ fitsL k md = true
theorem mayL_iff {m : Wt} (hn : (m.map fun q : Int × Int => q.1).Nodup) (o md : Int) : mayL m (o, md) = true ↔ mayP (lkA m) o md := by
  unfold mayL mayP
  rw [List.all_eq_true]
  constructor
  · intro h x k hx
    have := h _ (lkA_mem hx)
    simpa using this
  · intro h q hq
    have := h q.1 q.2 (mem_lkA hn hq)
    simpa using this
def placeS (σ : Sg) (o : Int) (n : ByteArray) : Nat := if (σ.has n o).isSome then (idxF (fun x : Int × Int => !(σ.has n x.1).isSome) (σ.wait n ++ [(-1, 3)])).toNat else (σ.wait n).length
def insS (σ : Sg) (o : Int) (n : ByteArray) (q : Int) : Wt := (σ.wait n).take (placeS σ o n) ++ [(o, wantS σ o n q)] ++ (σ.wait n).drop (placeS σ o n)
def Sg.wgoal (σ : Sg) (g : Int → Option ByteArray) : Sg := ⟨σ.has, σ.wait, g⟩
def grantP (σ : Sg) (o : Int) (n : ByteArray) (q : Int) (mb : Bool) : Prop := ((σ.has n o).isSome ∧ wantS σ o n q = (σ.has n o).getD 0) ∨ (mb = true ∧ ((σ.has n o).isSome ∨ σ.wait n = []))
instance (σ : Sg) (o : Int) (n : ByteArray) (q : Int) (mb : Bool) : Decidable (grantP σ o n q mb) := inferInstanceAs (Decidable (_ ∨ _))
def askS (σ : Sg) (o : Int) (n : ByteArray) (q : Int) (mb : Bool) : Sg × Bool × Int :=
  if o < 0 ∨ ¬ isM q then (σ, false, 1) else if (σ.goal o).isSome then (σ, false, 120)
  else if grantP σ o n q mb then (σ.put n (updF (σ.has n) o (wantS σ o n q)) (σ.wait n), true, 0)
  else ((σ.put n (σ.has n) (insS σ o n q)).wgoal (updF σ.goal o n), false, 0)
set_option maxRecDepth 100000 in
theorem ask1_con (c b : Nat) (v : Value) (m : Wt) (x : Int × Int) :
    Con Try.prog 83 [.agg ([Value.int .i64 x.1] ++ [Value.int .i64 x.2]).toArray, .pointer (some ⟨c, 0, none⟩)] [AllA [Blk c 135 [.map (some b), v], MapO kInt (some b) (mInt m)]] (γ := Unit) (fun _ => .bool (!(lkA m x.1).isSome)) (fun _ => True)
      (fun _ => [AllA [Blk c 135 [.map (some b), v], MapO kInt (some b) (mInt m)]]) := by
  refine con_of Try.func83 rfl (dd rfl) fun w0 O0 => ?_
  refine c_all ?_
  have hlk := look_mInt m x.1
  refine c_seq ?_
  refine c_region ?_
  refine o_step (s_box rfl (dd rfl) (fun b2 => ?_))
  refine o_val (v_assign rfl) (dd rfl) ?_
  refine o_nil ?_
  refine c_seq ?_
  refine c_region ?_
  refine o_val (v_fieldAddrC 0 Try.underlying135 rfl ti97 (by decide) rfl) (dd rfl) ?_
  refine o_val (v_load lone97 rfl (hX (by repeat constructor)) rfl) (dd rfl) ?_
  refine o_val (v_fieldAddrC 0 Try.underlying137 rfl ti3 (by decide) rfl) (dd rfl) ?_
  refine o_val (v_load lone3 rfl (hX (by repeat constructor)) rfl) (dd rfl) ?_
  refine o_val (v_lookupO2 kInt Try.underlying97 Try.underlying3 ti3 rfl rfl (hX (by repeat constructor))) (dd rfl) ?_
  try simp only [hlk, Option.isSome_map, Option.getD_none, Option.getD_some, Option.isSome_none, Option.isSome_some]
  refine o_val (v_move rfl) (dd rfl) ?_
  refine o_val (v_extract rfl rfl) (dd rfl) ?_
  refine o_val (v_extract rfl rfl) (dd rfl) ?_
  refine o_val (v_assign rfl) (dd rfl) ?_
  refine o_val (v_assign rfl) (dd rfl) ?_
  refine o_nil ?_
  refine c_seq ?_
  refine c_region ?_
  refine o_val (v_move rfl) (dd rfl) ?_
  refine o_val (v_not rfl) (dd rfl) ?_
  refine o_val (v_assign rfl) (dd rfl) ?_
  refine o_nil ?_
  refine c_ret1 Try.func83 rfl rfl fun w O hS => ?_
  exact ⟨(), rfl, trivial, Ent.get (Ent.get hS (L' := [Blk c 135 [.map (some b), v], MapO kInt (some b) (mInt m)]) (eX (by repeat constructor))) all_mk⟩
set_option maxRecDepth 100000 in
theorem indexFuncS_W {gp : FuncId} {caps : List Value} {R : A} {p : Int × Int → Bool} (clp : Callable Try.prog gp) (v : Value) (xs : Wt) (hp : ∀ x ∈ xs, Con Try.prog gp (Value.agg ([Value.int .i64 x.1] ++ [Value.int .i64 x.2]).toArray :: caps) [R] (γ := Unit) (fun _ => .bool (p x)) (fun _ => True) (fun _ => [R])) (hx : xs.length ≤ 9223372036854775807) :
    Con Try.prog 82 [v, .func (.func gp) #[] caps.toArray] [R, Sl eW v xs] (γ := Unit) (fun _ => .int .i64 (idxF p xs)) (fun _ => True) (fun _ => [R]) := by
  refine con_of Try.func82 rfl (dd rfl) fun w0 O0 => ?_
  refine c_seq ?_
  refine c_region ?_
  refine o_val (v_assign rfl) (dd rfl) ?_
  refine o_nil ?_
  refine c_seq ?_
  refine c_seq ?_
  refine c_region ?_
  refine o_val (v_move rfl) (dd rfl) ?_
  refine o_val ((by first | exact v_len_form Try.underlying133 rfl | exact v_len_sl Try.underlying133 rfl (hX (by repeat constructor)))) (dd rfl) ?_
  refine o_val (v_move rfl) (dd rfl) ?_
  refine o_nil ?_
  refine c_block ?_
  refine c_loop (γ := Nat) (fun i => xs.length - i) (fun i => i ≤ xs.length ∧ ∀ (j : Nat) (hj : j < xs.length), j < i → p xs[j] = false) (fun i => [(8, .int .i64 i), (7, .int .i64 xs.length), (1, .func (.func gp) #[] caps.toArray), (0, v)]) (fun _ => [R, Sl eW v xs]) 0 ⟨Nat.zero_le _, fun _ _ h => by omega⟩ ⟨rfl, rfl, rfl, rfl, trivial⟩ (eX (by repeat constructor)) ?_
  rintro i ⟨hi, hall⟩ IH
  try dsimp only [List.cons_append, List.nil_append]
  refine c_seq ?_
  refine c_region ?_
  refine o_val (v_lt rfl rfl) (dd rfl) ?_
  refine o_nil ?_
  refine c_seq ?_
  refine c_cond_p rfl (fun hlt => ?_) (fun hlt => ?_)
  · refine c_skip ?_
    refine c_seq ?_
    refine c_block ?_
    refine c_seq ?_
    refine c_region ?_
    refine o_val (v_move rfl) (dd rfl) ?_
    refine o_val (v_assign rfl) (dd rfl) ?_
    refine o_nil ?_
    refine c_seq ?_
    refine c_region ?_
    refine o_val (v_move rfl) (dd rfl) ?_
    refine o_val (v_move rfl) (dd rfl) ?_
    refine o_val (v_move rfl) (dd rfl) ?_
    refine o_val ((by first | exact v_indexAddrN Try.underlying133 ti137 rfl rfl (hX (by repeat constructor)) (by omega) | exact v_indexAddr Try.underlying133 ti137 rfl rfl (hX (by repeat constructor)) (by omega))) (dd rfl) ?_
    refine o_val (v_load_p (by repeat (first | exact PEnc.int _ | exact PEnc.str | exact PEnc.bool | exact PEnc.byte | exact PEnc.raw | apply PEnc.pair | apply PEnc.map)) ⟨_, Try.underlying137⟩ ti137 rfl (by repeat (first|exact el1 (by omega)|exact el2 (by omega)|exact el3 (by omega)|apply Elem.there))) (dd rfl) ?_
    refine o_step (s_call clp (hp (xs[i]'(by omega)) (List.getElem_mem _)) (first := []) (cap := caps) rfl rfl (by rfl) (dd rfl) (pXs (by repeat constructor)) fun _ _ => ?_)
    refine o_nil ?_
    refine c_cond rfl (fun hc => ?_) (fun hc => ?_)
    · refine c_seq ?_
      refine c_region ?_
      refine o_val (v_move rfl) (dd rfl) ?_
      refine o_val (v_assign rfl) (dd rfl) ?_
      refine o_nil ?_
      refine c_ret1 Try.func82 rfl rfl fun w O hS => ?_
      exact ⟨(), congrArg (Value.int .i64) (idxF_some (by omega) hc fun j hj => hall j (by omega) hj).symm, trivial, Ent.get hS (eX (by repeat constructor))⟩
    · refine c_skip ?_
      refine c_inBlock ?_
      refine c_region ?_
      refine o_val ((by first | exact v_add64 rfl rfl (by omega) | exact v_add rfl rfl)) (dd rfl) ?_
      refine o_val (v_move rfl) (dd rfl) ?_
      refine o_nil ?_
      refine c_use (IH (i + 1) (by omega) ⟨by omega, fun j hj hji => ?_⟩) ⟨rfl, rfl, rfl, rfl, trivial⟩ (eX (by repeat constructor))
      by_cases h : j = i
      · subst h; exact hc
      · exact hall j hj (by omega)
  · refine c_exit rfl ?_
    refine c_seq ?_
    refine c_region ?_
    refine o_val (v_assign rfl) (dd rfl) ?_
    refine o_nil ?_
    refine c_ret1 Try.func82 rfl rfl fun w O hS => ?_
    exact ⟨(), congrArg (Value.int .i64) (idxF_none fun j hj => hall j hj (by omega)).symm, trivial, Ent.get hS (eX (by repeat constructor))⟩
end Go.Proofs.Ytnamhhmfnokfiaa
/- Chapter 12: Ask of the table. -/
namespace Go.Proofs.Ytnamhhmfnokfiaa
open Go Go.SL
attribute [local irreducible] Cfg Kont StepK Val Con Qops Any Sl Own Blk BlkR Rd Pu ExA AllA Has Pick Ent Elem Beside Callable TI Lone OwnO AndA
theorem want_rd (w : World) (O : Perm) (z : Int × Int) : eW.rd w O [.int .i64 z.1, .int .i64 z.2] z := ⟨[.int .i64 z.1], [.int .i64 z.2], rfl, rfl, rfl⟩
theorem place_le (σ : Sg) (o : Int) (n : ByteArray) (h : σ.has n (-1) = none) : placeS σ o n ≤ (σ.wait n).length ∧ ((σ.has n o).isSome = true → idxF (fun x : Int × Int => !(σ.has n x.1).isSome) (σ.wait n ++ [(-1, 3)]) = (placeS σ o n : Int)) := by
  have hc := idxF_cases (fun x : Int × Int => !(σ.has n x.1).isSome) (σ.wait n ++ [(-1, 3)])
  rcases hc with ⟨_, h2⟩ | ⟨i, hi, h1, _, _⟩
  · have := h2 (-1, 3) (by simp)
    rw [h] at this; cases this
  · simp only [List.length_append, List.length_cons, List.length_nil] at hi
    constructor
    · unfold placeS; split
      · rw [h1]; omega
      · exact Nat.le_refl _
    · intro hs
      unfold placeS; rw [if_pos hs, h1]; rfl
theorem getD_mapI (x : Option Int) : (x.map (Value.int .i64)).getD (.int .i64 0) = .int .i64 (x.getD 0) := by cases x <;> rfl
set_option maxRecDepth 100000 in
theorem ask_con (N t : Nat) (σ : Sg) (o : Int) (n : ByteArray) (q : Int) (hN : N ≤ 50000) (hneg : σ.has n (-1) = none) :
    Con Try.prog 46 [.pointer (some ⟨t, 0, none⟩), .int .i64 o, .string n, .int .i64 q] [TabA N t σ] (γ := Bool) (fun mb => .tuple #[.bool (askS σ o n q mb).2.1, .int .i64 (askS σ o n q mb).2.2]) (fun mb => mb = true ↔ mayP (σ.has n) o (wantS σ o n q))
      (fun mb => [TabA (N + 2) t (askS σ o n q mb).1]) := by
  obtain ⟨mb0, hmb0⟩ : ∃ mb : Bool, mb = true ↔ mayP (σ.has n) o (wantS σ o n q) := by
    by_cases hm : mayP (σ.has n) o (wantS σ o n q)
    · exact ⟨true, by simpa using hm⟩
    · exact ⟨false, by simpa using hm⟩
  refine con_of Try.func46 rfl (dd rfl) fun w0 O0 => ?_
  refine c_seq ?_
  refine c_region ?_
  refine o_val (v_assign rfl) (dd rfl) ?_
  refine o_val (v_assign rfl) (dd rfl) ?_
  refine o_nil ?_
  refine c_seq ?_
  refine c_seq ?_
  refine c_env (env' := [(0, _), (1, _), (2, _), (3, _), (8, _), (9, _)]) (by repeat (first | exact trivial | refine ⟨rfl, ?_⟩)) ?_
  refine c_joinb (d := 24) (decide ((o < 0 ∨ ¬ isM q))) ?_ ?_
  rotate_left
  · intro J
    refine c_region ?_
    refine o_val (v_move rfl) (dd rfl) ?_
    refine o_val (v_lt rfl rfl) (dd rfl) ?_
    refine o_val (v_move rfl) (dd rfl) ?_
    first | refine o_guard_f rfl rfl (fun g20 => ?_) (fun g20 => ?_) | refine o_guard rfl rfl (fun g20 => ?_) (fun g20 => ?_)
    · refine o_val (v_move rfl) (dd rfl) ?_
      refine o_on rfl rfl ?_
      refine o_step (s_callf_keep cl58 (mode_con _) rfl (dd rfl) (rX (by repeat constructor)) (fun _ => sX) (fun _ _ => ?_))
      refine o_on rfl rfl ?_
      refine o_val (v_not rfl) (dd rfl) ?_
      refine o_val (v_pick_f rfl rfl) (dd rfl) ?_
      refine o_nil ?_
      exact c_use J ⟨Env.as rfl (congrArg Value.bool (by first | rfl | (simp_all; done) | (simp_all; omega) | (simp; omega))), (by repeat (first | exact trivial | refine ⟨rfl, ?_⟩))⟩ (by first | exact Ent.refl _ | exact eX (by repeat constructor))
    · refine o_off rfl rfl rfl (dd rfl) ?_
      refine o_off rfl rfl rfl (dd rfl) ?_
      refine o_off rfl rfl rfl (dd rfl) ?_
      refine o_val (v_pick_t rfl rfl) (dd rfl) ?_
      refine o_nil ?_
      exact c_use J ⟨Env.as rfl (congrArg Value.bool (by first | rfl | (simp_all; done) | (simp_all; omega) | (simp; omega))), (by repeat (first | exact trivial | refine ⟨rfl, ?_⟩))⟩ (by first | exact Ent.refl _ | exact eX (by repeat constructor))
  refine c_cond_p rfl (fun hbad => ?_) (fun hbad => ?_)
  · refine c_seq ?_
    refine c_region ?_
    refine o_val (v_assign rfl) (dd rfl) ?_
    refine o_val (v_assign rfl) (dd rfl) ?_
    refine o_nil ?_
    refine c_ret2 Try.func46 rfl rfl rfl fun w O hS => ?_
    have hg : askS σ o n q mb0 = (σ, false, 1) := if_pos hbad
    exact ⟨mb0, by rw [hg], hmb0, by rw [hg]; exact Ent.get (Ent.get hS (eX (by repeat constructor))) (Ent.head fun _ _ => tabA_le (by omega))⟩
  · refine c_skip ?_
    refine c_seq ?_
    refine c_seq ?_
    refine c_region ?_
    refine o_val (v_move rfl) (dd rfl) ?_
    refine o_val (v_move rfl) (dd rfl) ?_
    refine o_step (s_callf cl47 (waits_con N t σ o (by omega)) rfl (dd rfl) (pXs (by repeat constructor)) fun _ _ => ?_)
    refine o_val (v_move rfl) (dd rfl) ?_
    refine o_val (v_extract rfl rfl) (dd rfl) ?_
    refine o_val (v_extract rfl rfl) (dd rfl) ?_
    refine o_val (v_extract rfl rfl) (dd rfl) ?_
    refine o_val (v_assign rfl) (dd rfl) ?_
    refine o_val (v_assign rfl) (dd rfl) ?_
    refine o_val (v_assign rfl) (dd rfl) ?_
    refine o_nil ?_
    refine c_seq ?_
    refine c_region ?_
    refine o_val (v_move rfl) (dd rfl) ?_
    refine o_nil ?_
    refine c_cond rfl (fun hgo => ?_) (fun hgo => ?_)
    · refine c_seq ?_
      refine c_region ?_
      refine o_val (v_assign rfl) (dd rfl) ?_
      refine o_val (v_assign rfl) (dd rfl) ?_
      refine o_nil ?_
      refine c_ret2 Try.func46 rfl rfl rfl fun w O hS => ?_
      have hg : askS σ o n q mb0 = (σ, false, 120) := (if_neg hbad).trans (if_pos hgo)
      exact ⟨mb0, by rw [hg], hmb0, by rw [hg]; exact Ent.get (Ent.get hS (eX (by repeat constructor))) (Ent.head fun _ _ => tabA_le (by omega))⟩
    · have hgo' : ¬ (σ.goal o).isSome = true := by rw [hgo]; simp
      have hga : ∀ mb, askS σ o n q mb = if grantP σ o n q mb then (σ.put n (updF (σ.has n) o (wantS σ o n q)) (σ.wait n), true, 0) else ((σ.put n (σ.has n) (insS σ o n q)).wgoal (updF σ.goal o n), false, 0) := fun mb => (if_neg hbad).trans (if_neg hgo')
      refine c_skip ?_
      refine c_seq ?_
      refine c_region ?_
      refine o_val (v_move rfl) (dd rfl) ?_
      refine o_val (v_move rfl) (dd rfl) ?_
      refine o_step (s_callf cl81 (at_con N t σ n) rfl (dd rfl) (pXs (by repeat constructor)) fun r hr => ?_)
      refine o_step (s_alloc ti135 (dd rfl) (fun b13 => ?_))
      refine o_step (s_store_all ti135 rfl rfl (by first | exact CellsV.lit rfl | exact CellsV.one (by first | exact OneC.lit rfl | exact OneC.sl (hX (by repeat constructor)) )) (by repeat (first | exact OneAll.nil | (refine OneAll.cons ?_ ?_; · first | exact OneC.lit rfl | exact OneC.sl (hX (by repeat constructor)) ) | exact OneAll.rd (hX (by repeat constructor)))) rfl (pB (by repeat constructor)) rfl (?_))
      refine o_nil ?_
      refine c_seq ?_
      refine c_region ?_
      refine o_val (v_fieldAddrC 0 Try.underlying135 rfl ti97 (by decide) rfl) (dd rfl) ?_
      refine o_val (v_load lone97 rfl (hX (by repeat constructor)) rfl) (dd rfl) ?_
      refine o_val (v_move rfl) (dd rfl) ?_
      refine o_val (v_lookupO2 kInt Try.underlying97 Try.underlying3 ti3 rfl rfl (hX (by repeat constructor))) (dd rfl) ?_
      try simp only [look_mInt, Option.isSome_map, getD_mapI, Option.getD_none, Option.getD_some, Option.isSome_none, Option.isSome_some]
      refine o_val (v_move rfl) (dd rfl) ?_
      refine o_val (v_extract rfl rfl) (dd rfl) ?_
      refine o_val (v_extract rfl rfl) (dd rfl) ?_
      refine o_val (v_assign rfl) (dd rfl) ?_
      refine o_val (v_assign rfl) (dd rfl) ?_
      refine o_nil ?_
      refine c_seq ?_
      refine c_region ?_
      refine o_val (v_move rfl) (dd rfl) ?_
      refine o_val (v_move rfl) (dd rfl) ?_
      refine o_val (v_buildS (places := [(0, 1), (1, 1)]) (cells := [_, _]) Try.underlying137 ti137 (by kernel_rfl) rfl (by repeat (first | exact PartsC.nil | (apply PartsC.one (by first | exact OneC.lit rfl | exact OneC.sl (hX (by repeat constructor)) )) | (apply PartsC.lit rfl))) rfl) (dd rfl) ?_
      refine o_step (s_alloc ti137 (dd rfl) (fun b16 => ?_))
      refine o_step (s_store_all ti137 rfl rfl (by first | exact CellsV.lit rfl | exact CellsV.one (by first | exact OneC.lit rfl | exact OneC.sl (hX (by repeat constructor)) )) (by repeat (first | exact OneAll.nil | (refine OneAll.cons ?_ ?_; · first | exact OneC.lit rfl | exact OneC.sl (hX (by repeat constructor)) ) | exact OneAll.rd (hX (by repeat constructor)))) rfl (pB (by repeat constructor)) rfl (?_))
      refine o_nil ?_
      refine c_seq ?_
      refine c_seq ?_
      refine c_region ?_
      refine o_val (v_move rfl) (dd rfl) ?_
      refine o_nil ?_
      obtain ⟨b, v, m⟩ := r
      obtain ⟨ha, hb, hc⟩ := hr
      dsimp only at ha hb hc ⊢
      refine c_joinR (γ := Int) [(0, _), (1, _), (2, _), (8, _), (9, _), (13, _), (14, _), (15, _), (16, _)] (fun md => md = wantS σ o n q) (fun _ => []) (fun md => [TabH (N + 1) t σ n, MapO kInt (some b) (mInt m), OwnO eW 137 v (σ.wait n), Blk b13 135 [.map (some b), v], Blk b16 137 [.int .i64 o, .int .i64 md]]) (by repeat (first | exact trivial | refine ⟨rfl, ?_⟩)) ?_ ?_
      · rintro md rfl
        dsimp only [List.nil_append]
        refine c_seq ?_
        refine c_seq ?_
        refine c_env (env' := [(0, _), (1, _), (2, _), (8, _), (9, _), (13, _), (14, _), (15, _), (16, _)]) (by repeat (first | exact trivial | refine ⟨rfl, ?_⟩)) ?_
        refine c_joinb (d := 71) (decide ((((lkA m o).isSome = true ∧ wantS σ o n q = (lkA m o).getD 0) ∨ (mayL m (o, wantS σ o n q) = true ∧ ((lkA m o).isSome = true ∨ ((σ.wait n).length : Int) = 0))))) ?_ ?_
        rotate_left
        · intro J
          refine c_region ?_
          refine o_val (v_move rfl) (dd rfl) ?_
          refine o_val (v_move rfl) (dd rfl) ?_
          first | refine o_guard_t rfl rfl (fun g52 => ?_) (fun g52 => ?_) | refine o_guard rfl rfl (fun g52 => ?_) (fun g52 => ?_)
          · refine o_val (v_fieldAddrC 1 Try.underlying137 rfl ti3 (by decide) rfl) (dd rfl) ?_
            refine o_on rfl rfl ?_
            refine o_val (v_load lone3 rfl (hX (by repeat constructor)) rfl) (dd rfl) ?_
            refine o_on rfl rfl ?_
            refine o_val (v_move rfl) (dd rfl) ?_
            refine o_on rfl rfl ?_
            refine o_val (v_eq rfl rfl) (dd rfl) ?_
            refine o_val (v_pick_t rfl rfl) (dd rfl) ?_
            refine o_val (v_move rfl) (dd rfl) ?_
            first | refine o_guard_f rfl rfl (fun g58 => ?_) (fun g58 => ?_) | refine o_guard rfl rfl (fun g58 => ?_) (fun g58 => ?_)
            · refine o_val (v_load_all ⟨_, Try.underlying135⟩ ti135 rfl (hX (by repeat constructor)) rfl) (dd rfl) ?_
              refine o_on rfl rfl ?_
              refine o_val (v_load_all ⟨_, Try.underlying137⟩ ti137 rfl (hX (by repeat constructor)) rfl) (dd rfl) ?_
              refine o_on rfl rfl ?_
              refine o_step (s_callf cl77 (may_con (some b) v m (o, wantS σ o n q)) rfl (dd rfl) (pXs (by repeat constructor)) (fun _ _ => ?_))
              refine o_on rfl rfl ?_
              refine o_val (v_move rfl) (dd rfl) ?_
              first | refine o_guard_t rfl rfl (fun g62 => ?_) (fun g62 => ?_) | refine o_guard rfl rfl (fun g62 => ?_) (fun g62 => ?_)
              · refine o_val (v_move rfl) (dd rfl) ?_
                refine o_on rfl rfl ?_
                refine o_val (v_move rfl) (dd rfl) ?_
                first | refine o_guard_f rfl rfl (fun g64 => ?_) (fun g64 => ?_) | refine o_guard rfl rfl (fun g64 => ?_) (fun g64 => ?_)
                · refine o_val (v_fieldAddrC 1 Try.underlying135 rfl ti133 (by decide) rfl) (dd rfl) ?_
                  refine o_on rfl rfl ?_
                  refine o_val (v_load lone133 rfl (hX (by repeat constructor)) rfl) (dd rfl) ?_
                  refine o_on rfl rfl ?_
                  refine o_val ((by first | exact v_len_form Try.underlying133 rfl | exact v_len_sl Try.underlying133 rfl (hX (by repeat constructor)))) (dd rfl) ?_
                  refine o_on rfl rfl ?_
                  refine o_val (v_eq rfl rfl) (dd rfl) ?_
                  refine o_on rfl rfl ?_
                  refine o_val (v_pick_f rfl rfl) (dd rfl) ?_
                  refine o_on rfl rfl ?_
                  refine o_val (v_pick_t rfl rfl) (dd rfl) ?_
                  refine o_val (v_pick_f rfl rfl) (dd rfl) ?_
                  refine o_nil ?_
                  exact c_use J ⟨Env.as rfl (congrArg Value.bool (by first | rfl | (simp_all; done) | (simp_all; omega) | (simp; omega))), (by repeat (first | exact trivial | refine ⟨rfl, ?_⟩))⟩ (by first | exact Ent.refl _ | exact eX (by repeat constructor))
                · refine o_off rfl rfl rfl (dd rfl) ?_
                  refine o_off rfl rfl rfl (dd rfl) ?_
                  refine o_off rfl rfl rfl (dd rfl) ?_
                  refine o_off rfl rfl rfl (dd rfl) ?_
                  refine o_on rfl rfl ?_
                  refine o_val (v_pick_t rfl rfl) (dd rfl) ?_
                  refine o_on rfl rfl ?_
                  refine o_val (v_pick_t rfl rfl) (dd rfl) ?_
                  refine o_val (v_pick_f rfl rfl) (dd rfl) ?_
                  refine o_nil ?_
                  exact c_use J ⟨Env.as rfl (congrArg Value.bool (by first | rfl | (simp_all; done) | (simp_all; omega) | (simp; omega))), (by repeat (first | exact trivial | refine ⟨rfl, ?_⟩))⟩ (by first | exact Ent.refl _ | exact eX (by repeat constructor))
              · refine o_off rfl rfl rfl (dd rfl) ?_
                refine o_off rfl rfl rfl (dd rfl) ?_
                refine o_offu rfl rfl (dd rfl) ?_
                refine o_offu rfl rfl (dd rfl) ?_
                refine o_offu rfl rfl (dd rfl) ?_
                refine o_offu rfl rfl (dd rfl) ?_
                refine o_off rfl rfl rfl (dd rfl) ?_
                refine o_on rfl rfl ?_
                refine o_val (v_pick_f rfl rfl) (dd rfl) ?_
                refine o_val (v_pick_f rfl rfl) (dd rfl) ?_
                refine o_nil ?_
                exact c_use J ⟨Env.as rfl (congrArg Value.bool (by first | rfl | (simp_all; done) | (simp_all; omega) | (simp; omega))), (by repeat (first | exact trivial | refine ⟨rfl, ?_⟩))⟩ (by first | exact Ent.refl _ | exact eX (by repeat constructor))
            · refine o_off rfl rfl rfl (dd rfl) ?_
              refine o_off rfl rfl rfl (dd rfl) ?_
              refine o_off rfl rfl rfl (dd rfl) ?_
              refine o_off rfl rfl rfl (dd rfl) ?_
              refine o_offu rfl rfl (dd rfl) ?_
              refine o_offu rfl rfl (dd rfl) ?_
              refine o_offu rfl rfl (dd rfl) ?_
              refine o_offu rfl rfl (dd rfl) ?_
              refine o_offu rfl rfl (dd rfl) ?_
              refine o_offu rfl rfl (dd rfl) ?_
              refine o_offu rfl rfl (dd rfl) ?_
              refine o_off rfl rfl rfl (dd rfl) ?_
              refine o_val (v_pick_t rfl rfl) (dd rfl) ?_
              refine o_nil ?_
              exact c_use J ⟨Env.as rfl (congrArg Value.bool (by first | rfl | (simp_all; done) | (simp_all; omega) | (simp; omega))), (by repeat (first | exact trivial | refine ⟨rfl, ?_⟩))⟩ (by first | exact Ent.refl _ | exact eX (by repeat constructor))
          · refine o_off rfl rfl rfl (dd rfl) ?_
            refine o_off rfl rfl rfl (dd rfl) ?_
            refine o_off rfl rfl rfl (dd rfl) ?_
            refine o_off rfl rfl rfl (dd rfl) ?_
            refine o_val (v_pick_f rfl rfl) (dd rfl) ?_
            refine o_val (v_move rfl) (dd rfl) ?_
            refine o_on rfl rfl ?_
            refine o_val (v_load_all ⟨_, Try.underlying135⟩ ti135 rfl (hX (by repeat constructor)) rfl) (dd rfl) ?_
            refine o_on rfl rfl ?_
            refine o_val (v_load_all ⟨_, Try.underlying137⟩ ti137 rfl (hX (by repeat constructor)) rfl) (dd rfl) ?_
            refine o_on rfl rfl ?_
            refine o_step (s_callf cl77 (may_con (some b) v m (o, wantS σ o n q)) rfl (dd rfl) (pXs (by repeat constructor)) (fun _ _ => ?_))
            refine o_on rfl rfl ?_
            refine o_val (v_move rfl) (dd rfl) ?_
            first | refine o_guard_t rfl rfl (fun g62 => ?_) (fun g62 => ?_) | refine o_guard rfl rfl (fun g62 => ?_) (fun g62 => ?_)
            · refine o_val (v_move rfl) (dd rfl) ?_
              refine o_on rfl rfl ?_
              refine o_val (v_move rfl) (dd rfl) ?_
              first | refine o_guard_f rfl rfl (fun g64 => ?_) (fun g64 => ?_) | refine o_guard rfl rfl (fun g64 => ?_) (fun g64 => ?_)
              · refine o_val (v_fieldAddrC 1 Try.underlying135 rfl ti133 (by decide) rfl) (dd rfl) ?_
                refine o_on rfl rfl ?_
                refine o_val (v_load lone133 rfl (hX (by repeat constructor)) rfl) (dd rfl) ?_
                refine o_on rfl rfl ?_
                refine o_val ((by first | exact v_len_form Try.underlying133 rfl | exact v_len_sl Try.underlying133 rfl (hX (by repeat constructor)))) (dd rfl) ?_
                refine o_on rfl rfl ?_
                refine o_val (v_eq rfl rfl) (dd rfl) ?_
                refine o_on rfl rfl ?_
                refine o_val (v_pick_f rfl rfl) (dd rfl) ?_
                refine o_on rfl rfl ?_
                refine o_val (v_pick_t rfl rfl) (dd rfl) ?_
                refine o_val (v_pick_f rfl rfl) (dd rfl) ?_
                refine o_nil ?_
                exact c_use J ⟨Env.as rfl (congrArg Value.bool (by first | rfl | (simp_all; done) | (simp_all; omega) | (simp; omega))), (by repeat (first | exact trivial | refine ⟨rfl, ?_⟩))⟩ (by first | exact Ent.refl _ | exact eX (by repeat constructor))
              · refine o_off rfl rfl rfl (dd rfl) ?_
                refine o_off rfl rfl rfl (dd rfl) ?_
                refine o_off rfl rfl rfl (dd rfl) ?_
                refine o_off rfl rfl rfl (dd rfl) ?_
                refine o_on rfl rfl ?_
                refine o_val (v_pick_t rfl rfl) (dd rfl) ?_
                refine o_on rfl rfl ?_
                refine o_val (v_pick_t rfl rfl) (dd rfl) ?_
                refine o_val (v_pick_f rfl rfl) (dd rfl) ?_
                refine o_nil ?_
                exact c_use J ⟨Env.as rfl (congrArg Value.bool (by first | rfl | (simp_all; done) | (simp_all; omega) | (simp; omega))), (by repeat (first | exact trivial | refine ⟨rfl, ?_⟩))⟩ (by first | exact Ent.refl _ | exact eX (by repeat constructor))
            · refine o_off rfl rfl rfl (dd rfl) ?_
              refine o_off rfl rfl rfl (dd rfl) ?_
              refine o_offu rfl rfl (dd rfl) ?_
              refine o_offu rfl rfl (dd rfl) ?_
              refine o_offu rfl rfl (dd rfl) ?_
              refine o_offu rfl rfl (dd rfl) ?_
              refine o_off rfl rfl rfl (dd rfl) ?_
              refine o_on rfl rfl ?_
              refine o_val (v_pick_f rfl rfl) (dd rfl) ?_
              refine o_val (v_pick_f rfl rfl) (dd rfl) ?_
              refine o_nil ?_
              exact c_use J ⟨Env.as rfl (congrArg Value.bool (by first | rfl | (simp_all; done) | (simp_all; omega) | (simp; omega))), (by repeat (first | exact trivial | refine ⟨rfl, ?_⟩))⟩ (by first | exact Ent.refl _ | exact eX (by repeat constructor))
        have hiff := (mayL_iff hc o (wantS σ o n q))
        rw [← ha] at hiff
        refine c_cond_p rfl (fun hgr => ?_) (fun hgr => ?_)
        · have hG : grantP σ o n q (mayL m (o, wantS σ o n q)) := by
            unfold grantP; rw [ha]
            exact hgr.imp id fun h => ⟨h.1, h.2.imp id fun h => List.eq_nil_of_length_eq_zero (by omega)⟩
          refine c_seq ?_
          refine c_region ?_
          refine o_val (v_fieldAddrC 0 Try.underlying135 rfl ti97 (by decide) rfl) (dd rfl) ?_
          refine o_val (v_load lone97 rfl (hX (by repeat constructor)) rfl) (dd rfl) ?_
          refine o_val (v_move rfl) (dd rfl) ?_
          refine o_val (v_fieldAddrC 1 Try.underlying137 rfl ti3 (by decide) rfl) (dd rfl) ?_
          refine o_val (v_load lone3 rfl (hX (by repeat constructor)) rfl) (dd rfl) ?_
          refine o_step (s_mapUpdate kInt Try.underlying97 Try.underlying3 kInt_sc rfl rfl rfl (pX (by repeat constructor)) (?_))
          refine o_nil ?_
          refine c_seq ?_
          refine c_region ?_
          refine o_val (v_move rfl) (dd rfl) ?_
          refine o_val (v_move rfl) (dd rfl) ?_
          refine o_val (v_load_all ⟨_, Try.underlying135⟩ ti135 rfl (hX (by repeat constructor)) rfl) (dd rfl) ?_
          rw [upd_mInt]
          refine o_step (s_callf cl78 (put_con (N + 1) t σ n b v (updA m o (wantS σ o n q)) (σ.wait n) (by have := updA_len o (wantS σ o n q) m; omega)) rfl (dd rfl) (pXs (by repeat constructor)) fun _ _ => ?_)
          refine o_nil ?_
          refine c_seq ?_
          refine c_region ?_
          refine o_val (v_assign rfl) (dd rfl) ?_
          refine o_val (v_assign rfl) (dd rfl) ?_
          refine o_nil ?_
          refine c_ret2 Try.func46 rfl rfl rfl fun w O hS => ?_
          refine ⟨mayL m (o, wantS σ o n q), by rw [hga, if_pos hG], hiff, ?_⟩
          rw [hga, if_pos hG, ha]
          rw [lkA_updF] at hS
          exact Ent.get (Ent.get hS (eX (by repeat constructor))) (Ent.head fun _ _ => tabA_le (by omega))
        · have hG : ¬ grantP σ o n q (mayL m (o, wantS σ o n q)) := by
            unfold grantP; rw [ha]
            exact fun h => hgr (h.imp id fun h => ⟨h.1, h.2.imp id fun h => by rw [h]; rfl⟩)
          have hpl := place_le σ o n hneg
          refine c_skip ?_
          refine c_seq ?_
          refine c_region ?_
          refine o_val (v_fieldAddrC 1 Try.underlying135 rfl ti133 (by decide) rfl) (dd rfl) ?_
          refine o_val (v_load lone133 rfl (hX (by repeat constructor)) rfl) (dd rfl) ?_
          refine o_val ((by first | exact v_len_form Try.underlying133 rfl | exact v_len_sl Try.underlying133 rfl (hX (by repeat constructor)))) (dd rfl) ?_
          refine o_val (v_assign rfl) (dd rfl) ?_
          refine o_nil ?_
          refine c_seq ?_
          refine c_seq ?_
          refine c_region ?_
          refine o_val (v_move rfl) (dd rfl) ?_
          refine o_nil ?_
          refine c_joinR (γ := Nat) [(0, _), (1, _), (2, _), (8, _), (9, _), (13, _), (16, _)] (fun k => k = placeS σ o n) (fun k => [(17, .int .i64 k)]) (fun k => [TabH (N + 1) t σ n, MapO kInt (some b) (mInt m), OwnO eW 137 v (σ.wait n), Blk b13 135 [.map (some b), v], Blk b16 137 [.int .i64 o, .int .i64 (wantS σ o n q)]]) (by repeat (first | exact trivial | refine ⟨rfl, ?_⟩)) ?_ ?_
          · rintro k hk
            dsimp only [List.cons_append, List.nil_append]
            refine c_seq ?_
            refine c_heldk 8 [BlkR b13 135 [.map (some b), v], BlkR b16 137 [.int .i64 o, .int .i64 (wantS σ o n q)], Sl eW v (σ.wait n)] rfl ?_
            refine k_take 0 rfl (by kernel_rfl) (by kernel_rfl) (by kernel_rfl) rfl (by kernel_rfl) (v_fieldAddrC 1 Try.underlying135 rfl ti133 (by decide) rfl) (eX (by repeat constructor)) (dd rfl) ?_
            refine k_take 1 rfl (by kernel_rfl) (by kernel_rfl) (by kernel_rfl) rfl (by kernel_rfl) (v_load lone133 rfl (hX (by repeat constructor)) rfl) (eX (by repeat constructor)) (dd rfl) ?_
            refine k_take 3 rfl (by kernel_rfl) (by kernel_rfl) (by kernel_rfl) rfl (by kernel_rfl) (v_move rfl) (eX (by repeat constructor)) (dd rfl) ?_
            refine k_take 4 rfl (by kernel_rfl) (by kernel_rfl) (by kernel_rfl) rfl (by kernel_rfl) (v_load_all ⟨_, Try.underlying137⟩ ti137 rfl (hX (by repeat constructor)) rfl) (eX (by repeat constructor)) (dd rfl) ?_
            refine k_two 2 5 rfl rfl (by kernel_rfl) (fun hc_ => ?_) (fun hc_ => ?_)
            · skip
              refine s_callf_keep cl85 (clone_Wt eW v (σ.wait n) rfl (by omega)) rfl (dd rfl) (rX (by repeat constructor)) (fun _ => sX) (fun r94 _ => k_on hc_ (eX (by repeat constructor)) ?_)
              refine k_one 5 rfl (by kernel_rfl) fun hc_ => (s_buildSlice Try.underlying133 ti137 rfl rfl rfl (by decide) (by decide) (beside_agg1 (Beside.rd fun w O => want_rd w O (o, wantS σ o n q))) rfl rfl (dd rfl) (fun r97 => k_on hc_ (eX (by repeat constructor)) ?_))
              refine k_one 6 rfl (by kernel_rfl) fun hc_ => (s_callf cl84 (insert_W r94 r97 (σ.wait n) k (o, wantS σ o n q) (by rw [hk]; exact hpl.1) (by omega)) rfl (dd rfl) (pXs (by repeat constructor)) (fun r98 _ => k_on hc_ (eX (by repeat constructor)) ?_))
              refine k_take 7 rfl (by kernel_rfl) (by kernel_rfl) (by kernel_rfl) rfl (by kernel_rfl) (v_fieldAddrC 1 Try.underlying135 rfl ti133 (by decide) rfl) (eX (by repeat constructor)) (dd rfl) ?_
              refine k_one 8 rfl (by kernel_rfl) fun hc_ => (s_store1 ti133 rfl rfl (by first | exact OneC.lit rfl | exact OneC.sl (hX (by repeat constructor)) ) (pB (by repeat constructor)) (by first | decide | exact Nat.le_of_ble_eq_true rfl | simp) (by first | (dsimp only [List.set_cons_succ, List.set_cons_zero]; first | done | exact rfl) | rfl) (k_last hc_ (by kernel_rfl) ?_))
              refine k_done (by kernel_rfl) ?_ _
              refine c_seq ?_
              refine c_ent (L' := [TabH (N + 1) t σ n, MapO kInt (some b) (mInt m), Own eW 137 r98 (insS σ o n q), Blk b13 135 [.map (some b), r98], Blk b16 137 [.int .i64 o, .int .i64 (wantS σ o n q)]]) (by unfold insS; rw [← hk]; exact (eX (by repeat constructor))) ?_
              refine c_hole fun o1 o2 es ps gs hh => ?_
              obtain ⟨h1, h2, h3, h4, h5, h6, h7, h8, h9, h10⟩ := id hh
              obtain ⟨b2, rfl⟩ := Option.ne_none_iff_exists'.1 h7
              refine c_region ?_
              refine o_val (v_move rfl) (dd rfl) ?_
              refine o_val (v_nilCheck rfl) (dd rfl) ?_
              refine o_val (v_fieldAddrC 1 Try.underlying75 rfl ti73 (by decide) rfl) (dd rfl) ?_
              refine o_val (v_load lone73 rfl (hX (by repeat constructor)) rfl) (dd rfl) ?_
              refine o_val (v_move rfl) (dd rfl) ?_
              refine o_val (v_move rfl) (dd rfl) ?_
              refine o_val (v_buildS (places := [(0, 1)]) (cells := [_]) Try.underlying140 ti140 (by kernel_rfl) rfl (by repeat (first | exact PartsC.nil | (apply PartsC.one (by first | exact OneC.lit rfl | exact OneC.sl (hX (by repeat constructor)) )) | (apply PartsC.lit rfl))) rfl) (dd rfl) ?_
              refine o_step (s_mapUpdate kInt Try.underlying73 Try.underlying3 kInt_sc rfl rfl rfl (pX (by repeat constructor)) (?_))
              refine o_nil ?_
              refine c_seq ?_
              rw [show (Value.agg #[.string n]) = goalV n from rfl, upd_entG]
              have hh2 : HoleF (N + 2) (σ.wgoal (updF σ.goal o n)) n o1 (some b2) es ps (updA gs o n) := ⟨h1, h2, h3, h4, by rw [lkA_updF, ← h5]; rfl, h6, h7, by omega, by have := updA_len o n gs; omega, fun p hp => by have := h10 p hp; omega⟩
              refine c_ent (L' := TabH (N + 2) t (σ.wgoal (updF σ.goal o n)) n :: [MapO kInt (some b) (mInt m), OwnO eW 137 r98 (insS σ o n q), Blk b13 135 [.map (some b), r98], Blk b16 137 [.int .i64 o, .int .i64 (wantS σ o n q)]]) (Ent.trans (Ent.trans (eX (by repeat constructor)) (hole_mk (L := [Own eW 137 r98 (insS σ o n q), MapO kInt (some b) (mInt m), Blk b13 135 [.map (some b), r98], Blk b16 137 [.int .i64 o, .int .i64 (wantS σ o n q)]]) hh2)) (Ent.trans (Ent.cons (Ent.head fun _ _ h => OwnO.of encF_W h)) (eX (by repeat constructor)))) ?_
              refine c_region ?_
              refine o_val (v_move rfl) (dd rfl) ?_
              refine o_val (v_move rfl) (dd rfl) ?_
              refine o_val (v_load_all ⟨_, Try.underlying135⟩ ti135 rfl (hX (by repeat constructor)) rfl) (dd rfl) ?_
              refine o_step (s_callf cl78 (put_con (N + 2) t (σ.wgoal (updF σ.goal o n)) n b r98 m (insS σ o n q) (by unfold insS; simp only [List.length_append, List.length_take, List.length_drop, List.length_cons, List.length_nil]; have := hpl.1; omega)) rfl (dd rfl) (pXs (by repeat constructor)) fun _ _ => ?_)
              refine o_nil ?_
              refine c_seq ?_
              refine c_region ?_
              refine o_val (v_assign rfl) (dd rfl) ?_
              refine o_val (v_assign rfl) (dd rfl) ?_
              refine o_nil ?_
              refine c_ret2 Try.func46 rfl rfl rfl fun w O hS => ?_
              refine ⟨mayL m (o, wantS σ o n q), by rw [hga, if_neg hG], hiff, ?_⟩
              rw [hga, if_neg hG, ha]
              exact Ent.get hS (eX (by repeat constructor))
            · skip
              refine s_buildSlice Try.underlying133 ti137 rfl rfl rfl (by decide) (by decide) (beside_agg1 (Beside.rd fun w O => want_rd w O (o, wantS σ o n q))) rfl rfl (dd rfl) (fun r97 => k_on hc_ (eX (by repeat constructor)) ?_)
              refine k_one 2 rfl (by kernel_rfl) fun hc_ => (s_callf_keep cl85 (clone_Wt eW v (σ.wait n) rfl (by omega)) rfl (dd rfl) (rX (by repeat constructor)) (fun _ => sX) (fun r94 _ => k_on hc_ (eX (by repeat constructor)) ?_))
              refine k_one 6 rfl (by kernel_rfl) fun hc_ => (s_callf cl84 (insert_W r94 r97 (σ.wait n) k (o, wantS σ o n q) (by rw [hk]; exact hpl.1) (by omega)) rfl (dd rfl) (pXs (by repeat constructor)) (fun r98 _ => k_on hc_ (eX (by repeat constructor)) ?_))
              refine k_take 7 rfl (by kernel_rfl) (by kernel_rfl) (by kernel_rfl) rfl (by kernel_rfl) (v_fieldAddrC 1 Try.underlying135 rfl ti133 (by decide) rfl) (eX (by repeat constructor)) (dd rfl) ?_
              refine k_one 8 rfl (by kernel_rfl) fun hc_ => (s_store1 ti133 rfl rfl (by first | exact OneC.lit rfl | exact OneC.sl (hX (by repeat constructor)) ) (pB (by repeat constructor)) (by first | decide | exact Nat.le_of_ble_eq_true rfl | simp) (by first | (dsimp only [List.set_cons_succ, List.set_cons_zero]; first | done | exact rfl) | rfl) (k_last hc_ (by kernel_rfl) ?_))
              refine k_done (by kernel_rfl) ?_ _
              refine c_seq ?_
              refine c_ent (L' := [TabH (N + 1) t σ n, MapO kInt (some b) (mInt m), Own eW 137 r98 (insS σ o n q), Blk b13 135 [.map (some b), r98], Blk b16 137 [.int .i64 o, .int .i64 (wantS σ o n q)]]) (by unfold insS; rw [← hk]; exact (eX (by repeat constructor))) ?_
              refine c_hole fun o1 o2 es ps gs hh => ?_
              obtain ⟨h1, h2, h3, h4, h5, h6, h7, h8, h9, h10⟩ := id hh
              obtain ⟨b2, rfl⟩ := Option.ne_none_iff_exists'.1 h7
              refine c_region ?_
              refine o_val (v_move rfl) (dd rfl) ?_
              refine o_val (v_nilCheck rfl) (dd rfl) ?_
              refine o_val (v_fieldAddrC 1 Try.underlying75 rfl ti73 (by decide) rfl) (dd rfl) ?_
              refine o_val (v_load lone73 rfl (hX (by repeat constructor)) rfl) (dd rfl) ?_
              refine o_val (v_move rfl) (dd rfl) ?_
              refine o_val (v_move rfl) (dd rfl) ?_
              refine o_val (v_buildS (places := [(0, 1)]) (cells := [_]) Try.underlying140 ti140 (by kernel_rfl) rfl (by repeat (first | exact PartsC.nil | (apply PartsC.one (by first | exact OneC.lit rfl | exact OneC.sl (hX (by repeat constructor)) )) | (apply PartsC.lit rfl))) rfl) (dd rfl) ?_
              refine o_step (s_mapUpdate kInt Try.underlying73 Try.underlying3 kInt_sc rfl rfl rfl (pX (by repeat constructor)) (?_))
              refine o_nil ?_
              refine c_seq ?_
              rw [show (Value.agg #[.string n]) = goalV n from rfl, upd_entG]
              have hh2 : HoleF (N + 2) (σ.wgoal (updF σ.goal o n)) n o1 (some b2) es ps (updA gs o n) := ⟨h1, h2, h3, h4, by rw [lkA_updF, ← h5]; rfl, h6, h7, by omega, by have := updA_len o n gs; omega, fun p hp => by have := h10 p hp; omega⟩
              refine c_ent (L' := TabH (N + 2) t (σ.wgoal (updF σ.goal o n)) n :: [MapO kInt (some b) (mInt m), OwnO eW 137 r98 (insS σ o n q), Blk b13 135 [.map (some b), r98], Blk b16 137 [.int .i64 o, .int .i64 (wantS σ o n q)]]) (Ent.trans (Ent.trans (eX (by repeat constructor)) (hole_mk (L := [Own eW 137 r98 (insS σ o n q), MapO kInt (some b) (mInt m), Blk b13 135 [.map (some b), r98], Blk b16 137 [.int .i64 o, .int .i64 (wantS σ o n q)]]) hh2)) (Ent.trans (Ent.cons (Ent.head fun _ _ h => OwnO.of encF_W h)) (eX (by repeat constructor)))) ?_
              refine c_region ?_
              refine o_val (v_move rfl) (dd rfl) ?_
              refine o_val (v_move rfl) (dd rfl) ?_
              refine o_val (v_load_all ⟨_, Try.underlying135⟩ ti135 rfl (hX (by repeat constructor)) rfl) (dd rfl) ?_
              refine o_step (s_callf cl78 (put_con (N + 2) t (σ.wgoal (updF σ.goal o n)) n b r98 m (insS σ o n q) (by unfold insS; simp only [List.length_append, List.length_take, List.length_drop, List.length_cons, List.length_nil]; have := hpl.1; omega)) rfl (dd rfl) (pXs (by repeat constructor)) fun _ _ => ?_)
              refine o_nil ?_
              refine c_seq ?_
              refine c_region ?_
              refine o_val (v_assign rfl) (dd rfl) ?_
              refine o_val (v_assign rfl) (dd rfl) ?_
              refine o_nil ?_
              refine c_ret2 Try.func46 rfl rfl rfl fun w O hS => ?_
              refine ⟨mayL m (o, wantS σ o n q), by rw [hga, if_neg hG], hiff, ?_⟩
              rw [hga, if_neg hG, ha]
              exact Ent.get hS (eX (by repeat constructor))
          · intro MEET
            skip
            refine c_cond rfl (fun hs => ?_) (fun hs => ?_)
            · refine c_region ?_
              refine o_val (v_fieldAddrC 1 Try.underlying135 rfl ti133 (by decide) rfl) (dd rfl) ?_
              refine o_val (v_load lone133 rfl (hX (by repeat constructor)) rfl) (dd rfl) ?_
              refine o_val (v_buildS (places := [(0, 1), (1, 1)]) (cells := [_, _]) Try.underlying137 ti137 (by kernel_rfl) rfl (by repeat (first | exact PartsC.nil | (apply PartsC.one (by first | exact OneC.lit rfl | exact OneC.sl (hX (by repeat constructor)) )) | (apply PartsC.lit rfl))) rfl) (dd rfl) ?_
              refine o_step (s_buildSlice Try.underlying133 ti137 rfl rfl rfl (by decide) (by decide) (beside_agg1 (Beside.rd fun w O => want_rd w O (-1, 3))) rfl rfl (dd rfl) fun v1 => ?_)
              refine o_step (s_append_look encF_W Try.underlying133 ti137 rfl (by decide) rfl rfl (dd rfl) (pB (by repeat constructor)) (pB (by repeat constructor)) (by simp) (by simp only [List.length_cons, List.length_nil]; omega) (by simp only [maxLen, List.length_cons, List.length_nil]; omega) fun v2 => ?_)
              refine o_val (v_makeFunc rfl rfl) (dd rfl) ?_
              refine o_mk (all_mk (l := [Blk b13 135 [.map (some b), v], MapO kInt (some b) (mInt m)])) (pXs (by repeat constructor)) ?_
              refine o_step (s_callf_mix 1 cl82 (indexFuncS_W (p := fun x => !(lkA m x.1).isSome) (caps := [.pointer (some ⟨b13, 0, none⟩)]) cl83 v2 (σ.wait n ++ [(-1, 3)]) (fun x _ => ask1_con b13 b v m x) (by simp only [List.length_append, List.length_cons, List.length_nil]; omega)) rfl (dd rfl) (pXs (by repeat constructor)) (rX (by repeat constructor)) (fun _ => sX) (fun _ _ => ?_))
              refine o_val (v_assign rfl) (dd rfl) ?_
              refine o_nil ?_
              rw [← ha, hpl.2 (by rw [ha]; exact hs)]
              refine c_all ?_
              refine c_use (MEET (placeS σ o n) (rfl)) (by repeat (first | exact trivial | refine ⟨rfl, ?_⟩)) (eX (by repeat constructor))
            · have hkl : (σ.wait n).length = placeS σ o n := by unfold placeS; rw [ha, if_neg (by rw [hs]; simp)]
              rw [hkl]
              refine c_skip ?_
              refine c_use (MEET (placeS σ o n) (rfl)) (by repeat (first | exact trivial | refine ⟨rfl, ?_⟩)) (eX (by repeat constructor))
      · intro MEET
        skip
        refine c_cond rfl (fun hs => ?_) (fun hs => ?_)
        · refine c_region ?_
          refine o_val (v_move rfl) (dd rfl) ?_
          refine o_val (v_move rfl) (dd rfl) ?_
          refine o_step (s_callf cl30 (Both_con ((lkA m o).getD 0) q) rfl (dd rfl) (pXs (by repeat constructor)) fun _ _ => ?_)
          refine o_val (v_fieldAddrC 1 Try.underlying137 rfl ti3 (by decide) rfl) (dd rfl) ?_
          refine o_step (s_store1 ti3 rfl rfl (by first | exact OneC.lit rfl | exact OneC.sl (hX (by repeat constructor)) ) (pB (by repeat constructor)) (by first | decide | exact Nat.le_of_ble_eq_true rfl | simp) (by first | (dsimp only [List.set_cons_succ, List.set_cons_zero]; first | done | exact rfl) | rfl) (?_))
          refine o_nil ?_
          have hwS : bothL ((lkA m o).getD 0) q = wantS σ o n q := by
            unfold wantS; rw [ha]
            cases h : lkA m o with
            | none => rw [h] at hs; cases hs
            | some x => rfl
          refine c_use (MEET (bothL ((lkA m o).getD 0) q) (hwS)) (by repeat (first | exact trivial | refine ⟨rfl, ?_⟩)) (eX (by repeat constructor))
        · have hwS : q = wantS σ o n q := by
            unfold wantS; rw [ha]
            cases h : lkA m o with
            | some x => rw [h] at hs; cases hs
            | none => rfl
          refine c_skip ?_
          refine c_use (MEET (q) (hwS)) (by repeat (first | exact trivial | refine ⟨rfl, ?_⟩)) (eX (by repeat constructor))
end Go.Proofs.Ytnamhhmfnokfiaa
/- Chapter 12: an owner leaves. -/
namespace Go.Proofs.Ytnamhhmfnokfiaa
open Go Go.SL
attribute [local irreducible] Cfg Kont StepK Val Con Qops Any Sl Own Blk BlkR Rd Pu ExA AllA Has Pick Ent Elem Beside Callable TI Lone OwnO AndA
def delA {κ β : Type} [DecidableEq κ] (m : List (κ × β)) (k : κ) : List (κ × β) := m.filter fun p => decide (p.1 ≠ k)
theorem del_map {κ β : Type} [DecidableEq κ] (g : β → Value) (k : κ) (m : List (κ × β)) : del (m.map fun q => (q.1, g q.2)) k = (delA m k).map fun q => (q.1, g q.2) := by
  unfold del delA
  rw [List.filter_map]; rfl
theorem del_mInt (m : Wt) (k : Int) : del (mInt m) k = mInt (delA m k) := del_map (.int .i64) k m
theorem del_entG (gs : List (Int × ByteArray)) (k : Int) : del (gs.map entG) k = (delA gs k).map entG := del_map goalV k gs
def delF {κ β : Type} [DecidableEq κ] (f : κ → Option β) (k : κ) : κ → Option β := fun y => if y = k then none else f y
theorem lkA_delA {κ β : Type} [DecidableEq κ] (k : κ) : ∀ m : List (κ × β), lkA (delA m k) = delF (lkA m) k
  | [] => funext fun y => by unfold delF; split <;> rfl
  | p :: m => funext fun y => by
    have ih := congrFun (lkA_delA k m) y
    unfold delA delF at ih ⊢
    rw [List.filter_cons]
    by_cases hp : p.1 = k
    · rw [if_neg (by simp [hp]), ih, lkA_cons]
      by_cases h : y = k
      · rw [if_pos h, if_pos h]
      · rw [if_neg h, if_neg h, if_neg fun e => h (e.symm.trans hp)]
    · rw [if_pos (by simpa using hp), lkA_cons, ih, lkA_cons]
      by_cases h : y = k
      · subst h; rw [if_neg hp, if_pos rfl, if_pos rfl]
      · rw [if_neg h, if_neg h]
def leftW (w : Wt) (o : Int) : Wt := w.filter fun x => !decide (x.1 = o)
def leaveS (σ : Sg) (o : Int) : Sg := ⟨fun k => delF (σ.has k) o, fun k => leftW (σ.wait k) o, delF σ.goal o⟩
def leavePl (o : Int) (pl : Pl) : Pl := (pl.1, delA pl.2.1 o, leftW pl.2.2 o)
instance (n : ByteArray) (l : List ByteArray) : Decidable (n ∈ l) := decidable_of_iff ((l.any fun x => decide (x = n)) = true) (by simp)
def leaveAt (o : Int) (pre : List ByteArray) (pl : Pl) : Pl := if pl.1 ∈ pre then leavePl o pl else pl
theorem leaveAt_name (o : Int) (pre : List ByteArray) (pl : Pl) : (leaveAt o pre pl).1 = pl.1 := by unfold leaveAt; split <;> rfl
theorem plOf_leave {o : Int} {n : ByteArray} : ∀ {ps ps' : List MPl}, ps'.map (fun p => p.2.2) = ps.map (fun p => leavePl o p.2.2) → plOf ps' n = (delA (plOf ps n).1 o, leftW (plOf ps n).2 o)
  | [], [], _ => rfl
  | p :: ps, [], h => by cases h
  | [], p :: ps, h => by cases h
  | p :: ps, p' :: ps', h => by
    rw [List.map_cons, List.map_cons] at h
    have h1 := (List.cons.inj h).1
    have h2 := (List.cons.inj h).2
    rw [plOf_cons, plOf_cons, h1, plOf_leave h2]
    show (if p.2.2.1 = n then _ else _) = _
    split <;> rfl
theorem leave_len (o : Int) (pl : Pl) : (leavePl o pl).2.1.length + (leavePl o pl).2.2.length ≤ pl.2.1.length + pl.2.2.length :=
  Nat.add_le_add (List.length_filter_le _ _) (List.length_filter_le _ _)
theorem leaveAt_len (o : Int) (pre : List ByteArray) (pl : Pl) : (leaveAt o pre pl).2.1.length + (leaveAt o pre pl).2.2.length ≤ pl.2.1.length + pl.2.2.length := by
  unfold leaveAt; split
  · exact leave_len o pl
  · exact Nat.le_refl _
theorem view_leave {N : Nat} {σ : Sg} {o : Int} {o1 o2 : Option Nat} {ps ps' : List MPl} {gs : List (Int × ByteArray)} (h : ViewF N σ o1 o2 ps gs) (hp : ps'.map (fun p => p.2.2) = ps.map (fun p => leavePl o p.2.2)) : ViewF N (leaveS σ o) o1 o2 ps' (delA gs o) := by
  obtain ⟨h1, h2, h3, h4, h5, h6, h7⟩ := h
  have hlen : ps'.length = ps.length := by have := congrArg List.length hp; simpa using this
  refine ⟨?_, fun n => ?_, by rw [lkA_delA, ← h3]; rfl, h4, by omega, Nat.le_trans (List.length_filter_le _ _) h6, fun p hpm => ?_⟩
  · have e : ps'.map (fun p : MPl => p.2.2.1) = ps.map (fun p : MPl => p.2.2.1) := by
      have := congrArg (List.map fun pl : Pl => pl.1) hp
      simpa [List.map_map, Function.comp_def, leavePl] using this
    rw [e]; exact h1
  · rw [plOf_leave hp]
    exact ⟨by rw [lkA_delA, ← (h2 n).1]; rfl, by rw [← (h2 n).2]; rfl⟩
  · have : p.2.2 ∈ ps.map (fun p => leavePl o p.2.2) := by rw [← hp]; exact List.mem_map.2 ⟨p, hpm, rfl⟩
    obtain ⟨p0, hp0, he⟩ := List.mem_map.1 this
    rw [← he]
    exact Nat.le_trans (leave_len o p0.2.2) (h7 p0 hp0)
theorem ps_at {ps : List MPl} {k : ByteArray} {v : Value} (h : (k, v) ∈ ps.map entP) : ∃ (ps1 : List MPl) (b : Nat) (u : Value) (m w : Wt) (ps2 : List MPl), ps = ps1 ++ (b, u, k, m, w) :: ps2 ∧ v = .agg #[.map (some b), u] := by
  obtain ⟨p, hp, he⟩ := List.mem_map.1 h
  obtain ⟨ps1, ps2, rfl⟩ := List.append_of_mem hp
  obtain ⟨b, u, n, m, w⟩ := p
  cases he
  exact ⟨ps1, b, u, m, w, ps2, rfl, rfl⟩
theorem upd_ps {ps1 ps2 : List MPl} {b b' : Nat} {u u' : Value} {k : ByteArray} {m m' w w' : Wt} (hn : ((ps1 ++ (b, u, k, m, w) :: ps2).map fun p : MPl => p.2.2.1).Nodup) :
    upd ((ps1 ++ (b, u, k, m, w) :: ps2).map entP) k (.agg #[.map (some b'), u']) = (ps1 ++ (b', u', k, m', w') :: ps2).map entP := by
  rw [List.map_append, List.map_cons] at hn
  have h1 : ∀ p ∈ ps1, p.2.2.1 ≠ k := fun p hp e => (List.nodup_append.1 hn).2.2 p.2.2.1 (List.mem_map.2 ⟨p, hp, rfl⟩) k (by simp) e
  have := upd_hole (ps1 := ps1) (ps2 := ps2) (n := k) (st := some (plV (b, u, k, m, w))) (x := .agg #[.map (some b'), u']) h1 (fun e => by cases e)
  simp only [stale] at this
  rw [List.map_append, List.map_cons]
  simpa [entP, plV] using this
theorem leave_step {o : Int} {ps ps1 ps2 : List MPl} {pre : List ByteArray} {b b' : Nat} {u u' : Value} {k : ByteArray} {m w : Wt} (h : (ps1 ++ (b, u, k, m, w) :: ps2).map (fun p => p.2.2) = ps.map (fun p => leaveAt o pre p.2.2)) (hn : ((ps1 ++ (b, u, k, m, w) :: ps2).map fun p : MPl => p.2.2.1).Nodup) (hk : k ∉ pre) :
    (ps1 ++ (b', u', k, delA m o, leftW w o) :: ps2).map (fun p => p.2.2) = ps.map (fun p => leaveAt o (pre ++ [k]) p.2.2) := by
  have h1 : ps.map (fun p => leaveAt o (pre ++ [k]) p.2.2) = ((ps.map (fun p => leaveAt o pre p.2.2)).map fun pl : Pl => if pl.1 = k then leavePl o pl else pl) := by
    rw [List.map_map]
    apply List.map_congr_left
    intro p _
    simp only [Function.comp]
    unfold leaveAt
    by_cases hp : p.2.2.1 ∈ pre
    · have : p.2.2.1 ≠ k := fun e => hk (by rw [← e]; exact hp)
      rw [if_pos hp, if_pos (by simp [hp]), if_neg (by simpa [leavePl] using this)]
    · rw [if_neg hp]
      by_cases hpk : p.2.2.1 = k
      · rw [if_pos (by simp [hpk]), if_pos hpk]
      · rw [if_neg (by simp [hp, hpk]), if_neg hpk]
  rw [h1, ← h]
  rw [List.map_append, List.map_cons] at hn
  have hd := List.nodup_append.1 hn
  have hd2 := List.nodup_cons.1 hd.2.1
  simp only [List.map_append, List.map_cons, List.map_map, Function.comp_def]
  congr 1
  · apply List.map_congr_left
    intro p hp
    rw [if_neg fun e => hd.2.2 p.2.2.1 (List.mem_map.2 ⟨p, hp, rfl⟩) k (by simp) e]
  · rw [if_pos trivial]
    refine congrArg (List.cons _) (List.map_congr_left fun p hp => ?_)
    rw [if_neg fun e => hd2.1 (List.mem_map.2 ⟨p, hp, e⟩)]
set_option maxRecDepth 100000 in
theorem leaves1_con (c : Nat) (o : Int) (x : Int × Int) :
    Con Try.prog 106 [Value.agg ([Value.int .i64 x.1] ++ [Value.int .i64 x.2]).toArray, .pointer (some ⟨c, 0, none⟩)] [Blk c 3 [.int .i64 o]] (γ := Unit) (fun _ => .bool (decide (x.1 = o))) (fun _ => True) (fun _ => [Blk c 3 [.int .i64 o]]) := by
  refine con_of Try.func106 rfl (dd rfl) fun w0 O0 => ?_
  refine c_seq ?_
  refine c_region ?_
  refine o_step (s_box rfl (dd rfl) (fun b2 => ?_))
  refine o_val (v_assign rfl) (dd rfl) ?_
  refine o_nil ?_
  refine c_seq ?_
  refine c_region ?_
  refine o_val (v_fieldAddrC 0 Try.underlying137 rfl ti3 (by decide) rfl) (dd rfl) ?_
  refine o_val (v_load lone3 rfl (hX (by repeat constructor)) rfl) (dd rfl) ?_
  refine o_val (v_load lone3 rfl (hX (by repeat constructor)) rfl) (dd rfl) ?_
  refine o_val (v_eq rfl rfl) (dd rfl) ?_
  refine o_val (v_assign rfl) (dd rfl) ?_
  refine o_nil ?_
  refine c_ret1 Try.func106 rfl rfl fun w O hS => ?_
  exact ⟨(), rfl, trivial, Ent.get hS (eX (by repeat constructor))⟩
set_option maxRecDepth 100000 in
theorem leaves_con (N t : Nat) (σ : Sg) (o : Int) (hN : N ≤ 50000) :
    Con Try.prog 74 [.pointer (some ⟨t, 0, none⟩), .int .i64 o] [TabA N t σ] (γ := Unit) (fun _ => .tuple #[]) (fun _ => True) (fun _ => [TabA N t (leaveS σ o)]) := by
  refine con_of Try.func74 rfl (dd rfl) fun w0 O0 => ?_
  refine c_tab fun o1 o2 ps gs hv => ?_
  obtain ⟨hnn, h2, h3, h4, h5, h6, h7⟩ := id hv
  refine c_fact (a := MapO kStr o1 (ps.map entP)) (p := o1 = none → ps = []) (.there .here) (fun _ _ h => ps_none h) fun hps => ?_
  refine c_seq ?_
  refine c_region ?_
  refine o_step (s_box rfl (dd rfl) (fun b3 => ?_))
  refine o_nil ?_
  refine c_seq ?_
  refine c_seq ?_
  refine c_region ?_
  refine o_val (v_move rfl) (dd rfl) ?_
  refine o_val (v_nilCheck rfl) (dd rfl) ?_
  refine o_val (v_fieldAddrC 0 Try.underlying75 rfl ti72 (by decide) rfl) (dd rfl) ?_
  refine o_val (v_load lone72 rfl (hX (by repeat constructor)) rfl) (dd rfl) ?_
  refine o_step (s_range_mapO kStr Try.underlying72 rfl (dd rfl) (pX (by repeat constructor)) (fun it10 => ?_))
  refine o_nil ?_
  refine c_block ?_
  refine c_loopR (γ := List ByteArray × List MPl) [(0, _), (3, _)] (fun g => ps.length - g.1.length) (fun g => g.1.Nodup ∧ (∀ y ∈ g.1, y ∈ ps.map fun p : MPl => p.2.2.1) ∧ g.2.map (fun p => p.2.2) = ps.map (fun p => leaveAt o g.1 p.2.2)) (fun _ => [(10, .pointer (some ⟨it10, 0, none⟩))]) (fun g => [MapItO kStr it10 o1 (g.2.map entP) g.1, Blk t 75 [.map o1, .map o2], MapO kInt o2 (gs.map entG), AllA (g.2.map plA), Blk b3 3 [.int .i64 o]]) (([], ps)) (⟨by simp, by simp, by simp [leaveAt]⟩) (by repeat (first | exact trivial | refine ⟨rfl, ?_⟩)) (eX (by repeat constructor)) ?_
  rintro ⟨pre, qs⟩ ⟨hpn, hsub, hqs⟩ IH
  dsimp only at hpn hsub hqs ⊢
  try dsimp only [List.cons_append, List.nil_append]
  refine c_seq ?_
  refine c_region ?_
  refine o_step (s_nextO kStr rfl (dd rfl) (pX (by repeat constructor)) (fun k v hk hn => ?_) (fun hall => ?_))
  · have hnames : qs.map (fun p : MPl => p.2.2.1) = ps.map (fun p : MPl => p.2.2.1) := by
      have := congrArg (List.map fun pl : Pl => pl.1) hqs
      simpa [List.map_map, Function.comp_def, leaveAt_name] using this
    have hnq : (qs.map fun p : MPl => p.2.2.1).Nodup := by rw [hnames]; exact hnn
    have hlen := congrArg List.length hnames
    simp only [List.length_map] at hlen
    obtain ⟨ps1, b, u, m, wq, ps2, rfl, rfl⟩ := ps_at hk
    have hkm : k ∈ ps.map fun p : MPl => p.2.2.1 := by rw [← hnames]; simp
    have hpn' : (pre ++ [k]).Nodup := List.nodup_append.2 ⟨hpn, by simp, fun a ha b hb e => hn (by rw [List.mem_singleton.1 hb] at e; rw [← e]; exact ha)⟩
    have hsub' : ∀ y ∈ pre ++ [k], y ∈ ps.map fun p : MPl => p.2.2.1 := fun y hy => by
      rcases List.mem_append.1 hy with h | h
      · exact hsub y h
      · rw [List.mem_singleton.1 h]; exact hkm
    have hwl : wq.length ≤ 50000 := by
      have h8 : (k, m, wq) ∈ ps.map (fun p => leaveAt o pre p.2.2) := by rw [← hqs]; simp
      obtain ⟨p0, hp0, he⟩ := List.mem_map.1 h8
      have h9 := h7 p0 hp0
      have h10 := leaveAt_len o pre p0.2.2
      rw [he] at h10
      dsimp only at h10; omega
    have hl1 : (pre ++ [k]).length = pre.length + 1 := by simp
    have hple := nodup_le hpn' hsub'
    rw [List.length_map, hl1] at hple
    obtain ⟨c1, rfl⟩ : ∃ c1, o1 = some c1 := by
      cases o1 with
      | some c1 => exact ⟨c1, rfl⟩
      | none => exact absurd (hps rfl) (by intro e; rw [e] at hkm; cases hkm)
    refine o_val (v_extract rfl rfl) (dd rfl) ?_
    refine o_nil ?_
    refine c_seq ?_
    refine c_cond_t rfl ?_
    refine c_skip ?_
    refine c_block ?_
    refine c_seq ?_
    refine c_region ?_
    refine o_ent (L1 := plA (b, u, k, m, wq) :: AllA ((ps1 ++ ps2).map plA) :: [MapItO kStr it10 (some c1) ((ps1 ++ (b, u, k, m, wq) :: ps2).map entP) (pre ++ [k]), Blk t 75 [.map (some c1), .map o2], MapO kInt o2 (gs.map entG), Blk b3 3 [.int .i64 o]]) (Ent.trans (eX (by repeat constructor)) pull_pl) ?_
    refine o_all (As := [MapO kInt (some b) (mInt m), OwnO eW 137 u wq]) ?_
    refine o_val (v_entryO kStr rfl hk (hX (by repeat constructor))) (dd rfl) ?_
    refine o_val (v_extract rfl rfl) (dd rfl) ?_
    refine o_val (v_extract rfl rfl) (dd rfl) ?_
    refine o_step (s_alloc ti135 (dd rfl) (fun b5 => ?_))
    refine o_val (v_assign rfl) (dd rfl) ?_
    refine o_step (s_store_all ti135 rfl rfl (by first | exact CellsV.lit rfl | exact CellsV.one (by first | exact OneC.lit rfl | exact OneC.sl (hX (by repeat constructor)) )) (by repeat (first | exact OneAll.nil | (refine OneAll.cons ?_ ?_; · first | exact OneC.lit rfl | exact OneC.sl (hX (by repeat constructor)) ) | exact OneAll.rd (hX (by repeat constructor)))) rfl (pB (by repeat constructor)) rfl (?_))
    refine o_nil ?_
    refine c_seq ?_
    refine c_region ?_
    refine o_val (v_fieldAddrC 0 Try.underlying135 rfl ti97 (by decide) rfl) (dd rfl) ?_
    refine o_val (v_load lone97 rfl (hX (by repeat constructor)) rfl) (dd rfl) ?_
    refine o_val (v_load lone3 rfl (hX (by repeat constructor)) rfl) (dd rfl) ?_
    refine o_step (s_deleteO kInt rfl Try.underlying97 Try.underlying3 rfl rfl (pX (by repeat constructor)) (?_))
    refine o_nil ?_
    refine c_seq ?_
    refine c_region ?_
    refine o_val (v_fieldAddrC 1 Try.underlying135 rfl ti133 (by decide) rfl) (dd rfl) ?_
    refine o_val (v_load lone133 rfl (hX (by repeat constructor)) rfl) (dd rfl) ?_
    rw [del_mInt]
    refine o_step (s_callf_keep cl85 (clone_Wt eW u wq rfl (by omega)) rfl (dd rfl) (rX (by repeat constructor)) (fun _ => sX) (fun r21 _ => ?_))
    refine o_val (v_makeFunc rfl rfl) (dd rfl) ?_
    refine o_step (s_callf cl105 (deleteFunc_W (p := fun x : Int × Int => decide (x.1 = o)) (R := Blk b3 3 [.int .i64 o]) cl106 r21 wq (fun x _ => leaves1_con b3 o x) (by omega)) rfl (dd rfl) (pXs (by repeat constructor)) fun r23 _ => ?_)
    refine o_val (v_fieldAddrC 1 Try.underlying135 rfl ti133 (by decide) rfl) (dd rfl) ?_
    refine o_step (s_store1 ti133 rfl rfl (by first | exact OneC.lit rfl | exact OneC.sl (hX (by repeat constructor)) ) (pB (by repeat constructor)) (by first | decide | exact Nat.le_of_ble_eq_true rfl | simp) (by first | (dsimp only [List.set_cons_succ, List.set_cons_zero]; first | done | exact rfl) | rfl) (?_))
    refine o_nil ?_
    refine c_held [BlkR t 75 [.map (some c1), .map o2], BlkR b5 135 [.map (some b), r23]] rfl ?_
    refine a_take 0 rfl (by kernel_rfl) (by kernel_rfl) (by kernel_rfl) (v_move rfl) (eX (by repeat constructor)) (dd rfl) ?_
    refine a_take 1 rfl (by kernel_rfl) (by kernel_rfl) (by kernel_rfl) (v_nilCheck rfl) (eX (by repeat constructor)) (dd rfl) ?_
    refine a_take 2 rfl (by kernel_rfl) (by kernel_rfl) (by kernel_rfl) (v_fieldAddrC 0 Try.underlying75 rfl ti72 (by decide) rfl) (eX (by repeat constructor)) (dd rfl) ?_
    refine a_take 3 rfl (by kernel_rfl) (by kernel_rfl) (by kernel_rfl) (v_load lone72 rfl (hX (by repeat constructor)) rfl) (eX (by repeat constructor)) (dd rfl) ?_
    refine a_take 4 rfl (by kernel_rfl) (by kernel_rfl) (by kernel_rfl) (v_move rfl) (eX (by repeat constructor)) (dd rfl) ?_
    refine a_take 5 rfl (by kernel_rfl) (by kernel_rfl) (by kernel_rfl) (v_load_all ⟨_, Try.underlying135⟩ ti135 rfl (hX (by repeat constructor)) rfl) (eX (by repeat constructor)) (dd rfl) ?_
    refine a_one 6 rfl (by kernel_rfl) (s_mapUpdate_it kStr Try.underlying72 Try.underlying9 kStr_sc rfl rfl rfl (pX (by repeat constructor)) (by rw [List.map_map]; exact List.mem_map.2 ⟨(b, u, k, m, wq), by simp, rfl⟩) (a_on (eX (by repeat constructor)) ?_))
    refine a_done (by kernel_rfl) ?_ _
    refine c_inBlock ?_
    rw [upd_ps (m' := delA m o) (w' := leftW wq o) hnq]
    refine c_ent (L' := AllA ((ps1 ++ (b, r23, k, delA m o, leftW wq o) :: ps2).map plA) :: [MapItO kStr it10 (some c1) ((ps1 ++ (b, r23, k, delA m o, leftW wq o) :: ps2).map entP) (pre ++ [k]), Blk t 75 [.map (some c1), .map o2], MapO kInt o2 (gs.map entG), Blk b3 3 [.int .i64 o]]) (Ent.trans (b := MapO kInt (some b) (mInt (delA m o)) :: Own eW 137 r23 (leftW wq o) :: AllA ((ps1 ++ ps2).map plA) :: [MapItO kStr it10 (some c1) ((ps1 ++ (b, r23, k, delA m o, leftW wq o) :: ps2).map entP) (pre ++ [k]), Blk t 75 [.map (some c1), .map o2], MapO kInt o2 (gs.map entG), Blk b3 3 [.int .i64 o]]) (eX (by repeat constructor)) (Ent.trans (Ent.cons (Ent.head fun _ _ h => OwnO.of encF_W h)) (Ent.trans pl_mk push_pl))) ?_
    refine c_use (IH ((pre ++ [k], ps1 ++ (b, r23, k, delA m o, leftW wq o) :: ps2)) (by first | omega | (dsimp only; omega)) (⟨hpn', hsub', leave_step hqs hnq hn⟩)) (by repeat (first | exact trivial | refine ⟨rfl, ?_⟩)) (eX (by repeat constructor))
  · have hqa : qs.map (fun p => p.2.2) = ps.map (fun p => leavePl o p.2.2) := by
      rw [hqs]
      apply List.map_congr_left
      intro p hp
      have hnames : qs.map (fun p : MPl => p.2.2.1) = ps.map (fun p : MPl => p.2.2.1) := by
        have := congrArg (List.map fun pl : Pl => pl.1) hqs
        simpa [List.map_map, Function.comp_def, leaveAt_name] using this
      unfold leaveAt
      rw [if_pos]
      refine hall p.2.2.1 ?_
      rw [List.map_map, show ((fun p : ByteArray × Value => p.1) ∘ entP) = fun p : MPl => p.2.2.1 from rfl, hnames]
      exact List.mem_map.2 ⟨p, hp, rfl⟩
    refine o_val (v_extract rfl rfl) (dd rfl) ?_
    refine o_nil ?_
    refine c_seq ?_
    refine c_cond_f rfl ?_
    refine c_exit rfl ?_
    refine c_held [BlkR t 75 [.map o1, .map o2], BlkR b3 3 [.int .i64 o]] rfl ?_
    refine a_take 0 rfl (by kernel_rfl) (by kernel_rfl) (by kernel_rfl) (v_move rfl) (eX (by repeat constructor)) (dd rfl) ?_
    refine a_take 1 rfl (by kernel_rfl) (by kernel_rfl) (by kernel_rfl) (v_nilCheck rfl) (eX (by repeat constructor)) (dd rfl) ?_
    refine a_take 2 rfl (by kernel_rfl) (by kernel_rfl) (by kernel_rfl) (v_fieldAddrC 1 Try.underlying75 rfl ti73 (by decide) rfl) (eX (by repeat constructor)) (dd rfl) ?_
    refine a_take 3 rfl (by kernel_rfl) (by kernel_rfl) (by kernel_rfl) (v_load lone73 rfl (hX (by repeat constructor)) rfl) (eX (by repeat constructor)) (dd rfl) ?_
    refine a_take 4 rfl (by kernel_rfl) (by kernel_rfl) (by kernel_rfl) (v_load lone3 rfl (hX (by repeat constructor)) rfl) (eX (by repeat constructor)) (dd rfl) ?_
    refine a_one 5 rfl (by kernel_rfl) (s_deleteO kInt rfl Try.underlying73 Try.underlying3 rfl rfl (pX (by repeat constructor)) (a_on (eX (by repeat constructor)) ?_))
    refine a_done (by kernel_rfl) ?_ _
    refine c_end0 Try.func74 rfl fun w O hS => ?_
    rw [del_entG] at hS
    exact ⟨(), rfl, trivial, Ent.get (Ent.get hS (eX (by repeat constructor))) (tab_mk (view_leave hv hqa))⟩
end Go.Proofs.Ytnamhhmfnokfiaa
/- Chapter 12: who waits is served. -/
namespace Go.Proofs.Ytnamhhmfnokfiaa
open Go Go.SL
/-- The queue of a name is served, from its head on, while it may be. -/
inductive Serve : (Int → Option Int) → Wt → (Int → Option Int) → Wt → List Int → Prop
  | nil {f : Int → Option Int} : Serve f [] f [] []
  | bar {f : Int → Option Int} {x : Int × Int} {w : Wt} (h : ¬ mayP f x.1 x.2) : Serve f (x :: w) f (x :: w) []
  | go {f f' : Int → Option Int} {x : Int × Int} {w w' : Wt} {out : List Int} (h : mayP f x.1 x.2) (t : Serve (updF f x.1 x.2) w f' w' out) : Serve f (x :: w) f' w' (x.1 :: out)
def delsF {β : Type} (f : Int → Option β) (l : List Int) : Int → Option β := fun y => if y ∈ l then none else f y
def Sg.served (σ : Sg) (n : ByteArray) (f : Int → Option Int) (w : Wt) (out : List Int) : Sg := (σ.put n f w).wgoal (delsF σ.goal out)
inductive ServeAll : Sg → List ByteArray → Sg → List Int → Prop
  | nil {σ : Sg} : ServeAll σ [] σ []
  | cons {σ σ' : Sg} {n : ByteArray} {ns : List ByteArray} {f : Int → Option Int} {w : Wt} {out outs : List Int} (h : Serve (σ.has n) (σ.wait n) f w out) (t : ServeAll (σ.served n f w out) ns σ' outs) : ServeAll σ (n :: ns) σ' (out ++ outs)
def FreeP (σ : Sg) (o : Int) (σ' : Sg) (l : List Int) : Prop := ∃ ns outs, ns.Nodup ∧ (∀ n, n ∉ ns → (leaveS σ o).wait n = []) ∧ ServeAll (leaveS σ o) ns σ' outs ∧ l = setI outs
theorem Sg.ext' {σ τ : Sg} (h1 : σ.has = τ.has) (h2 : σ.wait = τ.wait) (h3 : σ.goal = τ.goal) : σ = τ := by
  cases σ; cases τ; cases h1; cases h2; cases h3; rfl
theorem served_self (σ : Sg) (n : ByteArray) : σ.served n (σ.has n) (σ.wait n) [] = σ :=
  Sg.ext' (funext fun k => by simp only [Sg.served, Sg.put, Sg.wgoal]; split <;> simp_all) (funext fun k => by simp only [Sg.served, Sg.put, Sg.wgoal]; split <;> simp_all) (funext fun k => by simp [Sg.served, Sg.put, Sg.wgoal, delsF])
theorem serveAll_app {σ σ1 σ2 : Sg} {ns ms : List ByteArray} {o1 o2 : List Int} (h : ServeAll σ ns σ1 o1) (k : ServeAll σ1 ms σ2 o2) : ServeAll σ (ns ++ ms) σ2 (o1 ++ o2) := by
  induction h with
  | nil => exact k
  | cons h _ ih => rw [List.cons_append, List.append_assoc]; exact .cons h (ih k)
theorem sortS_perm (xs : List ByteArray) : (sortS xs).Perm xs := by
  unfold sortS
  have := (List.mergeSort_perm (xs.map sbs) (fun x y => decide (x ≤ y))).map bss
  rw [map_bss_sbs] at this; exact this
theorem lkA_none {m : Wt} (h : lkA m = lkA []) : m = [] := by
  cases m with
  | nil => rfl
  | cons q m =>
    have := congrFun h q.1
    rw [lkA_cons, if_pos rfl, lkA_nil] at this; cases this
attribute [local irreducible] Cfg Kont StepK Val Con Qops Any Sl Own Blk BlkR Rd Pu ExA AllA Has Pick Ent Elem Beside Callable TI Lone OwnO AndA
set_option maxRecDepth 100000 in
theorem put0_con (N t : Nat) (σ : Sg) (n : ByteArray) (hh : σ.has n = lkA []) (hwt : σ.wait n = []) :
    Con Try.prog 78 [.pointer (some ⟨t, 0, none⟩), .string n, .agg #[.map none, .slice none 0 0]] [TabA N t σ] (γ := Unit) (fun _ => .tuple #[]) (fun _ => True) (fun _ => [TabA N t σ]) := by
  refine con_of Try.func78 rfl (dd rfl) fun w0 O0 => ?_
  refine c_tab fun o1 o2 ps gs hv => ?_
  refine c_ent (L' := MapO kInt none [] :: OwnO eW 137 (.slice none 0 0) [] :: [Blk t 75 [.map o1, .map o2], MapO kStr o1 (ps.map entP), MapO kInt o2 (gs.map entG), AllA (ps.map plA)]) (Ent.trans (Ent.beside fun w O _ => OwnO.nil w _) (Ent.pu (p := ([] : List (Int × Value)) = []) rfl)) ?_
  refine c_seq ?_
  refine c_region ?_
  refine o_step (s_box rfl (dd rfl) (fun b5 => ?_))
  refine o_nil ?_
  refine c_seq ?_
  refine c_seq ?_
  refine c_region ?_
  refine o_val (v_fieldAddrC 0 Try.underlying135 rfl ti97 (by decide) rfl) (dd rfl) ?_
  refine o_val (v_load lone97 rfl (hX (by repeat constructor)) rfl) (dd rfl) ?_
  refine o_val (v_len_mapO kInt Try.underlying97 rfl (hX (by repeat constructor))) (dd rfl) ?_
  refine o_val (v_eq rfl rfl) (dd rfl) ?_
  refine o_val (v_move rfl) (dd rfl) ?_
  refine o_on rfl rfl ?_
  refine o_val (v_fieldAddrC 1 Try.underlying135 rfl ti133 (by decide) rfl) (dd rfl) ?_
  refine o_on rfl rfl ?_
  refine o_val (v_load lone133 rfl (hX (by repeat constructor)) rfl) (dd rfl) ?_
  refine o_on rfl rfl ?_
  refine o_val ((by first | exact v_len_form Try.underlying133 rfl | exact v_len_sl Try.underlying133 rfl (hX (by repeat constructor)))) (dd rfl) ?_
  refine o_on rfl rfl ?_
  refine o_val (v_eq rfl rfl) (dd rfl) ?_
  refine o_val (v_pick_t rfl rfl) (dd rfl) ?_
  refine o_nil ?_
  refine c_cond_t rfl ?_
  refine c_seq ?_
  refine c_region ?_
  refine o_val (v_move rfl) (dd rfl) ?_
  refine o_val (v_nilCheck rfl) (dd rfl) ?_
  refine o_val (v_fieldAddrC 0 Try.underlying75 rfl ti72 (by decide) rfl) (dd rfl) ?_
  refine o_val (v_load lone72 rfl (hX (by repeat constructor)) rfl) (dd rfl) ?_
  refine o_val (v_move rfl) (dd rfl) ?_
  refine o_step (s_deleteO kStr rfl Try.underlying72 Try.underlying9 rfl rfl (pX (by repeat constructor)) (?_))
  refine o_nil ?_
  refine c_ret0 Try.func78 rfl fun w O hS => ?_
  rcases look_pl ps n with ⟨-, hn⟩ | ⟨ps1, p, ps2, rfl, hp, -⟩
  · rw [del_ne hn] at hS
    exact ⟨(), rfl, trivial, Ent.get (Ent.get hS (eX (by repeat constructor))) (tab_mk hv)⟩
  · obtain ⟨h1, h2, h3, h4, h5, h6, h7⟩ := hv
    obtain ⟨b, v, n', m, wq⟩ := p
    dsimp only at hp
    subst hp
    rw [List.map_append, List.map_cons] at h1
    have hd := List.nodup_append.1 h1
    have hd2 := List.nodup_cons.1 hd.2.1
    have hne : ∀ q ∈ ps1 ++ ps2, q.2.2.1 ≠ n' := fun q hq e => by
      rcases List.mem_append.1 hq with h | h
      · exact hd.2.2 q.2.2.1 (List.mem_map.2 ⟨q, h, rfl⟩) n' (by simp) e
      · exact hd2.1 (List.mem_map.2 ⟨q, h, e⟩)
    have hat := plOf_mid (p := (b, v, n', m, wq)) (ps1 := ps1) (ps2 := ps2) fun q hq => hne q (List.mem_append_left _ hq)
    dsimp only at hat
    have hm := (h2 n').1
    have hwq := (h2 n').2
    rw [hat] at hm hwq
    rw [hh] at hm
    rw [hwt] at hwq
    obtain rfl : m = [] := lkA_none hm.symm
    obtain rfl : wq = [] := hwq.symm
    have hdel : del ((ps1 ++ (b, v, n', [], []) :: ps2).map entP) n' = (ps1 ++ ps2).map entP := by
      have := del_hole (st := some (plV (b, v, n', [], []))) hne
      simpa [stale, entP] using this
    rw [hdel] at hS
    refine ⟨(), rfl, trivial, Ent.get (Ent.get hS (L' := AllA ((ps1 ++ (b, v, n', [], []) :: ps2).map plA) :: [Blk t 75 [.map o1, .map o2], MapO kStr o1 ((ps1 ++ ps2).map entP), MapO kInt o2 (gs.map entG)]) (eX (by repeat constructor))) (Ent.trans (Ent.trans pull_pl Ent.drop) (Ent.trans (eX (by repeat constructor)) (tab_mk (o1 := o1) (o2 := o2) (ps := ps1 ++ ps2) (gs := gs) ⟨?_, fun k => ?_, h3, h4, ?_, h6, fun q hq => h7 q ?_⟩)))⟩
    · rw [List.map_append]
      exact List.nodup_append.2 ⟨hd.1, hd2.2, fun a ha b hb => hd.2.2 a ha b (List.mem_cons_of_mem _ hb)⟩
    · by_cases hk : k = n'
      · subst hk
        rw [plOf_none hne]; exact ⟨hh, hwt⟩
      · have := h2 k
        rw [plOf_skip (p := (b, v, n', [], [])) (Ne.symm hk)] at this; exact this
    · simp at h5 ⊢; omega
    · rcases List.mem_append.1 hq with h | h <;> simp [h]
end Go.Proofs.Ytnamhhmfnokfiaa
/- Chapter 12: Free of the table. -/
namespace Go.Proofs.Ytnamhhmfnokfiaa
open Go Go.SL
theorem delsF_snoc {β : Type} (f : Int → Option β) (l : List Int) (x : Int) : delF (delsF f l) x = delsF f (l ++ [x]) := funext fun y => by
  unfold delF delsF
  by_cases h : y = x
  · subst h; simp
  · rw [if_neg h]
    by_cases h2 : y ∈ l
    · rw [if_pos h2, if_pos (by simp [h2])]
    · rw [if_neg h2, if_neg (by simp [h, h2])]
theorem delA_len {κ β : Type} [DecidableEq κ] (m : List (κ × β)) (k : κ) : (delA m k).length ≤ m.length := List.length_filter_le _ _
/-- Behind the first ones of a queue. -/
def ServeJ (f0 : Int → Option Int) (w0 : Wt) (m : Wt) (w : Wt) (out : List Int) : Prop := ∀ f' w' out', Serve (lkA m) w f' w' out' → Serve f0 w0 f' w' (out ++ out')
theorem serveJ_0 {m w : Wt} : ServeJ (lkA m) w m w [] := fun _ _ _ h => h
theorem serveJ_go {f0 : Int → Option Int} {w0 m w : Wt} {x : Int × Int} {out : List Int} (h : ServeJ f0 w0 m (x :: w) out) (hn : (m.map fun q : Int × Int => q.1).Nodup) (hm : mayL m (x.1, x.2) = true) : ServeJ f0 w0 (updA m x.1 x.2) w (out ++ [x.1]) := fun f' w' out' k => by
  have := h f' w' (x.1 :: out') (.go ((mayL_iff hn x.1 x.2).1 hm) (by rw [← lkA_updF]; exact k))
  simpa using this
theorem serveJ_nil {f0 : Int → Option Int} {w0 m : Wt} {out : List Int} (h : ServeJ f0 w0 m [] out) : Serve f0 w0 (lkA m) [] out := by simpa using h _ _ _ .nil
theorem serveJ_bar {f0 : Int → Option Int} {w0 m w : Wt} {x : Int × Int} {out : List Int} (h : ServeJ f0 w0 m (x :: w) out) (hn : (m.map fun q : Int × Int => q.1).Nodup) (hm : mayL m (x.1, x.2) = false) : Serve f0 w0 (lkA m) (x :: w) out := by
  simpa using h _ _ _ (.bar fun k => by rw [(mayL_iff hn x.1 x.2).2 k] at hm; cases hm)
def FreeJ (σ0 : Sg) (ns : List ByteArray) (i : Nat) (σ : Sg) (outs : List Int) : Prop := ∀ σ' outs', ServeAll σ (ns.drop i) σ' outs' → ServeAll σ0 ns σ' (outs ++ outs')
theorem freeJ_0 (σ : Sg) (ns : List ByteArray) : FreeJ σ ns 0 σ [] := fun _ _ h => h
theorem freeJ_step {σ0 σ : Sg} {ns : List ByteArray} {i : Nat} {outs out : List Int} {f : Int → Option Int} {w : Wt} (h : FreeJ σ0 ns i σ outs) (hi : i < ns.length) (hs : Serve (σ.has ns[i]) (σ.wait ns[i]) f w out) : FreeJ σ0 ns (i + 1) (σ.served ns[i] f w out) (outs ++ out) := fun σ' outs' k => by
  have := h σ' (out ++ outs') (by rw [List.drop_eq_getElem_cons hi]; exact .cons hs k)
  rw [List.append_assoc]; exact this
theorem freeJ_end {σ0 σ : Sg} {ns : List ByteArray} {outs : List Int} (h : FreeJ σ0 ns ns.length σ outs) : ServeAll σ0 ns σ outs := by
  have := h σ [] (by rw [List.drop_length]; exact .nil)
  simpa using this
theorem hole_goal {N : Nat} {σ : Sg} {n : ByteArray} {o1 o2 : Option Nat} {es : List (ByteArray × Value)} {ps : List MPl} {gs gs' : List (Int × ByteArray)} {g : Int → Option ByteArray} (h : HoleF N σ n o1 o2 es ps gs) (hg : g = lkA gs') (hl : gs'.length ≤ N) : HoleF N (σ.wgoal g) n o1 o2 es ps gs' := by
  obtain ⟨h1, h2, h3, h4, h5, h6, h7, h8, h9, h10⟩ := h
  exact ⟨h1, h2, h3, h4, hg, h6, h7, h8, hl, h10⟩
attribute [local irreducible] Cfg Kont StepK Val Con Qops Any Sl Own Blk BlkR Rd Pu ExA AllA Has Pick Ent Elem Beside Callable TI Lone OwnO AndA
set_option maxRecDepth 100000 in
theorem free_con (N t : Nat) (σ : Sg) (o : Int) (hN : N ≤ 1000) :
    Con Try.prog 45 [.pointer (some ⟨t, 0, none⟩), .int .i64 o] [TabA N t σ] (γ := Value × Sg × List Int) (fun r => r.1) (fun r => FreeP σ o r.2.1 r.2.2) (fun r => [Own (eInt .i64) 3 r.1 r.2.2, TabA N t r.2.1]) := by
  refine con_of Try.func45 rfl (dd rfl) fun w0 O0 => ?_
  refine c_seq ?_
  refine c_region ?_
  refine o_val (v_assign rfl) (dd rfl) ?_
  refine o_nil ?_
  refine c_seq ?_
  refine c_region ?_
  refine o_val (v_move rfl) (dd rfl) ?_
  refine o_val (v_move rfl) (dd rfl) ?_
  refine o_step (s_callf cl74 (leaves_con N t σ o (by omega)) rfl (dd rfl) (pXs (by repeat constructor)) fun _ _ => ?_)
  refine o_nil ?_
  refine c_seq ?_
  refine c_region ?_
  refine o_val (v_assign rfl) (dd rfl) ?_
  refine o_nil ?_
  refine c_seq ?_
  refine c_seq ?_
  refine c_tab fun o1 o2 ps gs hv => ?_
  obtain ⟨hnn, h2, h3, h4, h5, h6, h7⟩ := id hv
  have hml : (ps.map entP).length = ps.length := List.length_map _
  refine c_region ?_
  refine o_val (v_move rfl) (dd rfl) ?_
  refine o_val (v_nilCheck rfl) (dd rfl) ?_
  refine o_val (v_fieldAddrC 0 Try.underlying75 rfl ti72 (by decide) rfl) (dd rfl) ?_
  refine o_val (v_load lone72 rfl (hX (by repeat constructor)) rfl) (dd rfl) ?_
  refine o_step (s_callf_keep cl76 (keys_P o1) rfl (dd rfl) (rX (by repeat constructor)) (fun _ => sX) (fun c17 _ => ?_))
  refine o_step (s_callf cl75 (sorted_S cl109 (keysIter_P c17 o1 (ps.map entP)) (fun pre x hx => by have := nxK_len hx; omega) (fun pre hf => by have := finK_len hf; omega)) rfl (dd rfl) (pXs (by repeat constructor)) fun r hr => ?_)
  refine o_val ((by first | exact v_len_form Try.underlying30 rfl | exact v_len_sl Try.underlying30 rfl (hX (by repeat constructor)))) (dd rfl) ?_
  refine o_val (v_move rfl) (dd rfl) ?_
  refine o_nil ?_
  refine c_block ?_
  obtain ⟨rv, ns⟩ := r
  obtain ⟨pre, hf, hr⟩ := hr
  dsimp only at hr ⊢
  have hperm := sortS_perm pre
  rw [← hr] at hperm
  have hnsn : ns.Nodup := hperm.nodup_iff.2 hf.1
  have hnsl : ns.length ≤ N := by have := finK_len hf; rw [hperm.length_eq]; omega
  have hnsw : ∀ n, n ∉ ns → (leaveS σ o).wait n = [] := fun n hn => by
    rw [(h2 n).2, plOf_none fun p hp e => hn (hperm.mem_iff.2 (hf.2.2 n (by rw [List.map_map]; exact List.mem_map.2 ⟨p, hp, e⟩)))]
  refine c_ent (L' := Own (eInt .i64) 3 (.slice none 0 0) ([] : List Int) :: TabA N t (leaveS σ o) :: [Own eStr 9 rv ns]) (Ent.trans (Ent.trans (eX (by repeat constructor)) (tab_mk (L := [Own eStr 9 rv ns]) hv)) (Ent.beside fun w O _ => Own.nil (eInt .i64) 3 w _)) ?_
  refine c_loopR (γ := Nat × Sg × Value × List Int) [(0, _), (4, _)] (fun g => ns.length - g.1) (fun g => g.1 ≤ ns.length ∧ FreeJ (leaveS σ o) ns g.1 g.2.1 g.2.2.2 ∧ g.2.2.2.length ≤ g.1 * 1000) (fun g => [(20, .int .i64 g.1), (18, rv), (19, .int .i64 ns.length), (5, g.2.2.1)]) (fun g => [TabA N t g.2.1, Own (eInt .i64) 3 g.2.2.1 g.2.2.2, Own eStr 9 rv ns]) ((0, leaveS σ o, .slice none 0 0, [])) (⟨Nat.zero_le _, freeJ_0 _ _, Nat.zero_le _⟩) (by repeat (first | exact trivial | refine ⟨rfl, ?_⟩)) (eX (by repeat constructor)) ?_
  rintro ⟨i, τ, u, outs⟩ ⟨hi, hJ, hol⟩ IH
  dsimp only at hi hJ hol ⊢
  try dsimp only [List.cons_append, List.nil_append]
  refine c_seq ?_
  refine c_region ?_
  refine o_val (v_lt rfl rfl) (dd rfl) ?_
  refine o_nil ?_
  refine c_seq ?_
  refine c_cond_p rfl (fun hlt => ?_) (fun hlt => ?_)
  · have hi' : i < ns.length := by omega
    refine c_skip ?_
    refine c_seq ?_
    refine c_block ?_
    refine c_seq ?_
    refine c_region ?_
    refine o_val ((by first | exact v_indexAddrN Try.underlying30 ti9 rfl rfl (hX (by repeat constructor)) (by omega) | exact v_indexAddr Try.underlying30 ti9 rfl rfl (hX (by repeat constructor)) (by omega))) (dd rfl) ?_
    refine o_val (v_load_str lone9 rfl (by repeat (first | exact Elem.sl (List.getElem?_eq_getElem (by omega)) | exact Elem.own (List.getElem?_eq_getElem (by omega)) | exact Elem.ownO (List.getElem?_eq_getElem (by omega)) | apply Elem.there))) (dd rfl) ?_
    refine o_val (v_assign rfl) (dd rfl) ?_
    refine o_nil ?_
    refine c_seq ?_
    refine c_tab_at (ns[i]'hi') fun o1 o2 es gs ob v m wq R hl hm hw hG hmw hgN hno hoo hnd hemp hcl hch => ?_
    subst hw
    unfold plZ at hl
    refine c_region ?_
    refine o_val (v_move rfl) (dd rfl) ?_
    refine o_val (v_nilCheck rfl) (dd rfl) ?_
    refine o_val (v_fieldAddrC 0 Try.underlying75 rfl ti72 (by decide) rfl) (dd rfl) ?_
    refine o_val (v_load lone72 rfl (hX (by repeat constructor)) rfl) (dd rfl) ?_
    refine o_val (v_move rfl) (dd rfl) ?_
    refine o_val (v_lookupO kStr Try.underlying72 Try.underlying9 ti135 rfl rfl (hX (by repeat constructor))) (dd rfl) ?_
    try simp only [hl, Option.getD_none, Option.getD_some, Option.isSome_none, Option.isSome_some]
    refine o_step (s_alloc ti135 (dd rfl) (fun b8 => ?_))
    refine o_step (s_store_all ti135 rfl rfl (by first | exact CellsV.lit rfl | exact CellsV.one (by first | exact OneC.lit rfl | exact OneC.sl (hX (by repeat constructor)) )) (by repeat (first | exact OneAll.nil | (refine OneAll.cons ?_ ?_; · first | exact OneC.lit rfl | exact OneC.sl (hX (by repeat constructor)) ) | exact OneAll.rd (hX (by repeat constructor)))) rfl (pB (by repeat constructor)) rfl (?_))
    refine o_nil ?_
    refine c_seq ?_
    refine c_block ?_
    cases ob with
    | none =>
      obtain ⟨rfl, hw0, rfl⟩ := hno rfl
      refine c_loopR (γ := Unit) [(0, _), (4, _), (5, _), (7, _), (8, _), (18, _), (19, _), (20, _), (21, _), (22, _), (23, _), (24, _), (25, _), (26, _), (27, _), (28, _), (29, _)] (fun _ => 0) (fun _ => True) (fun _ => []) (fun _ => [TabA N t τ, Blk b8 135 [.map none, .slice none 0 0], Own (eInt .i64) 3 u outs, Own eStr 9 rv ns]) (()) (trivial) (by repeat (first | exact trivial | refine ⟨rfl, ?_⟩)) (Ent.trans (Ent.trans (eX (by repeat constructor)) (ent_app (L := [Blk b8 135 [.map none, .slice none 0 0], Own (eInt .i64) 3 u outs, Own eStr 9 rv ns]) hcl)) (Ent.refl _)) ?_
      rintro ⟨⟩ - IH2
      try dsimp only [List.cons_append, List.nil_append]
      refine c_seq ?_
      refine c_seq ?_
      refine c_held [BlkR b8 135 [.map none, .slice none 0 0]] rfl ?_
      refine a_take 0 rfl (by kernel_rfl) (by kernel_rfl) (by kernel_rfl) (v_fieldAddrC 1 Try.underlying135 rfl ti133 (by decide) rfl) (eX (by repeat constructor)) (dd rfl) ?_
      refine a_take 1 rfl (by kernel_rfl) (by kernel_rfl) (by kernel_rfl) (v_load lone133 rfl (hX (by repeat constructor)) rfl) (eX (by repeat constructor)) (dd rfl) ?_
      refine a_take 2 rfl (by kernel_rfl) (by kernel_rfl) (by kernel_rfl) ((by first | exact v_len_form Try.underlying133 rfl | exact v_len_sl Try.underlying133 rfl (hX (by repeat constructor)))) (eX (by repeat constructor)) (dd rfl) ?_
      refine a_take 3 rfl (by kernel_rfl) (by kernel_rfl) (by kernel_rfl) (v_gt rfl rfl) (eX (by repeat constructor)) (dd rfl) ?_
      refine a_take 4 rfl (by kernel_rfl) (by kernel_rfl) (by kernel_rfl) (v_move rfl) (eX (by repeat constructor)) (dd rfl) ?_
      refine a_know (s := 34) rfl (show _ = Value.bool false from rfl) ?_
      refine a_take_off 5 rfl rfl rfl rfl (by kernel_rfl) (by kernel_rfl) (by kernel_rfl) (eX (by repeat constructor)) (dd rfl) ?_
      refine a_take_off 6 rfl rfl rfl rfl (by kernel_rfl) (by kernel_rfl) (by kernel_rfl) (eX (by repeat constructor)) (dd rfl) ?_
      refine a_take_off 7 rfl rfl rfl rfl (by kernel_rfl) (by kernel_rfl) (by kernel_rfl) (eX (by repeat constructor)) (dd rfl) ?_
      refine a_take_off 8 rfl rfl rfl rfl (by kernel_rfl) (by kernel_rfl) (by kernel_rfl) (eX (by repeat constructor)) (dd rfl) ?_
      refine a_take_off 9 rfl rfl rfl rfl (by kernel_rfl) (by kernel_rfl) (by kernel_rfl) (eX (by repeat constructor)) (dd rfl) ?_
      refine a_take_off 10 rfl rfl rfl rfl (by kernel_rfl) (by kernel_rfl) (by kernel_rfl) (eX (by repeat constructor)) (dd rfl) ?_
      refine a_take 11 rfl (by kernel_rfl) (by kernel_rfl) (by kernel_rfl) (v_pick_f rfl rfl) (eX (by repeat constructor)) (dd rfl) ?_
      refine a_done (by kernel_rfl) ?_ _
      refine c_cond_f rfl ?_
      refine c_exit rfl ?_
      refine c_region ?_
      refine o_val (v_move rfl) (dd rfl) ?_
      refine o_val (v_move rfl) (dd rfl) ?_
      refine o_val (v_load_all ⟨_, Try.underlying135⟩ ti135 rfl (hX (by repeat constructor)) rfl) (dd rfl) ?_
      refine o_step (s_callf cl78 (put0_con N t τ (ns[i]'hi') hm hw0) rfl (dd rfl) (pXs (by repeat constructor)) fun _ _ => ?_)
      refine o_nil ?_
      refine c_inBlock ?_
      refine c_region ?_
      refine o_val ((by first | exact v_add64 rfl rfl (by omega) | exact v_add rfl rfl)) (dd rfl) ?_
      refine o_val (v_move rfl) (dd rfl) ?_
      refine o_nil ?_
      have hsv := freeJ_step hJ hi' (f := τ.has (ns[i]'hi')) (w := τ.wait (ns[i]'hi')) (out := []) (by rw [hw0]; exact .nil)
      rw [served_self, List.append_nil] at hsv
      refine c_use (IH ((i + 1, τ, u, outs)) (by first | omega | (dsimp only; omega)) (⟨by dsimp only; omega, hsv, by dsimp only; omega⟩)) (by repeat (first | exact trivial | refine ⟨rfl, ?_⟩)) (eX (by repeat constructor))
    | some b =>
      cases o1 with
      | none =>
        refine c_pu (p := es = []) (.there (.there .here)) fun hes => ?_
        rw [hes] at hl; cases hl
      | some c1 =>
      rw [if_neg (by simp)] at hch
      skip
      refine c_ent (L' := TabH N t τ (ns[i]'hi') :: [MapO kInt (some b) (mInt m), OwnO eW 137 v (τ.wait (ns[i]'hi')), Blk b8 135 [.map (some b), v], Own (eInt .i64) 3 u outs, Own eStr 9 rv ns]) (Ent.trans (eX (by repeat constructor)) (ent_app (L := [MapO kInt (some b) (mInt m), OwnO eW 137 v (τ.wait (ns[i]'hi')), Blk b8 135 [.map (some b), v], Own (eInt .i64) 3 u outs, Own eStr 9 rv ns]) (hch (by simp)))) ?_
      refine c_hole fun p1 p2 fs ps' gs0 hh => ?_
      obtain ⟨-, -, -, -, k5, k6, k7, k8, k9, k10⟩ := id hh
      refine c_loopR (γ := Wt × Wt × Value × List (Int × ByteArray) × Value × List Int) [(0, _), (4, _), (7, _), (8, _), (18, _), (19, _), (20, _), (21, _), (22, _), (23, _), (24, _), (25, _), (26, _), (27, _), (28, _), (29, _)] (fun g => g.2.1.length) (fun g => ServeJ (τ.has (ns[i]'hi')) (τ.wait (ns[i]'hi')) g.1 g.2.1 g.2.2.2.2.2 ∧ g.1.length + g.2.1.length ≤ N ∧ g.2.2.2.2.2.length + g.2.1.length ≤ N ∧ lkA g.2.2.2.1 = delsF τ.goal g.2.2.2.2.2 ∧ g.2.2.2.1.length ≤ N) (fun g => [(5, g.2.2.2.2.1)]) (fun g => [Blk t 75 [.map p1, .map p2], MapO kStr p1 fs, MapO kInt p2 (g.2.2.2.1.map entG), AllA (ps'.map plA), MapO kInt (some b) (mInt g.1), OwnO eW 137 g.2.2.1 g.2.1, Blk b8 135 [.map (some b), g.2.2.1], Own (eInt .i64) 3 g.2.2.2.2.1 (outs ++ g.2.2.2.2.2), Own eStr 9 rv ns]) ((m, τ.wait (ns[i]'hi'), v, gs0, u, [])) (⟨by rw [hm]; exact serveJ_0, hmw, by simp only [List.length_nil]; omega, by rw [← k5]; funext y; simp [delsF], k9⟩) (by repeat (first | exact trivial | refine ⟨rfl, ?_⟩)) (by rw [List.append_nil]; exact (eX (by repeat constructor))) ?_
      rintro ⟨m', w', v', gs', u', out⟩ ⟨j1, j2, j3, j4, j5⟩ IH2
      dsimp only at j1 j2 j3 j4 j5 ⊢
      refine c_fact (a := MapO kInt (some b) (mInt m')) (p := (m'.map fun q : Int × Int => q.1).Nodup) (hX (by repeat constructor)) (fun _ _ => mapO_nodup) fun hnd' => ?_
      refine c_fact (a := OwnO eW 137 v' w') (p := ∃ a0 cap, v' = .slice a0 w'.length cap ∧ w'.length ≤ cap ∧ cap ≤ maxLen) (hX (by repeat constructor)) (fun _ _ => OwnO.form) fun ⟨a0, cap, hv', hcap, _⟩ => ?_
      subst hv'
      cases w' with
      | nil =>
        try dsimp only [List.cons_append, List.nil_append]
        refine c_seq ?_
        refine c_seq ?_
        refine c_held [BlkR b8 135 [.map (some b), .slice a0 ([] : Wt).length cap]] rfl ?_
        refine a_take 0 rfl (by kernel_rfl) (by kernel_rfl) (by kernel_rfl) (v_fieldAddrC 1 Try.underlying135 rfl ti133 (by decide) rfl) (eX (by repeat constructor)) (dd rfl) ?_
        refine a_take 1 rfl (by kernel_rfl) (by kernel_rfl) (by kernel_rfl) (v_load lone133 rfl (hX (by repeat constructor)) rfl) (eX (by repeat constructor)) (dd rfl) ?_
        refine a_take 2 rfl (by kernel_rfl) (by kernel_rfl) (by kernel_rfl) ((by first | exact v_len_form Try.underlying133 rfl | exact v_len_sl Try.underlying133 rfl (hX (by repeat constructor)))) (eX (by repeat constructor)) (dd rfl) ?_
        refine a_take 3 rfl (by kernel_rfl) (by kernel_rfl) (by kernel_rfl) (v_gt rfl rfl) (eX (by repeat constructor)) (dd rfl) ?_
        refine a_take 4 rfl (by kernel_rfl) (by kernel_rfl) (by kernel_rfl) (v_move rfl) (eX (by repeat constructor)) (dd rfl) ?_
        refine a_know (s := 34) rfl (show _ = Value.bool false from rfl) ?_
        refine a_take_off 5 rfl rfl rfl rfl (by kernel_rfl) (by kernel_rfl) (by kernel_rfl) (eX (by repeat constructor)) (dd rfl) ?_
        refine a_take_off 6 rfl rfl rfl rfl (by kernel_rfl) (by kernel_rfl) (by kernel_rfl) (eX (by repeat constructor)) (dd rfl) ?_
        refine a_take_off 7 rfl rfl rfl rfl (by kernel_rfl) (by kernel_rfl) (by kernel_rfl) (eX (by repeat constructor)) (dd rfl) ?_
        refine a_take_off 8 rfl rfl rfl rfl (by kernel_rfl) (by kernel_rfl) (by kernel_rfl) (eX (by repeat constructor)) (dd rfl) ?_
        refine a_take_off 9 rfl rfl rfl rfl (by kernel_rfl) (by kernel_rfl) (by kernel_rfl) (eX (by repeat constructor)) (dd rfl) ?_
        refine a_take_off 10 rfl rfl rfl rfl (by kernel_rfl) (by kernel_rfl) (by kernel_rfl) (eX (by repeat constructor)) (dd rfl) ?_
        refine a_take 11 rfl (by kernel_rfl) (by kernel_rfl) (by kernel_rfl) (v_pick_f rfl rfl) (eX (by repeat constructor)) (dd rfl) ?_
        refine a_done (by kernel_rfl) ?_ _
        refine c_cond_f rfl ?_
        refine c_exit rfl ?_
        refine c_ent (L' := TabH N t (τ.wgoal (delsF τ.goal out)) (ns[i]'hi') :: [MapO kInt (some b) (mInt m'), OwnO eW 137 (.slice a0 ([] : Wt).length cap) [], Blk b8 135 [.map (some b), .slice a0 ([] : Wt).length cap], Own (eInt .i64) 3 u' (outs ++ out), Own eStr 9 rv ns]) (Ent.trans (b := Blk t 75 [.map p1, .map p2] :: MapO kStr p1 fs :: MapO kInt p2 (gs'.map entG) :: AllA (ps'.map plA) :: [MapO kInt (some b) (mInt m'), OwnO eW 137 (.slice a0 ([] : Wt).length cap) [], Blk b8 135 [.map (some b), .slice a0 ([] : Wt).length cap], Own (eInt .i64) 3 u' (outs ++ out), Own eStr 9 rv ns]) (eX (by repeat constructor)) (hole_mk (L := [MapO kInt (some b) (mInt m'), OwnO eW 137 (.slice a0 ([] : Wt).length cap) [], Blk b8 135 [.map (some b), .slice a0 ([] : Wt).length cap], Own (eInt .i64) 3 u' (outs ++ out), Own eStr 9 rv ns]) (hole_goal hh j4.symm j5))) ?_
        refine c_region ?_
        refine o_val (v_move rfl) (dd rfl) ?_
        refine o_val (v_move rfl) (dd rfl) ?_
        refine o_val (v_load_all ⟨_, Try.underlying135⟩ ti135 rfl (hX (by repeat constructor)) rfl) (dd rfl) ?_
        refine o_step (s_callf cl78 (put_con N t (τ.wgoal (delsF τ.goal out)) (ns[i]'hi') b (.slice a0 ([] : Wt).length cap) m' [] j2) rfl (dd rfl) (pXs (by repeat constructor)) fun _ _ => ?_)
        refine o_nil ?_
        refine c_inBlock ?_
        refine c_region ?_
        refine o_val ((by first | exact v_add64 rfl rfl (by omega) | exact v_add rfl rfl)) (dd rfl) ?_
        refine o_val (v_move rfl) (dd rfl) ?_
        refine o_nil ?_
        have hsv := freeJ_step hJ hi' (serveJ_nil j1)
        refine c_use (IH ((i + 1, τ.served (ns[i]'hi') (lkA m') [] out, u', outs ++ out)) (by first | omega | (dsimp only; omega)) (⟨by dsimp only; omega, hsv, by dsimp only; rw [List.length_append]; omega⟩)) (by repeat (first | exact trivial | refine ⟨rfl, ?_⟩)) (eX (by repeat constructor))
      | cons x w' =>
        have hxl : 0 < (x :: w').length := by simp
        have hxl2 : (x :: w').length = w'.length + 1 := rfl
        have hpos : decide ((0 : Int) < (((x :: w').length : Nat) : Int)) = true := decide_eq_true (by omega)
        skip
        try dsimp only [List.cons_append, List.nil_append]
        refine c_seq ?_
        refine c_seq ?_
        refine c_held [BlkR b8 135 [.map (some b), .slice a0 (x :: w').length cap], Sl eW (.slice a0 (x :: w').length cap) (x :: w')] rfl ?_
        refine a_take 0 rfl (by kernel_rfl) (by kernel_rfl) (by kernel_rfl) (v_fieldAddrC 1 Try.underlying135 rfl ti133 (by decide) rfl) (eX (by repeat constructor)) (dd rfl) ?_
        refine a_take 1 rfl (by kernel_rfl) (by kernel_rfl) (by kernel_rfl) (v_load lone133 rfl (hX (by repeat constructor)) rfl) (eX (by repeat constructor)) (dd rfl) ?_
        refine a_take 2 rfl (by kernel_rfl) (by kernel_rfl) (by kernel_rfl) ((by first | exact v_len_form Try.underlying133 rfl | exact v_len_sl Try.underlying133 rfl (hX (by repeat constructor)))) (eX (by repeat constructor)) (dd rfl) ?_
        refine a_take 3 rfl (by kernel_rfl) (by kernel_rfl) (by kernel_rfl) (v_gt rfl rfl) (eX (by repeat constructor)) (dd rfl) ?_
        refine a_take 4 rfl (by kernel_rfl) (by kernel_rfl) (by kernel_rfl) (v_move rfl) (eX (by repeat constructor)) (dd rfl) ?_
        refine a_know (s := 34) rfl (show _ = Value.bool true from congrArg Value.bool hpos) ?_
        refine a_take_on 5 rfl rfl rfl (by kernel_rfl) (by kernel_rfl) (by kernel_rfl) (v_load_all ⟨_, Try.underlying135⟩ ti135 rfl (hX (by repeat constructor)) rfl) (eX (by repeat constructor)) (dd rfl) ?_
        refine a_take_on 6 rfl rfl rfl (by kernel_rfl) (by kernel_rfl) (by kernel_rfl) (v_fieldAddrC 1 Try.underlying135 rfl ti133 (by decide) rfl) (eX (by repeat constructor)) (dd rfl) ?_
        refine a_take_on 7 rfl rfl rfl (by kernel_rfl) (by kernel_rfl) (by kernel_rfl) (v_load lone133 rfl (hX (by repeat constructor)) rfl) (eX (by repeat constructor)) (dd rfl) ?_
        refine a_take_on 8 rfl rfl rfl (by kernel_rfl) (by kernel_rfl) (by kernel_rfl) ((by first | exact v_indexAddrN Try.underlying133 ti137 rfl rfl (hX (by repeat constructor)) (by omega) | exact v_indexAddr Try.underlying133 ti137 rfl rfl (hX (by repeat constructor)) (by omega))) (eX (by repeat constructor)) (dd rfl) ?_
        refine a_take_on 9 rfl rfl rfl (by kernel_rfl) (by kernel_rfl) (by kernel_rfl) (v_load_p (by repeat (first | exact PEnc.int _ | exact PEnc.str | exact PEnc.bool | exact PEnc.byte | exact PEnc.raw | apply PEnc.pair | apply PEnc.map)) ⟨_, Try.underlying137⟩ ti137 rfl (by repeat (first|exact el1 (by omega)|exact el2 (by omega)|exact el3 (by omega)|apply Elem.there))) (eX (by repeat constructor)) (dd rfl) ?_
        refine a_one_on 10 rfl rfl rfl (by kernel_rfl) (s_callf cl77 (may_con (some b) (.slice a0 (x :: w').length cap) m' (x.1, x.2)) rfl (dd rfl) (pXs (by repeat constructor)) (fun _ _ => a_on (eX (by repeat constructor)) ?_))
        refine a_take 11 rfl (by kernel_rfl) (by kernel_rfl) (by kernel_rfl) (v_pick_t rfl rfl) (eX (by repeat constructor)) (dd rfl) ?_
        refine a_done (by kernel_rfl) ?_ _
        refine c_cond rfl (fun hmay => ?_) (fun hmay => ?_)
        · refine c_skip ?_
          refine c_block ?_
          refine c_seq ?_
          refine c_region ?_
          refine o_val (v_fieldAddrC 1 Try.underlying135 rfl ti133 (by decide) rfl) (dd rfl) ?_
          refine o_val (v_load lone133 rfl (hX (by repeat constructor)) rfl) (dd rfl) ?_
          refine o_val ((by first | exact v_indexAddrN Try.underlying133 ti137 rfl rfl (hX (by repeat constructor)) (by omega) | exact v_indexAddr Try.underlying133 ti137 rfl rfl (hX (by repeat constructor)) (by omega))) (dd rfl) ?_
          refine o_val (v_load_p (by repeat (first | exact PEnc.int _ | exact PEnc.str | exact PEnc.bool | exact PEnc.byte | exact PEnc.raw | apply PEnc.pair | apply PEnc.map)) ⟨_, Try.underlying137⟩ ti137 rfl (by repeat (first|exact el1 (by omega)|exact el2 (by omega)|exact el3 (by omega)|apply Elem.there))) (dd rfl) ?_
          refine o_step (s_alloc ti137 (dd rfl) (fun b9 => ?_))
          refine o_step (s_store_all ti137 rfl rfl (by first | exact CellsV.lit rfl | exact CellsV.one (by first | exact OneC.lit rfl | exact OneC.sl (hX (by repeat constructor)) )) (by repeat (first | exact OneAll.nil | (refine OneAll.cons ?_ ?_; · first | exact OneC.lit rfl | exact OneC.sl (hX (by repeat constructor)) ) | exact OneAll.rd (hX (by repeat constructor)))) rfl (pB (by repeat constructor)) rfl (?_))
          refine o_nil ?_
          refine c_seq ?_
          refine c_heldk 11 [BlkR b8 135 [.map (some b), .slice a0 (x :: w').length cap], BlkR b9 137 [.int .i64 x.1, .int .i64 x.2]] rfl ?_
          refine k_take 0 rfl (by kernel_rfl) (by kernel_rfl) (by kernel_rfl) rfl (by kernel_rfl) (v_fieldAddrC 0 Try.underlying135 rfl ti97 (by decide) rfl) (eX (by repeat constructor)) (dd rfl) ?_
          refine k_take 1 rfl (by kernel_rfl) (by kernel_rfl) (by kernel_rfl) rfl (by kernel_rfl) (v_load lone97 rfl (hX (by repeat constructor)) rfl) (eX (by repeat constructor)) (dd rfl) ?_
          refine k_take 2 rfl (by kernel_rfl) (by kernel_rfl) (by kernel_rfl) rfl (by kernel_rfl) (v_fieldAddrC 0 Try.underlying137 rfl ti3 (by decide) rfl) (eX (by repeat constructor)) (dd rfl) ?_
          refine k_take 3 rfl (by kernel_rfl) (by kernel_rfl) (by kernel_rfl) rfl (by kernel_rfl) (v_load lone3 rfl (hX (by repeat constructor)) rfl) (eX (by repeat constructor)) (dd rfl) ?_
          refine k_take 4 rfl (by kernel_rfl) (by kernel_rfl) (by kernel_rfl) rfl (by kernel_rfl) (v_fieldAddrC 1 Try.underlying137 rfl ti3 (by decide) rfl) (eX (by repeat constructor)) (dd rfl) ?_
          refine k_take 5 rfl (by kernel_rfl) (by kernel_rfl) (by kernel_rfl) rfl (by kernel_rfl) (v_load lone3 rfl (hX (by repeat constructor)) rfl) (eX (by repeat constructor)) (dd rfl) ?_
          refine k_take 6 rfl (by kernel_rfl) (by kernel_rfl) (by kernel_rfl) rfl (by kernel_rfl) (v_fieldAddrC 1 Try.underlying135 rfl ti133 (by decide) rfl) (eX (by repeat constructor)) (dd rfl) ?_
          refine k_take 7 rfl (by kernel_rfl) (by kernel_rfl) (by kernel_rfl) rfl (by kernel_rfl) (v_load lone133 rfl (hX (by repeat constructor)) rfl) (eX (by repeat constructor)) (dd rfl) ?_
          refine k_take 8 rfl (by kernel_rfl) (by kernel_rfl) (by kernel_rfl) rfl (by kernel_rfl) (v_slice Try.underlying133 ti137 rfl (.inr ⟨_, _, _, rfl, rfl, by omega, rfl⟩) (.inl ⟨rfl, rfl, rfl⟩) (.inl ⟨rfl, rfl⟩) (by omega) (by omega) (by omega)) (eX (by repeat constructor)) (dd rfl) ?_
          refine k_one 9 rfl (by kernel_rfl) fun hc_ => (s_mapUpdate kInt Try.underlying97 Try.underlying3 kInt_sc rfl rfl rfl (pX (by repeat constructor)) (k_on hc_ (eX (by repeat constructor)) ?_))
          refine k_take 10 rfl (by kernel_rfl) (by kernel_rfl) (by kernel_rfl) rfl (by kernel_rfl) (v_fieldAddrC 1 Try.underlying135 rfl ti133 (by decide) rfl) (eX (by repeat constructor)) (dd rfl) ?_
          refine k_one 11 rfl (by kernel_rfl) fun hc_ => (s_store1 ti133 rfl rfl (by first | exact OneC.lit rfl | exact OneC.sl (hX (by repeat constructor)) ) (pB (by repeat constructor)) (by first | decide | exact Nat.le_of_ble_eq_true rfl | simp) (by first | (dsimp only [List.set_cons_succ, List.set_cons_zero]; first | done | exact rfl) | rfl) (k_last hc_ (by kernel_rfl) ?_))
          refine k_done (by kernel_rfl) ?_ _
          refine c_seq ?_
          rw [upd_mInt]
          refine c_held [BlkR t 75 [.map p1, .map p2], BlkR b9 137 [.int .i64 x.1, .int .i64 x.2]] rfl ?_
          refine a_take 0 rfl (by kernel_rfl) (by kernel_rfl) (by kernel_rfl) (v_move rfl) (eX (by repeat constructor)) (dd rfl) ?_
          refine a_take 1 rfl (by kernel_rfl) (by kernel_rfl) (by kernel_rfl) (v_nilCheck rfl) (eX (by repeat constructor)) (dd rfl) ?_
          refine a_take 2 rfl (by kernel_rfl) (by kernel_rfl) (by kernel_rfl) (v_fieldAddrC 1 Try.underlying75 rfl ti73 (by decide) rfl) (eX (by repeat constructor)) (dd rfl) ?_
          refine a_take 3 rfl (by kernel_rfl) (by kernel_rfl) (by kernel_rfl) (v_load lone73 rfl (hX (by repeat constructor)) rfl) (eX (by repeat constructor)) (dd rfl) ?_
          refine a_take 4 rfl (by kernel_rfl) (by kernel_rfl) (by kernel_rfl) (v_fieldAddrC 0 Try.underlying137 rfl ti3 (by decide) rfl) (eX (by repeat constructor)) (dd rfl) ?_
          refine a_take 5 rfl (by kernel_rfl) (by kernel_rfl) (by kernel_rfl) (v_load lone3 rfl (hX (by repeat constructor)) rfl) (eX (by repeat constructor)) (dd rfl) ?_
          refine a_one 6 rfl (by kernel_rfl) (s_deleteO kInt rfl Try.underlying73 Try.underlying3 rfl rfl (pX (by repeat constructor)) (a_on (eX (by repeat constructor)) ?_))
          refine a_done (by kernel_rfl) ?_ _
          refine c_region ?_
          refine o_val (v_move rfl) (dd rfl) ?_
          refine o_val (v_fieldAddrC 0 Try.underlying137 rfl ti3 (by decide) rfl) (dd rfl) ?_
          refine o_val (v_load lone3 rfl (hX (by repeat constructor)) rfl) (dd rfl) ?_
          rw [del_entG]
          refine o_step (s_buildSlice Try.underlying35 ti3 rfl rfl rfl (by decide) (by decide) (beside_int .i64 [x.1]) rfl rfl (dd rfl) fun v65 => ?_)
          refine o_step (s_append Try.underlying35 ti3 rfl (by decide) rfl rfl (dd rfl) (pB (by repeat constructor)) (pX (by repeat constructor)) rfl (by simp only [maxLen, List.length_append, List.length_cons, List.length_nil]; omega) (by simp only [maxLen, List.length_append, List.length_cons, List.length_nil]; omega) fun v66 => ?_)
          refine o_val (v_assign rfl) (dd rfl) ?_
          refine o_nil ?_
          refine c_inBlock ?_
          rw [List.append_assoc]
          have hgl := delA_len gs' x.1
          have hul := updA_len x.1 x.2 m'
          simp only [List.length_cons] at j2 j3
          refine c_ent (L' := OwnO eW 137 (cutV a0 1 (x :: w').length cap 2) w' :: [Blk t 75 [.map p1, .map p2], MapO kStr p1 fs, MapO kInt p2 ((delA gs' x.1).map entG), AllA (ps'.map plA), MapO kInt (some b) (mInt (updA m' x.1 x.2)), Blk b8 135 [.map (some b), cutV a0 1 (x :: w').length cap 2], Own (eInt .i64) 3 v66 (outs ++ (out ++ [x.1])), Own eStr 9 rv ns]) (Ent.trans (b := OwnO eW 137 (.slice a0 (x :: w').length cap) (x :: w') :: [Blk t 75 [.map p1, .map p2], MapO kStr p1 fs, MapO kInt p2 ((delA gs' x.1).map entG), AllA (ps'.map plA), MapO kInt (some b) (mInt (updA m' x.1 x.2)), Blk b8 135 [.map (some b), cutV a0 1 (x :: w').length cap 2], Own (eInt .i64) 3 v66 (outs ++ (out ++ [x.1])), Own eStr 9 rv ns]) (eX (by repeat constructor)) (Ent.head fun _ _ h => OwnO.tail h)) ?_
          refine c_use (IH2 ((updA m' x.1 x.2, w', cutV a0 1 (x :: w').length cap 2, delA gs' x.1, v66, out ++ [x.1])) (by first | omega | (dsimp only; omega)) (⟨serveJ_go j1 hnd' hmay, by dsimp only; omega, by dsimp only; rw [List.length_append]; simp only [List.length_cons, List.length_nil]; omega, by dsimp only; rw [lkA_delA, j4, delsF_snoc], by dsimp only; omega⟩)) (by repeat (first | exact trivial | refine ⟨rfl, ?_⟩)) (eX (by repeat constructor))
        · refine c_exit rfl ?_
          refine c_ent (L' := TabH N t (τ.wgoal (delsF τ.goal out)) (ns[i]'hi') :: [MapO kInt (some b) (mInt m'), OwnO eW 137 (.slice a0 ((x :: w') : Wt).length cap) (x :: w'), Blk b8 135 [.map (some b), .slice a0 ((x :: w') : Wt).length cap], Own (eInt .i64) 3 u' (outs ++ out), Own eStr 9 rv ns]) (Ent.trans (b := Blk t 75 [.map p1, .map p2] :: MapO kStr p1 fs :: MapO kInt p2 (gs'.map entG) :: AllA (ps'.map plA) :: [MapO kInt (some b) (mInt m'), OwnO eW 137 (.slice a0 ((x :: w') : Wt).length cap) (x :: w'), Blk b8 135 [.map (some b), .slice a0 ((x :: w') : Wt).length cap], Own (eInt .i64) 3 u' (outs ++ out), Own eStr 9 rv ns]) (eX (by repeat constructor)) (hole_mk (L := [MapO kInt (some b) (mInt m'), OwnO eW 137 (.slice a0 ((x :: w') : Wt).length cap) (x :: w'), Blk b8 135 [.map (some b), .slice a0 ((x :: w') : Wt).length cap], Own (eInt .i64) 3 u' (outs ++ out), Own eStr 9 rv ns]) (hole_goal hh j4.symm j5))) ?_
          refine c_region ?_
          refine o_val (v_move rfl) (dd rfl) ?_
          refine o_val (v_move rfl) (dd rfl) ?_
          refine o_val (v_load_all ⟨_, Try.underlying135⟩ ti135 rfl (hX (by repeat constructor)) rfl) (dd rfl) ?_
          refine o_step (s_callf cl78 (put_con N t (τ.wgoal (delsF τ.goal out)) (ns[i]'hi') b (.slice a0 ((x :: w') : Wt).length cap) m' (x :: w') j2) rfl (dd rfl) (pXs (by repeat constructor)) fun _ _ => ?_)
          refine o_nil ?_
          refine c_inBlock ?_
          refine c_region ?_
          refine o_val ((by first | exact v_add64 rfl rfl (by omega) | exact v_add rfl rfl)) (dd rfl) ?_
          refine o_val (v_move rfl) (dd rfl) ?_
          refine o_nil ?_
          have hsv := freeJ_step hJ hi' (serveJ_bar j1 hnd' hmay)
          refine c_use (IH ((i + 1, τ.served (ns[i]'hi') (lkA m') (x :: w') out, u', outs ++ out)) (by first | omega | (dsimp only; omega)) (⟨by dsimp only; omega, hsv, by dsimp only; rw [List.length_append]; omega⟩)) (by repeat (first | exact trivial | refine ⟨rfl, ?_⟩)) (eX (by repeat constructor))
  · have hie : i = ns.length := by omega
    subst hie
    refine c_exit rfl ?_
    refine c_seq ?_
    refine c_region ?_
    refine o_val (v_move rfl) (dd rfl) ?_
    refine o_step (s_callf cl79 (sort_int u outs (by omega)) rfl (dd rfl) (pXs (by repeat constructor)) fun _ _ => ?_)
    refine o_nil ?_
    refine c_seq ?_
    refine c_region ?_
    refine o_val (v_move rfl) (dd rfl) ?_
    refine o_step (s_callf cl80 (compact_int u (sortI outs) (by rw [sortI_len]; omega)) rfl (dd rfl) (pXs (by repeat constructor)) fun r75 _ => ?_)
    refine o_val (v_assign rfl) (dd rfl) ?_
    refine o_nil ?_
    refine c_ret1 Try.func45 rfl rfl fun w O hS => ?_
    exact ⟨(r75, τ, setI outs), rfl, ⟨ns, outs, hnsn, hnsw, freeJ_end hJ, rfl⟩, Ent.get hS (eX (by repeat constructor))⟩
end Go.Proofs.Ytnamhhmfnokfiaa

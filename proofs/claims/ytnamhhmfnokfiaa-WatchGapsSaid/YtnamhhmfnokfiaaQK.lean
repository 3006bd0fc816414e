/- Regions that draw their order, where what is read is written at the end, by one operation that waits for all that read it. -/
import Derived.Test.YtnamhhmfnokfiaaQN
namespace Go.SL
open Go

section
variable {P : Program} {ops : Array Oper} {Q : Exit → Act → World → Prop} {md : Region.Mode} {S : World → Prop} {j0 : Nat}
/-- Whatever order is picked; S holds behind each operation, until j0 has been carried out. -/
def wpAnyK (P : Program) (md : Region.Mode) (ops : Array Oper) (Q : Exit → Act → World → Prop) (S : World → Prop) (j0 : Nat) : Nat → Array Bool → Act → World → Prop
  | 0, listed, a, w => Region.ready md ops listed = [] ∧ Q .normal a w
  | fuel + 1, listed, a, w => (Region.ready md ops listed = [] → Q .normal a w) ∧
    ∀ i ∈ Region.ready md ops listed, wpOp P ops Q i (fun a' w' => ((listed.setIfInBounds i true).getD j0 false = true ∨ S w') ∧ wpAnyK P md ops Q S j0 fuel (listed.setIfInBounds i true) a' w') a w
theorem wpAny_of_K : ∀ (fuel : Nat) (listed : Array Bool) (a : Act) (w : World), wpAnyK P md ops Q S j0 fuel listed a w → wpAny P md ops Q fuel listed a w
  | 0, _, _, _, h => h
  | fuel + 1, _, _, _, h => ⟨h.1, fun i hi => wpOp_mono (fun a' w' h' => wpAny_of_K fuel _ a' w' h'.2) (h.2 i hi)⟩
/-- j comes behind i, by one way or another. -/
def waitsB (md : Region.Mode) (ops : Array Oper) : Nat → Nat → Nat → Bool
  | 0, _, _ => false
  | n + 1, j, i => match ops[j]? with
    | none => false
    | some o => o.after.any fun e => Region.binds md e && (Nat.beq e.on i || waitsB md ops n e.on i)
def Closed (md : Region.Mode) (ops : Array Oper) (listed : Array Bool) : Prop := ∀ k ok, ops[k]? = some ok → listed.getD k false = true → ∀ e ∈ ok.after, Region.binds md e = true → listed.getD e.on false = true
theorem waits_un {listed : Array Bool} (hc : Closed md ops listed) : ∀ {n j i : Nat}, waitsB md ops n j i = true → listed.getD i false = false → listed.getD j false = false
  | 0, _, _, h, _ => by simp [waitsB] at h
  | n + 1, j, i, h, hi => by
    unfold waitsB at h
    split at h
    · cases h
    · rename_i o ho
      obtain ⟨e, he, hb⟩ := Array.any_eq_true'.1 h
      simp only [Bool.and_eq_true, Bool.or_eq_true] at hb
      cases hj : listed.getD j false with
      | false => rfl
      | true =>
        have h1 := hc j o ho hj e he hb.1
        rcases hb.2 with h2 | h2
        · rw [Nat.eq_of_beq_eq_true h2, hi] at h1; cases h1
        · rw [waits_un hc h2 hi] at h1; cases h1
theorem closed_set {listed : Array Bool} (hc : Closed md ops listed) {i : Nat} (hi : i ∈ Region.ready md ops listed) : Closed md ops (listed.setIfInBounds i true) := by
  intro k ok hk hl e he hb
  obtain ⟨_, o, ho, hall⟩ := mem_ready.1 hi
  by_cases hki : i = k
  · subst hki
    rw [ho] at hk; cases hk
    exact getD_set_true (hall e he hb)
  · rw [getD_set_ne false hki] at hl
    exact getD_set_true (hc k ok hk hl e he hb)
theorem getD_ft {listed : Array Bool} {i : Nat} (h : listed.getD i true = false) : listed.getD i false = false := by
  rcases Nat.lt_or_ge i listed.size with h' | h'
  · simp [h'] at h ⊢; exact h
  · simp [Array.getElem?_eq_none h'] at h
/-- An operation that only reads, taken first; F: it reads what j0 writes, and j0 waits for it; or it reads nothing. -/
theorem wpAnyK_first {i : Nat} {oi : Oper} {v : Value} {T : World → Prop} (hi : ops[i]? = some oi) (hsel : ∀ (j : Nat) (o : Oper) cs b, ops[j]? = some o → o.op ≠ .select cs b)
    (hQ : ∀ c a w, Q (.panic c) (a.put oi.dst v) w → Q (.panic c) a w) (hij : i ≠ j0) (hT : (T = S ∧ ∃ n, waitsB md ops n j0 i = true) ∨ ∀ w, T w) :
    ∀ (fuel : Nat) (listed : Array Bool) (a : Act) (w : World), Closed md ops listed →
      (∀ j oj, ops[j]? = some oj → j ≠ i → listed.getD j true = false → (∀ e ∈ oj.after, Region.binds md e = true → e.on ≠ i) → oi.apart ops oj = true) →
      i ∈ Region.ready md ops listed → YieldsIf P ops T oi v a → (listed.getD j0 false = true ∨ S w) →
      wpAnyK P md ops Q S j0 fuel (listed.setIfInBounds i true) (a.put oi.dst v) w → wpAnyK P md ops Q S j0 (fuel + 1) listed a w := by
  have hTw : ∀ (listed : Array Bool) (w : World), Closed md ops listed → i ∈ Region.ready md ops listed → (listed.getD j0 false = true ∨ S w) → T w := fun listed w hc hr hS => by
    rcases hT with ⟨rfl, n, hw⟩ | h
    · rcases hS with h | h
      · rw [waits_un hc hw (getD_ft (mem_ready.1 hr).1)] at h; cases h
      · exact h
    · exact h w
  intro fuel
  induction fuel with
  | zero =>
    intro listed a w hc _ hr hy hS H
    refine ⟨fun h => (by rw [h] at hr; cases hr), fun j hj => ?_⟩
    by_cases hji : j = i
    · subst hji
      exact hy.wpOp hi (hTw listed w hc hr hS) ⟨hS.imp (fun h => getD_set_true h) fun h => h, H⟩
    · have := ready_mono hj hji
      rw [H.1] at this
      cases this
  | succ fuel ih =>
    intro listed a w hc hfree hr hy hS H
    refine ⟨fun h => (by rw [h] at hr; cases hr), fun j hj => ?_⟩
    by_cases hji : j = i
    · subst hji; exact hy.wpOp hi (hTw listed w hc hr hS) ⟨hS.imp (fun h => getD_set_true h) fun h => h, H⟩
    · have h1 := H.2 j (ready_mono hj hji)
      obtain ⟨hjun, oj, hoj, hall⟩ := mem_ready.1 hj
      have hnot : ∀ e ∈ oj.after, Region.binds md e = true → e.on ≠ i := fun e he hb heq => by
        have h1 := hall e he hb
        rw [heq, getD_ft (mem_ready.1 hr).1] at h1
        cases h1
      have h2 := wpOp_putIf hoj (hfree j oj hoj hji hjun hnot) (fun cs b => hsel i oi cs b hi) (fun cs b => hsel j oj cs b hoj) hQ hy h1
      have hfree' : ∀ k ok, ops[k]? = some ok → k ≠ i → (listed.setIfInBounds j true).getD k true = false →
          (∀ e ∈ ok.after, Region.binds md e = true → e.on ≠ i) → oi.apart ops ok = true := fun k ok hk hki hun hno => by
        refine hfree k ok hk hki ?_ hno
        by_cases hjk : j = k
        · subst hjk; exact hjun
        · rw [getD_set_ne true hjk] at hun; exact hun
      have hsw : ∀ w', (((listed.setIfInBounds i true).setIfInBounds j true).getD j0 false = true ∨ S w') → ((listed.setIfInBounds j true).getD j0 false = true ∨ S w') := fun w' h => by
        rcases h with h | h
        · rw [Array.setIfInBounds_comm _ _ (Ne.symm hji), getD_set_ne false hij] at h
          exact .inl h
        · exact .inr h
      refine wpOp_mono (fun a' w' h3 => ⟨hsw w' h3.2.1, ih (listed.setIfInBounds j true) a' w' (closed_set hc hj) hfree' (ready_mono hr (Ne.symm hji)) h3.1 (hsw w' h3.2.1) ?_⟩) h2
      rw [Array.setIfInBounds_comm _ _ hji]
      exact h3.2.2
end
theorem closed_none (md : Region.Mode) (ops : Array Oper) (n : Nat) : Closed md ops (Array.replicate n false) := fun k ok _ h => by
  simp [Array.getD_eq_getD_getElem?, Array.getElem?_replicate] at h
  split at h <;> simp at h

/-- A region that draws its order and writes, at j0 what was read before. -/
def AnyG (X : Cx) (ops : Array Oper) (S : List A) (j0 fuel : Nat) (listed : Array Bool) (k : List Item) (env : Env) (L : List A) : Prop :=
  Closed .any ops listed → Kont X env L fun a w => wpAnyK X.P .any ops (Qn X k) (fun w => ∃ O, Stars S w O) j0 fuel listed a w
section
variable {X : Cx} {ops : Array Oper} {kk : List Item} {env : Env} {L L1 S : List A} {j0 fuel : Nat} {listed : Array Bool}
theorem c_heldk {id : Nat} {l : List Oper} (j0 : Nat) (S : List A) (hm : X.P.follows .mixedOrders = true) (h : AnyG X l.toArray S j0 l.length (Array.replicate l.length false) kk env L) (hnd : noDefer l = true := by rfl) : Cfg X (.code (.region id l.toArray true) :: kk) env L := by
  intro a w O ha hs hr
  refine ok_any hm (by simpa using hnd) (wpAny_of_K (S := fun w => ∃ O, Stars S w O) (j0 := j0) _ _ _ _ ?_)
  simpa using h (closed_none _ _ _) a _ O ha (draw_stars hs) (draw_rel hr)
theorem k_take (i : Nat) {v : Value} {d : Nat} {op : Op} {T : TypeId} {pos : String} {af : Array Edge} (hi : ops[i]? = some ⟨some d, op, T, pos, af, none⟩) (hs : Region.noSelect ops = true)
    (hf : Region.free .any ops listed i = true) (hr : (Region.ready .any ops listed).contains i = true) (hij : Nat.beq i j0 = false) (hw : waitsB .any ops ops.size j0 i = true) (hv : Val X env S op T v) (hS : Ent L S) (hd : d < X.fn.ntmps)
    (k : AnyG X ops S j0 fuel (listed.setIfInBounds i true) kk ((d, v) :: env) L) : AnyG X ops S j0 (fuel + 1) listed kk env L := by
  intro hc a w O ha hst hrel
  exact wpAnyK_first (T := fun w => ∃ O, Stars S w O) hi (Region.noSelect_spec hs) (fun _ _ _ h => by cases h.1) (Nat.ne_of_beq_eq_false hij) (.inl ⟨rfl, _, hw⟩) fuel listed a w hc (Region.free_spec hi hf) (by simpa using hr)
    (.inl ⟨rfl, fun w ⟨O, hs'⟩ => hv _ _ _ _ a w O ha hs'⟩) (.inr ⟨O, hS w O hst⟩) (k (closed_set hc (by simpa using hr)) _ w O (ha.put hd v) hst hrel)
/-- The same of an operation that reads nothing. -/
theorem k_takeF (i : Nat) {v : Value} {d : Nat} {op : Op} {T : TypeId} {pos : String} {af : Array Edge} (hi : ops[i]? = some ⟨some d, op, T, pos, af, none⟩) (hs : Region.noSelect ops = true)
    (hf : Region.free .any ops listed i = true) (hr : (Region.ready .any ops listed).contains i = true) (hij : Nat.beq i j0 = false) (hv : Val X env [] op T v) (hS : listed.getD j0 false = true ∨ Ent L S) (hd : d < X.fn.ntmps)
    (k : AnyG X ops S j0 fuel (listed.setIfInBounds i true) kk ((d, v) :: env) L) : AnyG X ops S j0 (fuel + 1) listed kk env L := by
  intro hc a w O ha hst hrel
  exact wpAnyK_first (T := fun _ => True) hi (Region.noSelect_spec hs) (fun _ _ _ h => by cases h.1) (Nat.ne_of_beq_eq_false hij) (.inr fun _ => trivial) fuel listed a w hc (Region.free_spec hi hf) (by simpa using hr)
    (.inl ⟨rfl, fun w _ => hv _ _ _ _ a w (fun _ => 0) ha trivial⟩) (hS.imp id fun h => ⟨O, h w O hst⟩) (k (closed_set hc (by simpa using hr)) _ w O (ha.put hd v) hst hrel)
theorem k_one (i : Nat) {d : Option Nat} {op : Op} {T : TypeId} {pos : String} {af : Array Edge} (hi : ops[i]? = some ⟨d, op, T, pos, af, none⟩) (hr : Region.ready .any ops listed = [i])
    (h : Closed .any ops (listed.setIfInBounds i true) → StepK X kk ⟨d, op, T, pos, af, none⟩ env L fun a w => ((listed.setIfInBounds i true).getD j0 false = true ∨ ∃ O, Stars S w O) ∧ wpAnyK X.P .any ops (Qn X kk) (fun w => ∃ O, Stars S w O) j0 fuel (listed.setIfInBounds i true) a w) : AnyG X ops S j0 (fuel + 1) listed kk env L := by
  intro hc a w O ha hst hrel
  refine ⟨fun h0 => absurd (hr ▸ h0) (by simp), fun j hj => ?_⟩
  obtain rfl : j = i := by rw [hr] at hj; simpa using hj
  simp only [wpOp, hi, Region.wanted, if_true]
  exact .inl (h (closed_set hc (by rw [hr]; simp)) a w O ha hst hrel)
theorem k_on {j0 : Nat} (hc : Closed .any ops listed) (hS : Ent L S) (h : AnyG X ops S j0 fuel listed kk env L) : Kont X env L fun a w => (listed.getD j0 false = true ∨ ∃ O, Stars S w O) ∧ wpAnyK X.P .any ops (Qn X kk) (fun w => ∃ O, Stars S w O) j0 fuel listed a w :=
  fun a w O ha hst hrel => ⟨.inr ⟨O, hS w O hst⟩, h hc a w O ha hst hrel⟩
theorem k_last {j0 : Nat} (hc : Closed .any ops listed) (hS : listed.getD j0 false = true) (h : AnyG X ops S j0 fuel listed kk env L) : Kont X env L fun a w => (listed.getD j0 false = true ∨ ∃ O, Stars S w O) ∧ wpAnyK X.P .any ops (Qn X kk) (fun w => ∃ O, Stars S w O) j0 fuel listed a w :=
  fun a w O ha hst hrel => ⟨.inl hS, h hc a w O ha hst hrel⟩
theorem k_done (hr : Region.ready .any ops listed = []) (h : Cfg X kk env L) (fuel : Nat) : AnyG X ops S j0 fuel listed kk env L := by
  intro _ a w O ha hst hrel
  cases fuel with
  | zero => exact ⟨hr, rfl, h a w O ha hst hrel⟩
  | succ n => exact ⟨fun _ => ⟨rfl, h a w O ha hst hrel⟩, by rw [hr]; simp⟩
end
end Go.SL

/- LockServes: for every input it returns true, and its arguments read behind the call as before. -/
import Derived.Test.YtnamhhmfnokfiaaZZ7
import Derived.Test.YtnamhhmfnokfiaaRows
set_option linter.unusedVariables false
set_option linter.unusedSimpArgs false
/- Chapter 12: who asks for names in rising order is never stuck; what all rows' owners keep. -/
namespace Go.Proofs.Ytnamhhmfnokfiaa
open Go Go.SL
theorem serve_ind {P : List Hs → List Hs → Prop} (hs : ∀ L W w, w ∈ W → P L W → P (getsR L w) (withoutR W w.1)) : ∀ (k : Nat) (L W : List Hs) (out : List Int), P L W → P (serveR k L W out).1 (serveR k L W out).2.1
  | 0, _, _, _, h => h
  | k + 1, L, W, out, h => by
    cases hf : firstR L W with
    | none => simp only [serveR, hf]; exact h
    | some w => simp only [serveR, hf]; exact serve_ind hs k _ _ _ (hs L W w (first_mem hf) h)
theorem mem_without {W : List Hs} {o : Int} {x : Hs} : x ∈ withoutR W o ↔ x ∈ W ∧ x.1 ≠ o := by
  unfold withoutR
  rw [List.mem_filter]
  exact ⟨fun h => ⟨h.1, of_decide_eq_true h.2⟩, fun h => ⟨h.1, decide_eq_true h.2⟩⟩
theorem mem_ins {L : List Hs} {n : ByteArray} {has : Bool} {w x : Hs} {W : List Hs} (h : x ∈ insR L n has w W) : x = w ∨ x ∈ W := by
  obtain ⟨A, B, h1, h2, _⟩ := ins_split L n has w W
  rw [h2] at h
  rw [h1]
  rcases List.mem_append.1 h with h | h
  · exact .inr (List.mem_append_left _ h)
  · exact (List.mem_cons.1 h).imp id fun h => List.mem_append_right _ h
/-! ### all rows' owners -/
def RowsAll (p : Int → Prop) (L W : List Hs) : Prop := (∀ x ∈ L, p x.1) ∧ ∀ w ∈ W, p w.1
theorem all_gets {p : Int → Prop} {L W : List Hs} {w : Hs} (hw : w ∈ W) (h : RowsAll p L W) : RowsAll p (getsR L w) (withoutR W w.1) :=
  ⟨fun x hx => (mem_gets.1 hx).elim (fun k => h.1 x k.1) fun k => k ▸ h.2 w hw, fun x hx => h.2 x (mem_without.1 hx).1⟩
theorem all_free {p : Int → Prop} {L W : List Hs} (o : Int) (h : RowsAll p L W) : RowsAll (fun y => p y ∧ y ≠ o) (freeR L W o).1 (freeR L W o).2.1 :=
  serve_ind (P := RowsAll fun y => p y ∧ y ≠ o) (fun _ _ _ => all_gets) _ _ _ _ ⟨fun x hx => ⟨h.1 x (mem_without.1 hx).1, (mem_without.1 hx).2⟩, fun x hx => ⟨h.2 x (mem_without.1 hx).1, (mem_without.1 hx).2⟩⟩
theorem all_mono {p q : Int → Prop} {L W : List Hs} (h : RowsAll p L W) (hpq : ∀ y, p y → q y) : RowsAll q L W := ⟨fun x hx => hpq _ (h.1 x hx), fun x hx => hpq _ (h.2 x hx)⟩
theorem all_ask {p : Int → Prop} {L W : List Hs} {o : Int} (n : ByteArray) (m : Int) (ho : p o) (h : RowsAll p L W) : RowsAll p (askR L W o n m).1 (askR L W o n m).2.1 := by
  unfold askR
  split
  · exact h
  · split
    · exact h
    · split
      · exact h
      · split
        · exact ⟨fun x hx => (mem_gets.1 hx).elim (fun k => h.1 x k.1) fun k => k ▸ ho, h.2⟩
        · exact ⟨h.1, fun x hx => (mem_ins hx).elim (fun k => k ▸ ho) fun k => h.2 x k⟩
theorem all_none {p : Int → Prop} {L W : List Hs} (h : RowsAll p L W) (hp : ∀ y, ¬ p y) : L = [] ∧ W = [] :=
  ⟨List.eq_nil_iff_forall_not_mem.2 fun x hx => hp _ (h.1 x hx), List.eq_nil_iff_forall_not_mem.2 fun x hx => hp _ (h.2 x hx)⟩
/-! ### rising -/
structure RiseP (la : Int → Option ByteArray) (L W : List Hs) : Prop where
  has : ∀ x ∈ L, ∃ n, la x.1 = some n ∧ (ltS x.2.1 n = true ∨ x.2.1 = n)
  wait : ∀ w ∈ W, la w.1 = some w.2.1
  less : ∀ w ∈ W, ∀ x ∈ L, x.1 = w.1 → ltS x.2.1 w.2.1 = true
theorem rise_gets {la : Int → Option ByteArray} (L W : List Hs) (w : Hs) (hw : w ∈ W) (h : RiseP la L W) : RiseP la (getsR L w) (withoutR W w.1) where
  has x hx := (mem_gets.1 hx).elim (fun k => h.has x k.1) fun k => ⟨w.2.1, by rw [k]; exact h.wait w hw, .inr (by rw [k])⟩
  wait x hx := h.wait x (mem_without.1 hx).1
  less y hy x hx e := (mem_gets.1 hx).elim (fun k => h.less y (mem_without.1 hy).1 x k.1 e) fun k => absurd (by rw [← e, k]) (mem_without.1 hy).2
theorem rise_free {la : Int → Option ByteArray} {L W : List Hs} (o : Int) (h : RiseP la L W) : RiseP (fun y => if y = o then none else la y) (freeR L W o).1 (freeR L W o).2.1 :=
  serve_ind (P := RiseP _) rise_gets _ _ _ _
    { has := fun x hx => by
        obtain ⟨n, h1, h2⟩ := h.has x (mem_without.1 hx).1
        exact ⟨n, by rw [if_neg (mem_without.1 hx).2]; exact h1, h2⟩
      wait := fun x hx => by rw [if_neg (mem_without.1 hx).2]; exact h.wait x (mem_without.1 hx).1
      less := fun y hy x hx e => h.less y (mem_without.1 hy).1 x (mem_without.1 hx).1 e }
theorem rise_ask {la : Int → Option ByteArray} {L W : List Hs} {o : Int} {n : ByteArray} (m : Int) (h : RiseP la L W) (hla : ∀ n', la o = some n' → ltS n' n = true) :
    RiseP (if (askR L W o n m).2.2.2 = 0 then fun y => if y = o then some n else la y else la) (askR L W o n m).1 (askR L W o n m).2.1 := by
  have hA : ∀ x ∈ L, x.1 = o → ltS x.2.1 n = true := fun x hx e => by
    obtain ⟨n', h1, h2⟩ := h.has x hx
    rw [e] at h1
    rcases h2 with h2 | h2
    · exact bl_trans h2 (hla n' h1)
    · rw [h2]; exact hla n' h1
  have hL : ∀ x ∈ L, ∃ n', (fun y => if y = o then some n else la y) x.1 = some n' ∧ (ltS x.2.1 n' = true ∨ x.2.1 = n') := fun x hx => by
    dsimp only
    by_cases e : x.1 = o
    · exact ⟨n, if_pos e, .inl (hA x hx e)⟩
    · rw [if_neg e]; exact h.has x hx
  unfold askR
  split
  · dsimp only; rw [if_neg (by decide)]; exact h
  · split
    · dsimp only; rw [if_neg (by decide)]; exact h
    · rename_i hw
      have hW : ∀ w ∈ W, w.1 ≠ o := waitR_none.1 (by simpa using hw)
      have hwt : ∀ w ∈ W, (fun y => if y = o then some n else la y) w.1 = some w.2.1 := fun w hw => by dsimp only; rw [if_neg (hW w hw)]; exact h.wait w hw
      split
      · rw [if_pos rfl]; exact ⟨hL, hwt, h.less⟩
      · split
        · rw [if_pos rfl]
          refine ⟨fun x hx => (mem_gets.1 hx).elim (fun k => hL x k.1) fun k => ⟨n, by rw [k]; exact if_pos rfl, .inr (by rw [k]; rfl)⟩, hwt, fun y hy x hx e => (mem_gets.1 hx).elim (fun k => h.less y hy x k.1 e) fun k => absurd (by rw [← e, k]; rfl) (hW y hy)⟩
        · rw [if_pos rfl]
          refine ⟨hL, fun w hw => (mem_ins hw).elim (fun k => by rw [k]; exact if_pos rfl) (hwt w), fun y hy x hx e => (mem_ins hy).elim (fun k => ?_) fun k => h.less y k x hx e⟩
          rw [k] at e ⊢
          exact hA x hx e
theorem tabR_inv {N t : Nat} {L W : List Hs} {w : World} {O : Perm} (h : (TabR N t L W).h w O) : Inv0 L W ∧ HeadP L W := by
  obtain ⟨σ, O1, O2, s, a1, O3, O4, s2, a2, a3⟩ := h
  exact a2.2
theorem rise_nil : RiseP (fun _ => none) [] [] := ⟨(fun _ h => by cases h), (fun _ h => by cases h), fun _ h => by cases h⟩
theorem all_nil (p : Int → Prop) : RowsAll p [] [] := ⟨(fun _ h => by cases h), fun _ h => by cases h⟩
theorem lt_of_not_le {a b : ByteArray} (h : (Op.bytesLess a.data.toList b.data.toList || decide (a = b)) = false) : ltS b a = true := by
  rw [Bool.or_eq_false_iff] at h
  cases k : ltS b a with
  | true => rfl
  | false =>
    have := bl_tri h.1 k
    exact absurd (ByteArray.ext (Array.ext' this)) (of_decide_eq_false h.2)
theorem exists_max : ∀ {S : List Hs}, S ≠ [] → ∃ w ∈ S, ∀ y ∈ S, ltS w.2.1 y.2.1 = false
  | [], h => absurd rfl h
  | [w], _ => ⟨w, by simp, fun y hy => by rw [List.mem_singleton.1 hy]; exact bl_irrefl _⟩
  | w :: v :: S, _ => by
    obtain ⟨u, hu, h⟩ := exists_max (S := v :: S) (by simp)
    by_cases k : ltS u.2.1 w.2.1 = true
    · refine ⟨w, by simp, fun y hy => ?_⟩
      rcases List.mem_cons.1 hy with rfl | hy
      · exact bl_irrefl _
      · cases e : ltS w.2.1 y.2.1 with
        | false => rfl
        | true => exact absurd (bl_trans k e) (by rw [show Op.bytesLess u.2.1.data.toList y.2.1.data.toList = false from h y hy]; decide)
    · refine ⟨u, List.mem_cons_of_mem _ hu, fun y hy => ?_⟩
      rcases List.mem_cons.1 hy with rfl | hy
      · simpa using k
      · exact h y hy
theorem tw_front {z : Hs} : ∀ {A B : List Hs} {y : Hs}, y ∈ (A ++ z :: B).takeWhile (fun x => decide (x ≠ z)) → y ∈ A
  | [], B, y, h => by simp at h
  | a :: A, B, y, h => by
    rw [List.cons_append, List.takeWhile_cons] at h
    split at h
    · rcases List.mem_cons.1 h with rfl | h
      · simp
      · exact List.mem_cons_of_mem _ (tw_front h)
    · cases h
theorem rise_stuck {la : Int → Option ByteArray} {L W : List Hs} {l : List Int} (h : RiseP la L W) (hi : Inv0 L W) (hs : ClosedL L W (· ∈ l)) : l = [] := by
  cases l with
  | nil => rfl
  | cons a l =>
    obtain ⟨w, hw, hwa, _⟩ := hs a (by simp)
    have hne : W.filter (fun x => decide (x.1 ∈ a :: l)) ≠ [] := List.ne_nil_of_mem (List.mem_filter.2 ⟨hw, decide_eq_true (by rw [hwa]; simp)⟩)
    obtain ⟨u, hu, hmax⟩ := exists_max hne
    have hu' := List.mem_filter.1 hu
    have hq : u ∈ queueR W u.2.1 := List.mem_filter.2 ⟨hu'.1, decide_eq_true rfl⟩
    have hfs : ((queueR W u.2.1).find? fun x => decide (x.1 ∈ a :: l)).isSome = true := List.find?_isSome.2 ⟨u, hq, hu'.2⟩
    obtain ⟨z, hz⟩ := Option.isSome_iff_exists.1 hfs
    obtain ⟨hzl, A, B, hQ, hA⟩ := List.find?_eq_some_iff_append.1 hz
    have hzq : z ∈ queueR W u.2.1 := by rw [hQ]; simp
    have hzW := (List.mem_filter.1 hzq).1
    have hzn : z.2.1 = u.2.1 := of_decide_eq_true (List.mem_filter.1 hzq).2
    obtain ⟨z', hz', hze, x, hx, hb⟩ := hs z.1 (of_decide_eq_true hzl)
    have e1 := mem_waitR hi.wn hz'
    rw [hze, mem_waitR hi.wn hzW] at e1
    cases Option.some.inj e1
    unfold barsR at hb
    rw [hzn] at hb
    rcases Bool.or_eq_true_iff.1 hb with hb | hb
    · have hg := (Bool.and_eq_true_iff.1 (Bool.and_eq_true_iff.1 hb).2).1
      obtain ⟨k, hk⟩ := Option.isSome_iff_exists.1 hg
      obtain ⟨v, hv, hve, _⟩ := hs x hx
      have h1 := h.less v hv _ (getR_mem hk) hve.symm
      have h2 := hmax v (List.mem_filter.2 ⟨hv, decide_eq_true (by rw [hve]; exact hx)⟩)
      rw [h2] at h1
      cases h1
    · obtain ⟨y, hy, hye⟩ := List.any_eq_true.1 hb
      rw [hQ] at hy
      have h3 := hA y (tw_front hy)
      have hye' : y.1 = x := of_decide_eq_true hye
      simp [hye', hx] at h3
/-! ### a call's result in its explicit form -/
theorem con_pu {γ : Type} {P : Program} {f : FuncId} {args : List Value} {L0 : List A} {ret : γ → Value} {pu p : γ → Prop} {L' : γ → List A} (h : Con P f args L0 ret pu L') (hp : ∀ g w O, Stars (L' g) w O → p g) : Con P f args L0 ret (fun g => pu g ∧ p g) L' := fun w O hs hd =>
  (h w O hs hd).mono fun _ _ ⟨g, O', h1, h2, h3, h4⟩ => ⟨g, O', h1, ⟨h2, hp g _ _ h3⟩, h3, h4⟩
theorem form_of {α : Type} {e : Enc α} {T : TypeId} {v : Value} {xs : List α} {Lr : List A} {w : World} {O : Perm} (h : Stars (Own e T v xs :: Lr) w O) : ∃ a0 cap, v = .slice a0 xs.length cap := by
  obtain ⟨O1, O2, _, h1, _⟩ := h
  obtain ⟨a0, cap, hv, _⟩ := Own.sl h1
  exact ⟨a0, cap, hv⟩
theorem holdersF_con (N t : Nat) (L W : List Hs) (n : ByteArray) (hN : N ≤ 1000) :
    Con Try.prog 39 [.pointer (some ⟨t, 0, none⟩), .string n] [TabR N t L W] (γ := Value × List Int) (fun r => r.1) (fun r => (KeysOf (fun o => getR L o n) r.2 ∧ r.2.length ≤ N) ∧ ∃ a0 cap, r.1 = .slice a0 r.2.length cap) (fun r => [Own (eInt .i64) 3 r.1 r.2, TabR N t L W]) :=
  con_pu (holdersR_con N t L W n hN) fun _ _ _ h => form_of h
theorem queueF_con (N t : Nat) (L W : List Hs) (n : ByteArray) (hN : N ≤ 1000) :
    Con Try.prog 41 [.pointer (some ⟨t, 0, none⟩), .string n] [TabR N t L W] (γ := Value) (fun r => r) (fun r => True ∧ ∃ a0 cap, r = .slice a0 ((queueR W n).map (·.1)).length cap) (fun r => [Own (eInt .i64) 3 r ((queueR W n).map (·.1)), TabR N t L W]) :=
  con_pu (queueRt_con N t L W n hN) fun _ _ _ h => form_of h
end Go.Proofs.Ytnamhhmfnokfiaa
/- Chapter 12: who is stuck stays, and who is not is served. -/
namespace Go.Proofs.Ytnamhhmfnokfiaa
open Go Go.SL
theorem serve_indF {P : List Hs → List Hs → Prop} (hs : ∀ L W w, firstR L W = some w → P L W → P (getsR L w) (withoutR W w.1)) : ∀ (k : Nat) (L W : List Hs) (out : List Int), P L W → P (serveR k L W out).1 (serveR k L W out).2.1
  | 0, _, _, _, h => h
  | k + 1, L, W, out, h => by
    cases hf : firstR L W with
    | none => simp only [serveR, hf]; exact h
    | some w => simp only [serveR, hf]; exact serve_indF hs k _ _ _ (hs L W w hf h)
theorem serve_dec : ∀ (k : Nat) (L W : List Hs) (out : List Int), serveR k L W out = (L, W, out) ∨ (serveR k L W out).2.1.length < W.length
  | 0, _, _, _ => .inl rfl
  | k + 1, L, W, out => by
    cases hf : firstR L W with
    | none => left; simp only [serveR, hf]
    | some w =>
      right
      have h := without_lt (first_mem hf)
      simp only [serveR, hf]
      rcases serve_dec k (getsR L w) (withoutR W w.1) (putI w.1 out) with e | e
      · rw [e]; exact h
      · omega
/-- Who is stuck, alone. -/
def GreatP (L W : List Hs) (l : List Int) : Prop := ClosedL L W (· ∈ l) ∧ ∀ T, ClosedL L W T → ∀ o, T o → o ∈ l
theorem tw_without {w : Hs} {o s : Int} (hw : w.1 ≠ o) (hs : s ≠ o) : ∀ Q : List Hs, ((withoutR Q o).takeWhile fun x => decide (x ≠ w)).any (fun y => decide (y.1 = s)) = (Q.takeWhile fun x => decide (x ≠ w)).any fun y => decide (y.1 = s)
  | [] => rfl
  | a :: Q => by
    have ih := tw_without hw hs Q
    by_cases ha : a.1 = o
    · have e : withoutR (a :: Q) o = withoutR Q o := List.filter_cons_of_neg (by simp [ha])
      have haw : a ≠ w := fun h => hw (h ▸ ha)
      rw [e, ih, List.takeWhile_cons, if_pos (by simp [haw]), List.any_cons, decide_eq_false (show ¬ a.1 = s from fun h => hs (h.symm.trans ha)), Bool.false_or]
    · have e : withoutR (a :: Q) o = a :: withoutR Q o := List.filter_cons_of_pos (by simp [ha])
      rw [e, List.takeWhile_cons, List.takeWhile_cons]
      split
      · rw [List.any_cons, List.any_cons, ih]
      · rfl
theorem bars_step {L L' W : List Hs} {o : Int} (hL : ∀ s n, s ≠ o → getR L' s n = getR L s n) {w : Hs} {s : Int} (hw : w.1 ≠ o) (hs : s ≠ o) : barsR L' (withoutR W o) w s = barsR L W w s := by
  unfold barsR
  rw [hL s _ hs, queue_without, tw_without hw hs]
theorem closed_fwd {L L' W : List Hs} {o : Int} (hL : ∀ s n, s ≠ o → getR L' s n = getR L s n) {T : Int → Prop} (h : ClosedL L W T) (ho : ¬ T o) : ClosedL L' (withoutR W o) T := fun a ha => by
  obtain ⟨w, hw, rfl, x, hx, hb⟩ := h a ha
  have h1 : w.1 ≠ o := fun e => ho (e ▸ ha)
  exact ⟨w, mem_without.2 ⟨hw, h1⟩, rfl, x, hx, (bars_step hL h1 fun e => ho (e ▸ hx)).trans hb⟩
theorem closed_back {L L' W : List Hs} {o : Int} (hL : ∀ s n, s ≠ o → getR L' s n = getR L s n) {T : Int → Prop} (h : ClosedL L' (withoutR W o) T) : ClosedL L W T := fun a ha => by
  have hT : ∀ x, T x → x ≠ o := fun x hx => by
    obtain ⟨w, hw, rfl, _⟩ := h x hx
    exact (mem_without.1 hw).2
  obtain ⟨w, hw, rfl, x, hx, hb⟩ := h a ha
  exact ⟨w, (mem_without.1 hw).1, rfl, x, hx, (bars_step hL (hT _ ha) (hT _ hx)).symm.trans hb⟩
theorem great_step {L L' W : List Hs} {o : Int} {l : List Int} (hL : ∀ s n, s ≠ o → getR L' s n = getR L s n) (h : GreatP L W l) (ho : o ∉ l) : GreatP L' (withoutR W o) l :=
  ⟨closed_fwd hL h.1 ho, fun T hT => h.2 T (closed_back hL hT)⟩
theorem first_out {L W : List Hs} {l : List Int} {z : Hs} (hi : (W.map (·.1)).Nodup) (hf : firstR L W = some z) (h : ClosedL L W (· ∈ l)) : z.1 ∉ l := fun hz => by
  obtain ⟨hzW, hq, hm⟩ := first_spec hf
  obtain ⟨w, hw, hwz, x, hx, hb⟩ := h z.1 hz
  have e1 := mem_waitR hi hw
  rw [hwz, mem_waitR hi hzW] at e1
  cases Option.some.inj e1
  unfold barsR at hb
  rcases Bool.or_eq_true_iff.1 hb with hb | hb
  · obtain ⟨h1, h2⟩ := Bool.and_eq_true_iff.1 hb
    obtain ⟨h3, h4⟩ := Bool.and_eq_true_iff.1 h2
    obtain ⟨k, hk⟩ := Option.isSome_iff_exists.1 h3
    rw [hk] at h4
    have : mayR L z = false := mayR_false.2 ⟨_, getR_mem hk, rfl, of_decide_eq_true h1, by simpa using h4⟩
    rw [this] at hm; cases hm
  · cases hQ : queueR W z.2.1 with
    | nil => rw [hQ] at hq; cases hq
    | cons a Q =>
      rw [hQ] at hq hb
      obtain rfl : a = z := by simpa using hq
      simp at hb
theorem nodup_without {W : List Hs} {o : Int} (h : (W.map fun x : Hs => x.1).Nodup) : ((withoutR W o).map fun x : Hs => x.1).Nodup := (List.filter_sublist.map _).nodup h
theorem great_free {L W : List Hs} {l : List Int} {o : Int} (hi : (W.map (·.1)).Nodup) (h : GreatP L W l) (ho : ∀ w ∈ W, w.1 ≠ o) : GreatP (freeR L W o).1 (freeR L W o).2.1 l := by
  have hl : o ∉ l := fun k => by
    obtain ⟨w, hw, e, _⟩ := h.1 o k
    exact ho w hw e
  have hsub : ((withoutR W o).map fun x : Hs => x.1).Nodup := nodup_without hi
  refine (serve_indF (P := fun L W => (W.map fun x : Hs => x.1).Nodup ∧ GreatP L W l) (fun L W w hf k => ⟨nodup_without k.1, great_step (fun s n hs => ?_) k.2 (first_out k.1 hf k.2.1)⟩) _ _ _ _ ⟨hsub, great_step (fun s n hs => ?_) h hl⟩).2
  · rw [getR_gets, if_neg fun e => hs e.1.symm]
  · rw [getR_without, if_neg hs]
theorem free_dec {L W : List Hs} {o : Int} (ho : ∀ w ∈ W, w.1 ≠ o) : ((freeR L W o).1 = withoutR L o ∧ (freeR L W o).2.1 = W) ∨ (freeR L W o).2.1.length < W.length := by
  have e : withoutR W o = W := without_ne ho
  unfold freeR
  rw [e]
  rcases serve_dec W.length (withoutR L o) W [] with h | h
  · left; rw [h]; exact ⟨rfl, rfl⟩
  · exact .inr h
theorem waiters_closed {L W : List Hs} (hi : Inv0 L W) (hh : HeadP L W) (hx : ∀ x ∈ L, ∃ w ∈ W, w.1 = x.1) : ClosedL L W fun o => ∃ w ∈ W, w.1 = o := by
  rintro o ⟨w, hw, rfl⟩
  refine ⟨w, hw, rfl, ?_⟩
  have hq : w ∈ queueR W w.2.1 := List.mem_filter.2 ⟨hw, decide_eq_true rfl⟩
  cases hQ : queueR W w.2.1 with
  | nil => rw [hQ] at hq; cases hq
  | cons a Q =>
    have ha : a ∈ W := (List.mem_filter.1 (show a ∈ queueR W w.2.1 by rw [hQ]; simp)).1
    by_cases e : a = w
    · subst e
      obtain ⟨x, hxL, h1, h2, h3⟩ := mayR_false.1 (hh a.2.1 a (by rw [hQ]; rfl))
      refine ⟨x.1, hx x hxL, ?_⟩
      have hg : getR L x.1 a.2.1 = some x.2.2 := h1 ▸ mem_getR hi.ln hxL
      unfold barsR
      rw [hg, decide_eq_true h2]
      simp [h3]
    · refine ⟨a.1, ⟨a, ha, rfl⟩, ?_⟩
      unfold barsR
      rw [hQ, List.takeWhile_cons, if_pos (by simp [e]), List.any_cons, decide_eq_true rfl]
      simp
/-- Behind j owners of a pass. -/
def PassP (ow : List Int) (W0 : List Hs) (j : Nat) (L W : List Hs) : Prop := W.length < W0.length ∨ (W = W0 ∧ ∀ x ∈ L, x.1 ∈ ow.take j → ∃ w ∈ W, w.1 = x.1)
theorem pass_wait {ow : List Int} {W0 L W : List Hs} {j : Nat} (hj : j < ow.length) (h : PassP ow W0 j L W) (hw : ∃ w ∈ W, w.1 = ow[j]) : PassP ow W0 (j + 1) L W :=
  h.imp id fun ⟨h1, h2⟩ => ⟨h1, fun x hx hm => by
    rw [List.take_succ_eq_append_getElem hj] at hm
    rcases List.mem_append.1 hm with k | k
    · exact h2 x hx k
    · rw [List.mem_singleton.1 k]; exact hw⟩
theorem pass_free {ow : List Int} {W0 L W : List Hs} {j : Nat} (hj : j < ow.length) (h : PassP ow W0 j L W) (ho : ∀ w ∈ W, w.1 ≠ ow[j]) : PassP ow W0 (j + 1) (freeR L W ow[j]).1 (freeR L W ow[j]).2.1 := by
  rcases free_dec (L := L) ho with ⟨h1, h2⟩ | h1
  · rw [h1, h2]
    refine h.imp id fun ⟨h3, h4⟩ => ⟨h3, fun x hx hm => ?_⟩
    obtain ⟨hx1, hx2⟩ := mem_without.1 hx
    rw [List.take_succ_eq_append_getElem hj] at hm
    rcases List.mem_append.1 hm with k | k
    · exact h4 x hx1 k
    · exact absurd (List.mem_singleton.1 k) hx2
  · rcases h with h | ⟨h, _⟩
    · exact .inl (by omega)
    · exact .inl (by rw [← h]; exact h1)
theorem pass_end {ow : List Int} {W0 L W : List Hs} {l : List Int} (h : PassP ow W0 ow.length L W) (ha : RowsAll (· ∈ ow) L W) (hi : Inv0 L W) (hh : HeadP L W) (hg : GreatP L W l) : W.length < W0.length ∨ ∀ w ∈ W, w.1 ∈ l := by
  rcases h with h | ⟨_, h⟩
  · exact .inl h
  · right
    have hc := waiters_closed hi hh fun x hx => h x hx (by rw [List.take_length]; exact ha.1 x hx)
    exact fun w hw => hg.2 _ hc w.1 ⟨w, hw, rfl⟩
theorem next_all {p : Int → Prop} {L W : List Hs} {o : Int × Int × ByteArray × Int} (ho : p o.2.1) (h : RowsAll p L W) : RowsAll p (if o.1 = 0 then ((askR L W o.2.1 o.2.2.1 o.2.2.2).1, (askR L W o.2.1 o.2.2.1 o.2.2.2).2.1) else if o.1 = 1 then ((freeR L W o.2.1).1, (freeR L W o.2.1).2.1) else (L, W)).1 (if o.1 = 0 then ((askR L W o.2.1 o.2.2.1 o.2.2.2).1, (askR L W o.2.1 o.2.2.1 o.2.2.2).2.1) else if o.1 = 1 then ((freeR L W o.2.1).1, (freeR L W o.2.1).2.1) else (L, W)).2 := by
  split
  · exact all_ask _ _ ho h
  · split
    · exact all_mono (all_free _ h) fun _ k => k.1
    · exact h
end Go.Proofs.Ytnamhhmfnokfiaa
/- LockServes. -/
namespace Go.Proofs.Ytnamhhmfnokfiaa
open Go Go.SL
theorem free_sub {L W : List Hs} {o : Int} : ∀ w ∈ (freeR L W o).2.1, w ∈ W :=
  serve_ind (P := fun _ W' => ∀ w ∈ W', w ∈ W) (fun _ _ _ _ h w hw => h w (mem_without.1 hw).1) _ _ _ _ fun _ hw => (mem_without.1 hw).1
attribute [local irreducible] Cfg Kont StepK Val Con Qops Any Sl Own Blk BlkR Rd Pu ExA AllA Has Pick Ent Elem Beside Callable TI Lone OwnO AndA
set_option maxRecDepth 100000 in
theorem lockServes_con (v : Value) (ss : List Op12) (hss : ss.length ≤ 8796093022207) :
    Con Try.prog 13 [v] [Sl eOp12 v ss] (γ := Unit) (fun _ => .bool true) (fun _ => True) (fun _ => []) := by
  refine con_of Try.func13 rfl (dd rfl) fun w0 O0 => ?_
  refine c_seq ?_
  refine c_region ?_
  refine o_val (v_assign rfl) (dd rfl) ?_
  refine o_nil ?_
  refine c_seq ?_
  refine c_seq ?_
  refine c_region ?_
  refine o_val (v_move rfl) (dd rfl) ?_
  refine o_step (s_callf_keep cl36 (few12_con v ss hss) rfl (dd rfl) (rX (by repeat constructor)) (fun _ => sX) (fun fw hfw => ?_))
  refine o_val (v_not rfl) (dd rfl) ?_
  refine o_nil ?_
  refine c_cond rfl (fun hf => ?_) (fun hf => ?_)
  · refine c_seq ?_
    refine c_region ?_
    refine o_step (s_callf_keep cl35 (alive12_con) rfl (dd rfl) (rX (by repeat constructor)) (fun _ => sX) (fun _ _ => ?_))
    refine o_val (v_assign rfl) (dd rfl) ?_
    refine o_nil ?_
    refine c_ret1 Try.func13 rfl rfl fun w O hS => ?_
    exact ⟨(), rfl, trivial, trivial⟩
  · have hs : ss.length ≤ 40 := hfw (by simpa using hf)
    refine c_skip ?_
    refine c_seq ?_
    refine c_region ?_
    refine o_val (v_buildS (places := [(0, 1), (1, 1)]) (cells := [.map none, .map none]) Try.underlying75 ti75 (by kernel_rfl) rfl (by repeat (first | exact PartsC.nil | (apply PartsC.one (by first | exact OneC.lit rfl | exact OneC.sl (hX (by repeat constructor)) )) | (apply PartsC.lit rfl))) rfl) (dd rfl) ?_
    refine o_step (s_box rfl (dd rfl) (fun b24 => ?_))
    refine o_val (v_assign rfl) (dd rfl) ?_
    refine o_nil ?_
    refine c_seq ?_
    refine c_seq ?_
    refine c_region ?_
    refine o_val (v_move rfl) (dd rfl) ?_
    refine o_val ((by first | exact v_len_form Try.underlying69 rfl | exact v_len_sl Try.underlying69 rfl (hX (by repeat constructor)))) (dd rfl) ?_
    refine o_val (v_move rfl) (dd rfl) ?_
    refine o_nil ?_
    refine c_block ?_
    refine c_ent (L' := [Blk b24 75 [.map none, .map none], Sl eOp12 v ss]) (eX (by repeat constructor)) ?_
    refine c_ent tabR_new ?_
    refine c_loopR (γ := Nat × Nat × List Hs × List Hs) [(0, _), (2, _), (25, _), (26, _)] (fun g => ss.length - g.1) (fun g => g.1 ≤ ss.length ∧ g.2.2.1.length + g.2.2.2.length ≤ g.1 ∧ RowsAll (· ∈ ss.map (·.2.1)) g.2.2.1 g.2.2.2) (fun g => [(27, .int .i64 g.1), (3, .pointer (some ⟨g.2.1, 0, none⟩))]) (fun g => [TabR (2 * g.1) g.2.1 g.2.2.1 g.2.2.2, Sl eOp12 v ss]) ((0, b24, [], [])) (⟨Nat.zero_le _, Nat.le_refl _, all_nil _⟩) (by repeat (first | exact trivial | refine ⟨rfl, ?_⟩)) (eX (by repeat constructor)) ?_
    rintro ⟨i, t0, L0, W0⟩ ⟨hi, hLW, hA0⟩ IH
    dsimp only at hi hLW hA0 ⊢
    try dsimp only [List.cons_append, List.nil_append]
    refine c_seq ?_
    refine c_region ?_
    refine o_val (v_lt rfl rfl) (dd rfl) ?_
    refine o_nil ?_
    refine c_seq ?_
    refine c_cond_p rfl (fun hlt => ?_) (fun hlt => ?_)
    · have hi' : i < ss.length := by omega
      have hA1 : RowsAll (· ∈ ss.map (·.2.1)) (nextR L0 W0 (ss[i]'hi')).1 (nextR L0 W0 (ss[i]'hi')).2 := next_all (List.mem_map.2 ⟨_, List.getElem_mem hi', rfl⟩) hA0
      refine c_skip ?_
      refine c_seq ?_
      refine c_block ?_
      refine c_seq ?_
      refine c_region ?_
      refine o_val ((by first | exact v_indexAddrN Try.underlying69 ti80 rfl rfl (hX (by repeat constructor)) (by omega) | exact v_indexAddr Try.underlying69 ti80 rfl rfl (hX (by repeat constructor)) (by omega))) (dd rfl) ?_
      refine o_val (v_load_p (by repeat (first | exact PEnc.int _ | exact PEnc.str | exact PEnc.bool | exact PEnc.byte | exact PEnc.raw | apply PEnc.pair | apply PEnc.map)) ⟨_, Try.underlying80⟩ ti80 rfl (by repeat (first|exact el1 (by omega)|exact el2 (by omega)|exact el3 (by omega)|apply Elem.there))) (dd rfl) ?_
      refine o_step (s_alloc ti80 (dd rfl) (fun b5 => ?_))
      refine o_step (s_store_all ti80 rfl rfl (by first | exact CellsV.lit rfl | exact CellsV.one (by first | exact OneC.lit rfl | exact OneC.sl (hX (by repeat constructor)) )) (by repeat (first | exact OneAll.nil | (refine OneAll.cons ?_ ?_; · first | exact OneC.lit rfl | exact OneC.sl (hX (by repeat constructor)) ) | exact OneAll.rd (hX (by repeat constructor)))) rfl (pB (by repeat constructor)) rfl (?_))
      refine o_nil ?_
      refine c_ent (Ent.beside (b := Sl eHs (.slice none 0 0) ([] : List Hs)) (fun w O _ => Sl.nil eHs w _)) ?_
      refine c_ent (Ent.beside (b := Sl eHs (.slice none 0 0) ([] : List Hs)) (fun w O _ => Sl.nil eHs w _)) ?_
      refine c_region ?_
      refine o_val (v_move rfl) (dd rfl) ?_
      refine o_val (v_buildS (places := [(0, 1), (1, 1)]) (cells := [.slice none 0 0, .slice none 0 0]) Try.underlying78 ti78 (by kernel_rfl) rfl (by repeat (first | exact PartsC.nil | (apply PartsC.one (by first | exact OneC.lit rfl | exact OneC.sl (hX (by repeat constructor)) )) | (apply PartsC.lit rfl))) rfl) (dd rfl) ?_
      refine o_val (v_load_all ⟨_, Try.underlying80⟩ ti80 rfl (hX (by repeat constructor)) rfl) (dd rfl) ?_
      refine o_step (s_callf cl37 (does12_con (2 * i) t0 L0 W0 [] [] (.slice none 0 0) (.slice none 0 0) (ss[i]'hi') (by omega) (by decide) (by omega)) rfl (dd rfl) (pXs (by repeat constructor)) fun rd _ => ?_)
      refine o_val (v_move rfl) (dd rfl) ?_
      refine o_val (v_extract rfl rfl) (dd rfl) ?_
      refine o_val (v_extract rfl rfl) (dd rfl) ?_
      refine o_val (v_extract rfl rfl) (dd rfl) ?_
      refine o_val (v_assign rfl) (dd rfl) ?_
      refine o_nil ?_
      refine c_inBlock ?_
      refine c_region ?_
      refine o_val ((by first | exact v_add64 rfl rfl (by omega) | exact v_add rfl rfl)) (dd rfl) ?_
      refine o_val (v_move rfl) (dd rfl) ?_
      refine o_nil ?_
      have hnl := next_len L0 W0 (ss[i]'hi')
      refine c_use (IH ((i + 1, rd.1, nextR L0 W0 (ss[i]'hi'))) (by first | omega | (dsimp only; omega)) (⟨by dsimp only; omega, by dsimp only; omega, hA1⟩)) (by repeat (first | exact trivial | refine ⟨rfl, ?_⟩)) (eX (by repeat constructor))
    · have hie : i = ss.length := by omega
      refine c_exit rfl ?_
      refine c_seq ?_
      refine c_region ?_
      refine o_step (s_makeMap (ke := kInt) (dd rfl) (fun b40 => ?_))
      refine o_val (v_assign rfl) (dd rfl) ?_
      refine o_nil ?_
      refine c_seq ?_
      refine c_seq ?_
      refine c_region ?_
      refine o_val (v_move rfl) (dd rfl) ?_
      refine o_step (s_callf cl43 (stuckRt_con (2 * i) t0 L0 W0 (by omega)) rfl (dd rfl) (pXs (by repeat constructor)) fun r hr => ?_)
      refine o_val ((by first | exact v_len_form Try.underlying35 rfl | exact v_len_sl Try.underlying35 rfl (hX (by repeat constructor)))) (dd rfl) ?_
      refine o_val (v_move rfl) (dd rfl) ?_
      refine o_nil ?_
      refine c_block ?_
      obtain ⟨rv, l⟩ := r
      obtain ⟨hst, hl⟩ := hr
      dsimp only at hst hl ⊢
      have hG0 : GreatP L0 W0 l := ⟨hst.closed, hst.great⟩
      refine c_loopR (γ := Nat × List (Int × Value)) [(0, _), (2, _), (3, _), (6, _), (42, _), (43, _)] (fun g => l.length - g.1) (fun g => g.1 ≤ l.length ∧ ∀ y, Go.SL.look g.2 y = if y ∈ l.take g.1 then some (.int .i64 1) else none) (fun g => [(44, .int .i64 g.1)]) (fun g => [Own (eInt .i64) 3 rv l, MapO kInt (some b40) g.2, TabR (2 * i) t0 L0 W0, Sl eOp12 v ss]) ((0, [])) (⟨Nat.zero_le _, fun _ => rfl⟩) (by repeat (first | exact trivial | refine ⟨rfl, ?_⟩)) (eX (by repeat constructor)) ?_
      rintro ⟨k, m⟩ ⟨hk, hm⟩ IH2
      dsimp only at hk hm ⊢
      try dsimp only [List.cons_append, List.nil_append]
      refine c_seq ?_
      refine c_region ?_
      refine o_val (v_lt rfl rfl) (dd rfl) ?_
      refine o_nil ?_
      refine c_seq ?_
      refine c_cond_p rfl (fun hlk => ?_) (fun hlk => ?_)
      · have hk' : k < l.length := by omega
        have hm2 : ∀ y, Go.SL.look (upd m (l[k]'hk') (.int .i64 1)) y = if y ∈ l.take (k + 1) then some (.int .i64 1) else none := fun y => by
          have hin : y ∈ l.take (k + 1) ↔ y ∈ l.take k ∨ y = l[k]'hk' := by rw [List.take_succ_eq_append_getElem hk', List.mem_append, List.mem_singleton]
          rw [look_upd, hm]
          by_cases e : y = l[k]'hk'
          · rw [if_pos e, if_pos (hin.2 (.inr e))]
          · rw [if_neg e]
            by_cases h : y ∈ l.take k
            · rw [if_pos h, if_pos (hin.2 (.inl h))]
            · rw [if_neg h, if_neg fun q => (hin.1 q).elim h e]
        refine c_skip ?_
        refine c_seq ?_
        refine c_block ?_
        refine c_seq ?_
        refine c_region ?_
        refine o_val ((by first | exact v_indexAddrN Try.underlying35 ti3 rfl rfl (hX (by repeat constructor)) (by omega) | exact v_indexAddr Try.underlying35 ti3 rfl rfl (hX (by repeat constructor)) (by omega))) (dd rfl) ?_
        refine o_val (v_load_int lone3 rfl (by repeat (first | exact Elem.sl (List.getElem?_eq_getElem (by omega)) | exact Elem.own (List.getElem?_eq_getElem (by omega)) | exact Elem.ownO (List.getElem?_eq_getElem (by omega)) | apply Elem.there))) (dd rfl) ?_
        refine o_val (v_assign rfl) (dd rfl) ?_
        refine o_nil ?_
        refine c_region ?_
        refine o_val (v_move rfl) (dd rfl) ?_
        refine o_val (v_move rfl) (dd rfl) ?_
        refine o_step (s_mapUpdate kInt Try.underlying97 Try.underlying3 kInt_sc rfl rfl rfl (pX (by repeat constructor)) (?_))
        refine o_nil ?_
        refine c_inBlock ?_
        refine c_region ?_
        refine o_val ((by first | exact v_add64 rfl rfl (by omega) | exact v_add rfl rfl)) (dd rfl) ?_
        refine o_val (v_move rfl) (dd rfl) ?_
        refine o_nil ?_
        refine c_use (IH2 ((k + 1, upd m (l[k]'hk') (.int .i64 1))) (by first | omega | (dsimp only; omega)) (⟨by dsimp only; omega, hm2⟩)) (by repeat (first | exact trivial | refine ⟨rfl, ?_⟩)) (eX (by repeat constructor))
      · have hke : k = l.length := by omega
        have hml : ∀ y, Go.SL.look m y = if y ∈ l then some (.int .i64 1) else none := fun y => by rw [hm, hke, List.take_length]
        refine c_exit rfl ?_
        refine c_seq ?_
        refine c_seq ?_
        refine c_region ?_
        refine o_val (v_move rfl) (dd rfl) ?_
        refine o_val ((by first | exact v_len_form Try.underlying69 rfl | exact v_len_sl Try.underlying69 rfl (hX (by repeat constructor)))) (dd rfl) ?_
        refine o_val (v_move rfl) (dd rfl) ?_
        refine o_nil ?_
        refine c_block ?_
        refine c_loopR (γ := Nat × List Hs × List Hs) [(0, _), (2, _), (3, _), (6, _), (52, _)] (fun g => ss.length - g.1) (fun g => g.1 ≤ ss.length ∧ GreatP g.2.1 g.2.2 l ∧ RowsAll (· ∈ ss.map (·.2.1)) g.2.1 g.2.2 ∧ ((∀ w ∈ g.2.2, w.1 ∈ l) ∨ g.2.2.length + g.1 ≤ ss.length)) (fun g => [(53, .int .i64 g.1)]) (fun g => [TabR (2 * i) t0 g.2.1 g.2.2, MapO kInt (some b40) m, Sl eOp12 v ss]) ((0, L0, W0)) (⟨Nat.zero_le _, hG0, hA0, .inr (by dsimp only; omega)⟩) (by repeat (first | exact trivial | refine ⟨rfl, ?_⟩)) (eX (by repeat constructor)) ?_
        rintro ⟨p, L1, W1⟩ ⟨hp, hG1, hA1, hD1⟩ IH3
        dsimp only at hp hG1 hA1 hD1 ⊢
        try dsimp only [List.cons_append, List.nil_append]
        refine c_seq ?_
        refine c_region ?_
        refine o_val (v_lt rfl rfl) (dd rfl) ?_
        refine o_nil ?_
        refine c_seq ?_
        refine c_cond_p rfl (fun hlp => ?_) (fun hlp => ?_)
        · have hp' : p < ss.length := by omega
          refine c_skip ?_
          refine c_seq ?_
          refine c_block ?_
          refine c_seq ?_
          refine c_region ?_
          refine o_val (v_move rfl) (dd rfl) ?_
          refine o_val ((by first | exact v_len_form Try.underlying69 rfl | exact v_len_sl Try.underlying69 rfl (hX (by repeat constructor)))) (dd rfl) ?_
          refine o_val (v_move rfl) (dd rfl) ?_
          refine o_nil ?_
          refine c_block ?_
          refine c_loopR (γ := Nat × List Hs × List Hs) [(0, _), (2, _), (3, _), (6, _), (52, _), (53, _), (54, _), (55, _), (56, _)] (fun g => ss.length - g.1) (fun g => g.1 ≤ ss.length ∧ GreatP g.2.1 g.2.2 l ∧ RowsAll (· ∈ ss.map (·.2.1)) g.2.1 g.2.2 ∧ ((∀ w ∈ g.2.2, w.1 ∈ l) ∨ W1.length + p ≤ ss.length) ∧ PassP (ss.map (·.2.1)) W1 g.1 g.2.1 g.2.2) (fun g => [(57, .int .i64 g.1)]) (fun g => [TabR (2 * i) t0 g.2.1 g.2.2, MapO kInt (some b40) m, Sl eOp12 v ss]) ((0, L1, W1)) (⟨Nat.zero_le _, hG1, hA1, hD1, .inr ⟨rfl, fun _ _ h => by simp at h⟩⟩) (by repeat (first | exact trivial | refine ⟨rfl, ?_⟩)) (eX (by repeat constructor)) ?_
          rintro ⟨j, L, W⟩ ⟨hj, hG, hA, hD, hP⟩ IH4
          dsimp only at hj hG hA hD hP ⊢
          refine c_fact (a := TabR (2 * i) t0 L W) (p := Inv0 L W ∧ HeadP L W) (hX (by repeat constructor)) (fun _ _ k => tabR_inv k) fun ⟨hI, hH⟩ => ?_
          try dsimp only [List.cons_append, List.nil_append]
          refine c_seq ?_
          refine c_region ?_
          refine o_val (v_lt rfl rfl) (dd rfl) ?_
          refine o_nil ?_
          refine c_seq ?_
          refine c_cond_p rfl (fun hlj => ?_) (fun hlj => ?_)
          · have hj' : j < ss.length := by omega
            have hjo : j < (ss.map (·.2.1)).length := by rw [List.length_map]; exact hj'
            have he : (ss.map (·.2.1))[j]'hjo = (ss[j]'hj').2.1 := List.getElem_map _
            refine c_skip ?_
            refine c_seq ?_
            refine c_block ?_
            refine c_seq ?_
            refine c_region ?_
            refine o_val ((by first | exact v_indexAddrN Try.underlying69 ti80 rfl rfl (hX (by repeat constructor)) (by omega) | exact v_indexAddr Try.underlying69 ti80 rfl rfl (hX (by repeat constructor)) (by omega))) (dd rfl) ?_
            refine o_val (v_load_p (by repeat (first | exact PEnc.int _ | exact PEnc.str | exact PEnc.bool | exact PEnc.byte | exact PEnc.raw | apply PEnc.pair | apply PEnc.map)) ⟨_, Try.underlying80⟩ ti80 rfl (by repeat (first|exact el1 (by omega)|exact el2 (by omega)|exact el3 (by omega)|apply Elem.there))) (dd rfl) ?_
            refine o_step (s_alloc ti80 (dd rfl) (fun b10 => ?_))
            refine o_step (s_store_all ti80 rfl rfl (by first | exact CellsV.lit rfl | exact CellsV.one (by first | exact OneC.lit rfl | exact OneC.sl (hX (by repeat constructor)) )) (by repeat (first | exact OneAll.nil | (refine OneAll.cons ?_ ?_; · first | exact OneC.lit rfl | exact OneC.sl (hX (by repeat constructor)) ) | exact OneAll.rd (hX (by repeat constructor)))) rfl (pB (by repeat constructor)) rfl (?_))
            refine o_nil ?_
            refine c_seq ?_
            refine c_region ?_
            refine o_val (v_move rfl) (dd rfl) ?_
            refine o_val (v_fieldAddrC 1 Try.underlying80 rfl ti3 (by decide) rfl) (dd rfl) ?_
            refine o_val (v_load lone3 rfl (hX (by repeat constructor)) rfl) (dd rfl) ?_
            refine o_step (s_callf cl47 (waitsR_con (2 * i) t0 L W (ss[j]'hj').2.1 (by omega)) rfl (dd rfl) (pXs (by repeat constructor)) fun _ _ => ?_)
            refine o_val (v_move rfl) (dd rfl) ?_
            refine o_val (v_extract rfl rfl) (dd rfl) ?_
            refine o_val (v_extract rfl rfl) (dd rfl) ?_
            refine o_val (v_extract rfl rfl) (dd rfl) ?_
            refine o_val (v_assign rfl) (dd rfl) ?_
            refine o_val (v_assign rfl) (dd rfl) ?_
            refine o_val (v_assign rfl) (dd rfl) ?_
            refine o_nil ?_
            refine c_seq ?_
            refine c_region ?_
            refine o_val (v_move rfl) (dd rfl) ?_
            refine o_val (v_not rfl) (dd rfl) ?_
            refine o_nil ?_
            refine c_cond rfl (fun hw => ?_) (fun hw => ?_)
            · have hwn : ∀ w ∈ W, w.1 ≠ (ss[j]'hj').2.1 := waitR_none.1 (by simpa using hw)
              have hP2 := pass_free hjo hP (by rw [he]; exact hwn)
              rw [he] at hP2
              have hD2 : (∀ w ∈ (freeR L W (ss[j]'hj').2.1).2.1, w.1 ∈ l) ∨ W1.length + p ≤ ss.length := hD.imp (fun h w hw => h w (free_sub w hw)) id
              refine c_region ?_
              refine o_val (v_move rfl) (dd rfl) ?_
              refine o_val (v_fieldAddrC 1 Try.underlying80 rfl ti3 (by decide) rfl) (dd rfl) ?_
              refine o_val (v_load lone3 rfl (hX (by repeat constructor)) rfl) (dd rfl) ?_
              refine o_step (s_callf cl45 (freeRt_con (2 * i) t0 L W (ss[j]'hj').2.1 (by omega)) rfl (dd rfl) (pXs (by repeat constructor)) fun fv _ => ?_)
              refine o_nil ?_
              refine c_inBlock ?_
              refine c_region ?_
              refine o_val ((by first | exact v_add64 rfl rfl (by omega) | exact v_add rfl rfl)) (dd rfl) ?_
              refine o_val (v_move rfl) (dd rfl) ?_
              refine o_nil ?_
              refine c_use (IH4 ((j + 1, (freeR L W (ss[j]'hj').2.1).1, (freeR L W (ss[j]'hj').2.1).2.1)) (by first | omega | (dsimp only; omega)) (⟨by dsimp only; omega, great_free hI.wn hG hwn, all_mono (all_free _ hA) (fun _ h => h.1), hD2, hP2⟩)) (by repeat (first | exact trivial | refine ⟨rfl, ?_⟩)) (eX (by repeat constructor))
            · obtain ⟨x, hx⟩ := Option.isSome_iff_exists.1 (show (waitR W (ss[j]'hj').2.1).isSome = true by simpa using hw)
              have hP2 := pass_wait hjo hP ⟨x, (waitR_mem hx).1, by rw [he]; exact (waitR_mem hx).2⟩
              refine c_skip ?_
              refine c_inBlock ?_
              refine c_region ?_
              refine o_val ((by first | exact v_add64 rfl rfl (by omega) | exact v_add rfl rfl)) (dd rfl) ?_
              refine o_val (v_move rfl) (dd rfl) ?_
              refine o_nil ?_
              refine c_use (IH4 ((j + 1, L, W)) (by first | omega | (dsimp only; omega)) (⟨by dsimp only; omega, hG, hA, hD, hP2⟩)) (by repeat (first | exact trivial | refine ⟨rfl, ?_⟩)) (eX (by repeat constructor))
          · have hje : j = (ss.map (·.2.1)).length := by rw [List.length_map]; omega
            have hE := pass_end (hje ▸ hP) hA hI hH hG
            have hD2 : (∀ w ∈ W, w.1 ∈ l) ∨ W.length + (p + 1) ≤ ss.length := hD.elim .inl fun h => hE.elim (fun k => .inr (by omega)) .inl
            refine c_exit rfl ?_
            refine c_inBlock ?_
            refine c_region ?_
            refine o_val ((by first | exact v_add64 rfl rfl (by omega) | exact v_add rfl rfl)) (dd rfl) ?_
            refine o_val (v_move rfl) (dd rfl) ?_
            refine o_nil ?_
            refine c_use (IH3 ((p + 1, L, W)) (by first | omega | (dsimp only; omega)) (⟨by dsimp only; omega, hG, hA, hD2⟩)) (by repeat (first | exact trivial | refine ⟨rfl, ?_⟩)) (eX (by repeat constructor))
        · have hall : ∀ w ∈ W1, w.1 ∈ l := hD1.elim id fun h w hw => by
            have : W1 = [] := List.length_eq_zero_iff.1 (by omega)
            rw [this] at hw; cases hw
          refine c_exit rfl ?_
          refine c_seq ?_
          refine c_seq ?_
          refine c_region ?_
          refine o_val (v_move rfl) (dd rfl) ?_
          refine o_val ((by first | exact v_len_form Try.underlying69 rfl | exact v_len_sl Try.underlying69 rfl (hX (by repeat constructor)))) (dd rfl) ?_
          refine o_val (v_move rfl) (dd rfl) ?_
          refine o_nil ?_
          refine c_block ?_
          refine c_loopR (γ := Nat) [(2, _), (3, _), (6, _), (77, _), (78, _)] (fun j => ss.length - j) (fun j => j ≤ ss.length) (fun j => [(79, .int .i64 j)]) (fun _ => [TabR (2 * i) t0 L1 W1, MapO kInt (some b40) m, Sl eOp12 v ss]) (0) (Nat.zero_le _) (by repeat (first | exact trivial | refine ⟨rfl, ?_⟩)) (eX (by repeat constructor)) ?_
          rintro j hj IH5
          try dsimp only [List.cons_append, List.nil_append]
          refine c_seq ?_
          refine c_region ?_
          refine o_val (v_lt rfl rfl) (dd rfl) ?_
          refine o_nil ?_
          refine c_seq ?_
          refine c_cond_p rfl (fun hlj => ?_) (fun hlj => ?_)
          · have hj' : j < ss.length := by omega
            by_cases hy : (ss[j]'hj').2.1 ∈ l
            · have hk0 : Go.SL.look m (ss[j]'hj').2.1 = some (.int .i64 1) := by rw [hml, if_pos hy]
              have hw1 : (waitR W1 (ss[j]'hj').2.1).isSome = true := by
                obtain ⟨w, hw, hwe, _⟩ := hG1.1 _ hy
                cases h : waitR W1 (ss[j]'hj').2.1 with
                | some x => rfl
                | none => exact absurd hwe (waitR_none.1 h w hw)
              refine c_skip ?_
              refine c_seq ?_
              refine c_block ?_
              refine c_seq ?_
              refine c_region ?_
              refine o_val ((by first | exact v_indexAddrN Try.underlying69 ti80 rfl rfl (hX (by repeat constructor)) (by omega) | exact v_indexAddr Try.underlying69 ti80 rfl rfl (hX (by repeat constructor)) (by omega))) (dd rfl) ?_
              refine o_val (v_load_p (by repeat (first | exact PEnc.int _ | exact PEnc.str | exact PEnc.bool | exact PEnc.byte | exact PEnc.raw | apply PEnc.pair | apply PEnc.map)) ⟨_, Try.underlying80⟩ ti80 rfl (by repeat (first|exact el1 (by omega)|exact el2 (by omega)|exact el3 (by omega)|apply Elem.there))) (dd rfl) ?_
              refine o_step (s_alloc ti80 (dd rfl) (fun b15 => ?_))
              refine o_step (s_store_all ti80 rfl rfl (by first | exact CellsV.lit rfl | exact CellsV.one (by first | exact OneC.lit rfl | exact OneC.sl (hX (by repeat constructor)) )) (by repeat (first | exact OneAll.nil | (refine OneAll.cons ?_ ?_; · first | exact OneC.lit rfl | exact OneC.sl (hX (by repeat constructor)) ) | exact OneAll.rd (hX (by repeat constructor)))) rfl (pB (by repeat constructor)) rfl (?_))
              refine o_nil ?_
              refine c_seq ?_
              refine c_region ?_
              refine o_val (v_move rfl) (dd rfl) ?_
              refine o_val (v_fieldAddrC 1 Try.underlying80 rfl ti3 (by decide) rfl) (dd rfl) ?_
              refine o_val (v_load lone3 rfl (hX (by repeat constructor)) rfl) (dd rfl) ?_
              refine o_step (s_callf cl47 (waitsR_con (2 * i) t0 L1 W1 (ss[j]'hj').2.1 (by omega)) rfl (dd rfl) (pXs (by repeat constructor)) fun _ _ => ?_)
              refine o_val (v_move rfl) (dd rfl) ?_
              refine o_val (v_extract rfl rfl) (dd rfl) ?_
              refine o_val (v_extract rfl rfl) (dd rfl) ?_
              refine o_val (v_extract rfl rfl) (dd rfl) ?_
              refine o_val (v_assign rfl) (dd rfl) ?_
              refine o_val (v_assign rfl) (dd rfl) ?_
              refine o_val (v_assign rfl) (dd rfl) ?_
              refine o_nil ?_
              refine c_seq ?_
              rw [hw1]
              refine c_region ?_
              refine o_val (v_move rfl) (dd rfl) ?_
              refine o_val (v_move rfl) (dd rfl) ?_
              refine o_val (v_fieldAddrC 1 Try.underlying80 rfl ti3 (by decide) rfl) (dd rfl) ?_
              refine o_val (v_load lone3 rfl (hX (by repeat constructor)) rfl) (dd rfl) ?_
              refine o_val (v_lookupO kInt Try.underlying97 Try.underlying3 ti3 rfl rfl (hX (by repeat constructor))) (dd rfl) ?_
              try simp only [hk0, Option.getD_none, Option.getD_some, Option.isSome_none, Option.isSome_some]
              refine o_val (v_gt rfl rfl) (dd rfl) ?_
              refine o_val (v_bne Try.underlying4 rfl rfl) (dd rfl) ?_
              refine o_nil ?_
              refine c_cond_f rfl ?_
              refine c_skip ?_
              refine c_inBlock ?_
              refine c_region ?_
              refine o_val ((by first | exact v_add64 rfl rfl (by omega) | exact v_add rfl rfl)) (dd rfl) ?_
              refine o_val (v_move rfl) (dd rfl) ?_
              refine o_nil ?_
              refine c_use (IH5 (j + 1) (by first | omega | (dsimp only; omega)) (by omega)) (by repeat (first | exact trivial | refine ⟨rfl, ?_⟩)) (eX (by repeat constructor))
            · have hk0 : Go.SL.look m (ss[j]'hj').2.1 = none := by rw [hml, if_neg hy]
              have hw1 : (waitR W1 (ss[j]'hj').2.1).isSome = false := by
                cases h : waitR W1 (ss[j]'hj').2.1 with
                | none => rfl
                | some x => exact absurd ((waitR_mem h).2 ▸ hall x (waitR_mem h).1) hy
              refine c_skip ?_
              refine c_seq ?_
              refine c_block ?_
              refine c_seq ?_
              refine c_region ?_
              refine o_val ((by first | exact v_indexAddrN Try.underlying69 ti80 rfl rfl (hX (by repeat constructor)) (by omega) | exact v_indexAddr Try.underlying69 ti80 rfl rfl (hX (by repeat constructor)) (by omega))) (dd rfl) ?_
              refine o_val (v_load_p (by repeat (first | exact PEnc.int _ | exact PEnc.str | exact PEnc.bool | exact PEnc.byte | exact PEnc.raw | apply PEnc.pair | apply PEnc.map)) ⟨_, Try.underlying80⟩ ti80 rfl (by repeat (first|exact el1 (by omega)|exact el2 (by omega)|exact el3 (by omega)|apply Elem.there))) (dd rfl) ?_
              refine o_step (s_alloc ti80 (dd rfl) (fun b15 => ?_))
              refine o_step (s_store_all ti80 rfl rfl (by first | exact CellsV.lit rfl | exact CellsV.one (by first | exact OneC.lit rfl | exact OneC.sl (hX (by repeat constructor)) )) (by repeat (first | exact OneAll.nil | (refine OneAll.cons ?_ ?_; · first | exact OneC.lit rfl | exact OneC.sl (hX (by repeat constructor)) ) | exact OneAll.rd (hX (by repeat constructor)))) rfl (pB (by repeat constructor)) rfl (?_))
              refine o_nil ?_
              refine c_seq ?_
              refine c_region ?_
              refine o_val (v_move rfl) (dd rfl) ?_
              refine o_val (v_fieldAddrC 1 Try.underlying80 rfl ti3 (by decide) rfl) (dd rfl) ?_
              refine o_val (v_load lone3 rfl (hX (by repeat constructor)) rfl) (dd rfl) ?_
              refine o_step (s_callf cl47 (waitsR_con (2 * i) t0 L1 W1 (ss[j]'hj').2.1 (by omega)) rfl (dd rfl) (pXs (by repeat constructor)) fun _ _ => ?_)
              refine o_val (v_move rfl) (dd rfl) ?_
              refine o_val (v_extract rfl rfl) (dd rfl) ?_
              refine o_val (v_extract rfl rfl) (dd rfl) ?_
              refine o_val (v_extract rfl rfl) (dd rfl) ?_
              refine o_val (v_assign rfl) (dd rfl) ?_
              refine o_val (v_assign rfl) (dd rfl) ?_
              refine o_val (v_assign rfl) (dd rfl) ?_
              refine o_nil ?_
              refine c_seq ?_
              rw [hw1]
              refine c_region ?_
              refine o_val (v_move rfl) (dd rfl) ?_
              refine o_val (v_move rfl) (dd rfl) ?_
              refine o_val (v_fieldAddrC 1 Try.underlying80 rfl ti3 (by decide) rfl) (dd rfl) ?_
              refine o_val (v_load lone3 rfl (hX (by repeat constructor)) rfl) (dd rfl) ?_
              refine o_val (v_lookupO kInt Try.underlying97 Try.underlying3 ti3 rfl rfl (hX (by repeat constructor))) (dd rfl) ?_
              try simp only [hk0, Option.getD_none, Option.getD_some, Option.isSome_none, Option.isSome_some]
              refine o_val (v_gt rfl rfl) (dd rfl) ?_
              refine o_val (v_bne Try.underlying4 rfl rfl) (dd rfl) ?_
              refine o_nil ?_
              refine c_cond_f rfl ?_
              refine c_skip ?_
              refine c_inBlock ?_
              refine c_region ?_
              refine o_val ((by first | exact v_add64 rfl rfl (by omega) | exact v_add rfl rfl)) (dd rfl) ?_
              refine o_val (v_move rfl) (dd rfl) ?_
              refine o_nil ?_
              refine c_use (IH5 (j + 1) (by first | omega | (dsimp only; omega)) (by omega)) (by repeat (first | exact trivial | refine ⟨rfl, ?_⟩)) (eX (by repeat constructor))
          · refine c_exit rfl ?_
            refine c_seq ?_
            refine c_region ?_
            refine o_step (s_callf_keep cl35 (alive12_con) rfl (dd rfl) (rX (by repeat constructor)) (fun _ => sX) (fun _ _ => ?_))
            refine o_val (v_assign rfl) (dd rfl) ?_
            refine o_nil ?_
            refine c_ret1 Try.func13 rfl rfl fun w O hS => ?_
            exact ⟨(), rfl, trivial, trivial⟩
end Go.Proofs.Ytnamhhmfnokfiaa
namespace Go.Proofs.Ytnamhhmfnokfiaa
open Go Go.SL Go.RowKit Go.ChangeShapes Go.WideShapes Go.ChangeAt 
set_option linter.unusedVariables false
set_option maxRecDepth 100000 in
theorem lockServes_lifted (os : Os) (started : os.Started) (H : Type) (enc : TypeId × Value → H) :
    ReturnsInHanded {} Try.checked os 13 .any (fun w args => (Rows.lockServesSpec.pre enc Try.prog Try.f13 [] false w args ∧ True) ∧ sizedMet enc Try.prog Try.f13 (OpenSpec.ofChange Rows.lockServesSpec) false w args)
      (Rows.lockServesSpec.post enc Try.prog Try.f13 false true false false) := by
  refine lift_true (C := Try.checked) (X := fun w _ => True) (t := 4) (fun _ _ _ _ h => h) own started (by kernel_rfl) Try.func13 rfl (fun ds h => ?_) rfl Try.underlying4 laidOut (by kernel_rfl)
    (ChangeSpec.witness_shaped (enc := enc) (C := Try.checked) (os := os) (X := fun w _ => True) false (World.laidAll Try.prog os laidL) #[.slice none 0 0] 8 (World.laidAll_os _ _ _) (start_shaped os _) (by kernel_rfl) (by kernel_rfl) (by kernel_rfl) (trivial)) ?_
  · match ds, h with
    | [d0], _ => rfl
  · intro W base args ds ps hsh _ hval0 hA0 hwt0
    have hval : ∀ (j : Nat) t v, Try.f13.params[j]? = some t → args[j]? = some v → Value.okWide Try.prog W .any base t v := hval0
    have hA : DataW.TrodAll enc Try.prog W 0 (fun _ => true) true Try.f13.params.toList args.toList ds ps := hA0
    have hwt : ∀ (j : Nat) t d, Try.f13.params.toList[j]? = some t → ds[j]? = some d → ∀ n ∈ d.weights Try.prog t, n ≤ reachBytes := hwt0
    clear hval0 hA0 hwt0
    rw [Try.params13] at hA hval hwt
    obtain ⟨v0, vs0, d0, ds0, p0, q0, hargs, rfl, rfl, h0, r0⟩ := trodAll_cons hA
    obtain ⟨rfl, rfl, rfl⟩ := trodAll_nil r0
    obtain rfl : args = #[v0] := by cases args; simp_all
    obtain ⟨x0, e0, g0⟩ := open_arg opOps12 h0 (hwt 0 69 d0 rfl rfl)
    have a0 := arg_slice Try.underlying69 (hval 0 69 v0 rfl rfl) e0
    exact calls_of_con (lockServes_con v0 x0 g0.1) (List.forall_mem_cons.2 ⟨a0, fun _ h => by cases h⟩)
theorem lockServes_row : Rows.LockServesSaid :=
  OpenClaim.holds_of_wide 13 Try.f13 rfl rfl rfl rfl rfl rfl rfl ⟨rfl, rfl, rfl, rfl, rfl⟩ rfl rfl rfl rfl rfl (by kernel_rfl) Try.func13 (by kernel_rfl)
    (of_decide_eq_true (by kernel_rfl)) (by unfold Func.isWrapper; first | (rw [if_pos (by decide +kernel)]; kernel_rfl) | (rw [if_neg (by decide +kernel)]; exact ⟨rfl, rfl⟩))
    (fun os started H enc _ => by have h_ := lockServes_lifted os started H enc; simp only [and_true] at h_; exact h_)
#print axioms lockServes_row
end Go.Proofs.Ytnamhhmfnokfiaa

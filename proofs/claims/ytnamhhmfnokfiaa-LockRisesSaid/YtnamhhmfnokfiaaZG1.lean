/- LockRises: for every input it returns true, and its arguments read behind the call as before. -/
import Derived.Test.YtnamhhmfnokfiaaZZ7
import Derived.Test.YtnamhhmfnokfiaaRows
set_option linter.unusedVariables false
set_option linter.unusedSimpArgs false
/- Chapter 12: who asks for names in rising order is never stuck; what all rows' owners keep. -/
namespace Go.Proofs.Ytnamhhmfnokfiaa
open Go Go.SL
theorem serve_ind {P : List Hs → List Hs → Prop} (hs : ∀ L W w, w ∈ W → P L W → P (getsR L w) (withoutR W w.1)) : ∀ (k : Nat) (L W : List Hs) (out : List Int), P L W → P (serveR k L W out).1 (serveR k L W out).2.1
  | 0, _, _, _, h => h
  | k + 1, L, W, out, h => by
    cases hf : firstR L W with
    | none => simp only [serveR, hf]; exact h
    | some w => simp only [serveR, hf]; exact serve_ind hs k _ _ _ (hs L W w (first_mem hf) h)
theorem mem_without {W : List Hs} {o : Int} {x : Hs} : x ∈ withoutR W o ↔ x ∈ W ∧ x.1 ≠ o := by
  unfold withoutR
  rw [List.mem_filter]
  exact ⟨fun h => ⟨h.1, of_decide_eq_true h.2⟩, fun h => ⟨h.1, decide_eq_true h.2⟩⟩
theorem mem_ins {L : List Hs} {n : ByteArray} {has : Bool} {w x : Hs} {W : List Hs} (h : x ∈ insR L n has w W) : x = w ∨ x ∈ W := by
  obtain ⟨A, B, h1, h2, _⟩ := ins_split L n has w W
  rw [h2] at h
  rw [h1]
  rcases List.mem_append.1 h with h | h
  · exact .inr (List.mem_append_left _ h)
  · exact (List.mem_cons.1 h).imp id fun h => List.mem_append_right _ h
/-! ### all rows' owners -/
def RowsAll (p : Int → Prop) (L W : List Hs) : Prop := (∀ x ∈ L, p x.1) ∧ ∀ w ∈ W, p w.1
theorem all_gets {p : Int → Prop} {L W : List Hs} {w : Hs} (hw : w ∈ W) (h : RowsAll p L W) : RowsAll p (getsR L w) (withoutR W w.1) :=
  ⟨fun x hx => (mem_gets.1 hx).elim (fun k => h.1 x k.1) fun k => k ▸ h.2 w hw, fun x hx => h.2 x (mem_without.1 hx).1⟩
theorem all_free {p : Int → Prop} {L W : List Hs} (o : Int) (h : RowsAll p L W) : RowsAll (fun y => p y ∧ y ≠ o) (freeR L W o).1 (freeR L W o).2.1 :=
  serve_ind (P := RowsAll fun y => p y ∧ y ≠ o) (fun _ _ _ => all_gets) _ _ _ _ ⟨fun x hx => ⟨h.1 x (mem_without.1 hx).1, (mem_without.1 hx).2⟩, fun x hx => ⟨h.2 x (mem_without.1 hx).1, (mem_without.1 hx).2⟩⟩
theorem all_mono {p q : Int → Prop} {L W : List Hs} (h : RowsAll p L W) (hpq : ∀ y, p y → q y) : RowsAll q L W := ⟨fun x hx => hpq _ (h.1 x hx), fun x hx => hpq _ (h.2 x hx)⟩
theorem all_ask {p : Int → Prop} {L W : List Hs} {o : Int} (n : ByteArray) (m : Int) (ho : p o) (h : RowsAll p L W) : RowsAll p (askR L W o n m).1 (askR L W o n m).2.1 := by
  unfold askR
  split
  · exact h
  · split
    · exact h
    · split
      · exact h
      · split
        · exact ⟨fun x hx => (mem_gets.1 hx).elim (fun k => h.1 x k.1) fun k => k ▸ ho, h.2⟩
        · exact ⟨h.1, fun x hx => (mem_ins hx).elim (fun k => k ▸ ho) fun k => h.2 x k⟩
theorem all_none {p : Int → Prop} {L W : List Hs} (h : RowsAll p L W) (hp : ∀ y, ¬ p y) : L = [] ∧ W = [] :=
  ⟨List.eq_nil_iff_forall_not_mem.2 fun x hx => hp _ (h.1 x hx), List.eq_nil_iff_forall_not_mem.2 fun x hx => hp _ (h.2 x hx)⟩
/-! ### rising -/
structure RiseP (la : Int → Option ByteArray) (L W : List Hs) : Prop where
  has : ∀ x ∈ L, ∃ n, la x.1 = some n ∧ (ltS x.2.1 n = true ∨ x.2.1 = n)
  wait : ∀ w ∈ W, la w.1 = some w.2.1
  less : ∀ w ∈ W, ∀ x ∈ L, x.1 = w.1 → ltS x.2.1 w.2.1 = true
theorem rise_gets {la : Int → Option ByteArray} (L W : List Hs) (w : Hs) (hw : w ∈ W) (h : RiseP la L W) : RiseP la (getsR L w) (withoutR W w.1) where
  has x hx := (mem_gets.1 hx).elim (fun k => h.has x k.1) fun k => ⟨w.2.1, by rw [k]; exact h.wait w hw, .inr (by rw [k])⟩
  wait x hx := h.wait x (mem_without.1 hx).1
  less y hy x hx e := (mem_gets.1 hx).elim (fun k => h.less y (mem_without.1 hy).1 x k.1 e) fun k => absurd (by rw [← e, k]) (mem_without.1 hy).2
theorem rise_free {la : Int → Option ByteArray} {L W : List Hs} (o : Int) (h : RiseP la L W) : RiseP (fun y => if y = o then none else la y) (freeR L W o).1 (freeR L W o).2.1 :=
  serve_ind (P := RiseP _) rise_gets _ _ _ _
    { has := fun x hx => by
        obtain ⟨n, h1, h2⟩ := h.has x (mem_without.1 hx).1
        exact ⟨n, by rw [if_neg (mem_without.1 hx).2]; exact h1, h2⟩
      wait := fun x hx => by rw [if_neg (mem_without.1 hx).2]; exact h.wait x (mem_without.1 hx).1
      less := fun y hy x hx e => h.less y (mem_without.1 hy).1 x (mem_without.1 hx).1 e }
theorem rise_ask {la : Int → Option ByteArray} {L W : List Hs} {o : Int} {n : ByteArray} (m : Int) (h : RiseP la L W) (hla : ∀ n', la o = some n' → ltS n' n = true) :
    RiseP (if (askR L W o n m).2.2.2 = 0 then fun y => if y = o then some n else la y else la) (askR L W o n m).1 (askR L W o n m).2.1 := by
  have hA : ∀ x ∈ L, x.1 = o → ltS x.2.1 n = true := fun x hx e => by
    obtain ⟨n', h1, h2⟩ := h.has x hx
    rw [e] at h1
    rcases h2 with h2 | h2
    · exact bl_trans h2 (hla n' h1)
    · rw [h2]; exact hla n' h1
  have hL : ∀ x ∈ L, ∃ n', (fun y => if y = o then some n else la y) x.1 = some n' ∧ (ltS x.2.1 n' = true ∨ x.2.1 = n') := fun x hx => by
    dsimp only
    by_cases e : x.1 = o
    · exact ⟨n, if_pos e, .inl (hA x hx e)⟩
    · rw [if_neg e]; exact h.has x hx
  unfold askR
  split
  · dsimp only; rw [if_neg (by decide)]; exact h
  · split
    · dsimp only; rw [if_neg (by decide)]; exact h
    · rename_i hw
      have hW : ∀ w ∈ W, w.1 ≠ o := waitR_none.1 (by simpa using hw)
      have hwt : ∀ w ∈ W, (fun y => if y = o then some n else la y) w.1 = some w.2.1 := fun w hw => by dsimp only; rw [if_neg (hW w hw)]; exact h.wait w hw
      split
      · rw [if_pos rfl]; exact ⟨hL, hwt, h.less⟩
      · split
        · rw [if_pos rfl]
          refine ⟨fun x hx => (mem_gets.1 hx).elim (fun k => hL x k.1) fun k => ⟨n, by rw [k]; exact if_pos rfl, .inr (by rw [k]; rfl)⟩, hwt, fun y hy x hx e => (mem_gets.1 hx).elim (fun k => h.less y hy x k.1 e) fun k => absurd (by rw [← e, k]; rfl) (hW y hy)⟩
        · rw [if_pos rfl]
          refine ⟨hL, fun w hw => (mem_ins hw).elim (fun k => by rw [k]; exact if_pos rfl) (hwt w), fun y hy x hx e => (mem_ins hy).elim (fun k => ?_) fun k => h.less y k x hx e⟩
          rw [k] at e ⊢
          exact hA x hx e
theorem tabR_inv {N t : Nat} {L W : List Hs} {w : World} {O : Perm} (h : (TabR N t L W).h w O) : Inv0 L W ∧ HeadP L W := by
  obtain ⟨σ, O1, O2, s, a1, O3, O4, s2, a2, a3⟩ := h
  exact a2.2
theorem rise_nil : RiseP (fun _ => none) [] [] := ⟨(fun _ h => by cases h), (fun _ h => by cases h), fun _ h => by cases h⟩
theorem all_nil (p : Int → Prop) : RowsAll p [] [] := ⟨(fun _ h => by cases h), fun _ h => by cases h⟩
theorem lt_of_not_le {a b : ByteArray} (h : (Op.bytesLess a.data.toList b.data.toList || decide (a = b)) = false) : ltS b a = true := by
  rw [Bool.or_eq_false_iff] at h
  cases k : ltS b a with
  | true => rfl
  | false =>
    have := bl_tri h.1 k
    exact absurd (ByteArray.ext (Array.ext' this)) (of_decide_eq_false h.2)
theorem exists_max : ∀ {S : List Hs}, S ≠ [] → ∃ w ∈ S, ∀ y ∈ S, ltS w.2.1 y.2.1 = false
  | [], h => absurd rfl h
  | [w], _ => ⟨w, by simp, fun y hy => by rw [List.mem_singleton.1 hy]; exact bl_irrefl _⟩
  | w :: v :: S, _ => by
    obtain ⟨u, hu, h⟩ := exists_max (S := v :: S) (by simp)
    by_cases k : ltS u.2.1 w.2.1 = true
    · refine ⟨w, by simp, fun y hy => ?_⟩
      rcases List.mem_cons.1 hy with rfl | hy
      · exact bl_irrefl _
      · cases e : ltS w.2.1 y.2.1 with
        | false => rfl
        | true => exact absurd (bl_trans k e) (by rw [show Op.bytesLess u.2.1.data.toList y.2.1.data.toList = false from h y hy]; decide)
    · refine ⟨u, List.mem_cons_of_mem _ hu, fun y hy => ?_⟩
      rcases List.mem_cons.1 hy with rfl | hy
      · simpa using k
      · exact h y hy
theorem tw_front {z : Hs} : ∀ {A B : List Hs} {y : Hs}, y ∈ (A ++ z :: B).takeWhile (fun x => decide (x ≠ z)) → y ∈ A
  | [], B, y, h => by simp at h
  | a :: A, B, y, h => by
    rw [List.cons_append, List.takeWhile_cons] at h
    split at h
    · rcases List.mem_cons.1 h with rfl | h
      · simp
      · exact List.mem_cons_of_mem _ (tw_front h)
    · cases h
theorem rise_stuck {la : Int → Option ByteArray} {L W : List Hs} {l : List Int} (h : RiseP la L W) (hi : Inv0 L W) (hs : ClosedL L W (· ∈ l)) : l = [] := by
  cases l with
  | nil => rfl
  | cons a l =>
    obtain ⟨w, hw, hwa, _⟩ := hs a (by simp)
    have hne : W.filter (fun x => decide (x.1 ∈ a :: l)) ≠ [] := List.ne_nil_of_mem (List.mem_filter.2 ⟨hw, decide_eq_true (by rw [hwa]; simp)⟩)
    obtain ⟨u, hu, hmax⟩ := exists_max hne
    have hu' := List.mem_filter.1 hu
    have hq : u ∈ queueR W u.2.1 := List.mem_filter.2 ⟨hu'.1, decide_eq_true rfl⟩
    have hfs : ((queueR W u.2.1).find? fun x => decide (x.1 ∈ a :: l)).isSome = true := List.find?_isSome.2 ⟨u, hq, hu'.2⟩
    obtain ⟨z, hz⟩ := Option.isSome_iff_exists.1 hfs
    obtain ⟨hzl, A, B, hQ, hA⟩ := List.find?_eq_some_iff_append.1 hz
    have hzq : z ∈ queueR W u.2.1 := by rw [hQ]; simp
    have hzW := (List.mem_filter.1 hzq).1
    have hzn : z.2.1 = u.2.1 := of_decide_eq_true (List.mem_filter.1 hzq).2
    obtain ⟨z', hz', hze, x, hx, hb⟩ := hs z.1 (of_decide_eq_true hzl)
    have e1 := mem_waitR hi.wn hz'
    rw [hze, mem_waitR hi.wn hzW] at e1
    cases Option.some.inj e1
    unfold barsR at hb
    rw [hzn] at hb
    rcases Bool.or_eq_true_iff.1 hb with hb | hb
    · have hg := (Bool.and_eq_true_iff.1 (Bool.and_eq_true_iff.1 hb).2).1
      obtain ⟨k, hk⟩ := Option.isSome_iff_exists.1 hg
      obtain ⟨v, hv, hve, _⟩ := hs x hx
      have h1 := h.less v hv _ (getR_mem hk) hve.symm
      have h2 := hmax v (List.mem_filter.2 ⟨hv, decide_eq_true (by rw [hve]; exact hx)⟩)
      rw [h2] at h1
      cases h1
    · obtain ⟨y, hy, hye⟩ := List.any_eq_true.1 hb
      rw [hQ] at hy
      have h3 := hA y (tw_front hy)
      have hye' : y.1 = x := of_decide_eq_true hye
      simp [hye', hx] at h3
/-! ### a call's result in its explicit form -/
theorem con_pu {γ : Type} {P : Program} {f : FuncId} {args : List Value} {L0 : List A} {ret : γ → Value} {pu p : γ → Prop} {L' : γ → List A} (h : Con P f args L0 ret pu L') (hp : ∀ g w O, Stars (L' g) w O → p g) : Con P f args L0 ret (fun g => pu g ∧ p g) L' := fun w O hs hd =>
  (h w O hs hd).mono fun _ _ ⟨g, O', h1, h2, h3, h4⟩ => ⟨g, O', h1, ⟨h2, hp g _ _ h3⟩, h3, h4⟩
theorem form_of {α : Type} {e : Enc α} {T : TypeId} {v : Value} {xs : List α} {Lr : List A} {w : World} {O : Perm} (h : Stars (Own e T v xs :: Lr) w O) : ∃ a0 cap, v = .slice a0 xs.length cap := by
  obtain ⟨O1, O2, _, h1, _⟩ := h
  obtain ⟨a0, cap, hv, _⟩ := Own.sl h1
  exact ⟨a0, cap, hv⟩
theorem holdersF_con (N t : Nat) (L W : List Hs) (n : ByteArray) (hN : N ≤ 1000) :
    Con Try.prog 39 [.pointer (some ⟨t, 0, none⟩), .string n] [TabR N t L W] (γ := Value × List Int) (fun r => r.1) (fun r => (KeysOf (fun o => getR L o n) r.2 ∧ r.2.length ≤ N) ∧ ∃ a0 cap, r.1 = .slice a0 r.2.length cap) (fun r => [Own (eInt .i64) 3 r.1 r.2, TabR N t L W]) :=
  con_pu (holdersR_con N t L W n hN) fun _ _ _ h => form_of h
theorem queueF_con (N t : Nat) (L W : List Hs) (n : ByteArray) (hN : N ≤ 1000) :
    Con Try.prog 41 [.pointer (some ⟨t, 0, none⟩), .string n] [TabR N t L W] (γ := Value) (fun r => r) (fun r => True ∧ ∃ a0 cap, r = .slice a0 ((queueR W n).map (·.1)).length cap) (fun r => [Own (eInt .i64) 3 r ((queueR W n).map (·.1)), TabR N t L W]) :=
  con_pu (queueRt_con N t L W n hN) fun _ _ _ h => form_of h
end Go.Proofs.Ytnamhhmfnokfiaa
/- LockRises. -/
namespace Go.Proofs.Ytnamhhmfnokfiaa
open Go Go.SL
def goalB (n : ByteArray) : Value := .agg #[.string n, .bool true]
attribute [local irreducible] Cfg Kont StepK Val Con Qops Any Sl Own Blk BlkR Rd Pu ExA AllA Has Pick Ent Elem Beside Callable TI Lone OwnO AndA
set_option maxRecDepth 100000 in
theorem lockRises_con (v : Value) (ss : List Op12) (hss : ss.length ≤ 8796093022207) :
    Con Try.prog 12 [v] [Sl eOp12 v ss] (γ := Unit) (fun _ => .bool true) (fun _ => True) (fun _ => []) := by
  refine con_of Try.func12 rfl (dd rfl) fun w0 O0 => ?_
  refine c_seq ?_
  refine c_region ?_
  refine o_val (v_assign rfl) (dd rfl) ?_
  refine o_nil ?_
  refine c_seq ?_
  refine c_seq ?_
  refine c_region ?_
  refine o_val (v_move rfl) (dd rfl) ?_
  refine o_step (s_callf_keep cl36 (few12_con v ss hss) rfl (dd rfl) (rX (by repeat constructor)) (fun _ => sX) (fun fw hfw => ?_))
  refine o_val (v_not rfl) (dd rfl) ?_
  refine o_nil ?_
  refine c_cond rfl (fun hf => ?_) (fun hf => ?_)
  · refine c_seq ?_
    refine c_region ?_
    refine o_step (s_callf_keep cl35 (alive12_con) rfl (dd rfl) (rX (by repeat constructor)) (fun _ => sX) (fun _ _ => ?_))
    refine o_val (v_assign rfl) (dd rfl) ?_
    refine o_nil ?_
    refine c_ret1 Try.func12 rfl rfl fun w O hS => ?_
    exact ⟨(), rfl, trivial, trivial⟩
  · have hs : ss.length ≤ 40 := hfw (by simpa using hf)
    refine c_skip ?_
    refine c_seq ?_
    refine c_region ?_
    refine o_val (v_buildS (places := [(0, 1), (1, 1)]) (cells := [.map none, .map none]) Try.underlying75 ti75 (by kernel_rfl) rfl (by repeat (first | exact PartsC.nil | (apply PartsC.one (by first | exact OneC.lit rfl | exact OneC.sl (hX (by repeat constructor)) )) | (apply PartsC.lit rfl))) rfl) (dd rfl) ?_
    refine o_step (s_box rfl (dd rfl) (fun b18 => ?_))
    refine o_val (v_assign rfl) (dd rfl) ?_
    refine o_nil ?_
    refine c_seq ?_
    refine c_region ?_
    refine o_step (s_makeMap (ke := kInt) (dd rfl) (fun b19 => ?_))
    refine o_val (v_assign rfl) (dd rfl) ?_
    refine o_nil ?_
    refine c_seq ?_
    refine c_seq ?_
    refine c_region ?_
    refine o_val (v_move rfl) (dd rfl) ?_
    refine o_val ((by first | exact v_len_form Try.underlying69 rfl | exact v_len_sl Try.underlying69 rfl (hX (by repeat constructor)))) (dd rfl) ?_
    refine o_val (v_move rfl) (dd rfl) ?_
    refine o_nil ?_
    refine c_block ?_
    refine c_ent (L' := [Blk b18 75 [.map none, .map none], MapO kInt (some b19) [], Sl eOp12 v ss]) (eX (by repeat constructor)) ?_
    refine c_ent tabR_new ?_
    refine c_loopR (γ := Nat × Nat × List Hs × List Hs × List (Int × Value) × (Int → Option ByteArray)) [(0, _), (2, _), (3, _), (4, _), (20, _), (21, _)] (fun g => ss.length - g.1) (fun g => g.1 ≤ ss.length ∧ g.2.1 ≤ 2 * g.1 ∧ (∀ o, Go.SL.look g.2.2.2.2.1 o = (g.2.2.2.2.2 o).map goalB) ∧ RiseP g.2.2.2.2.2 g.2.2.1 g.2.2.2.1 ∧ RowsAll (fun y => ∃ o ∈ ss, o.2.1 = y) g.2.2.1 g.2.2.2.1) (fun g => [(22, .int .i64 g.1)]) (fun g => [TabR g.2.1 b18 g.2.2.1 g.2.2.2.1, MapO kInt (some b19) g.2.2.2.2.1, Sl eOp12 v ss]) ((0, 0, [], [], [], fun _ => none)) (⟨Nat.zero_le _, Nat.le_refl _, fun _ => rfl, rise_nil, all_nil _⟩) (by repeat (first | exact trivial | refine ⟨rfl, ?_⟩)) (eX (by repeat constructor)) ?_
    rintro ⟨i, N, L, W, m, la⟩ ⟨hi, hN, hlk, hR, hA⟩ IH
    dsimp only at hi hN hlk hR hA ⊢
    try dsimp only [List.cons_append, List.nil_append]
    refine c_seq ?_
    refine c_region ?_
    refine o_val (v_lt rfl rfl) (dd rfl) ?_
    refine o_nil ?_
    refine c_seq ?_
    refine c_cond_p rfl (fun hlt => ?_) (fun hlt => ?_)
    · have hi' : i < ss.length := by omega
      have hown : ∃ o ∈ ss, o.2.1 = (ss[i]'hi').2.1 := ⟨_, List.getElem_mem hi', rfl⟩
      refine c_skip ?_
      refine c_seq ?_
      refine c_block ?_
      refine c_seq ?_
      refine c_region ?_
      refine o_val ((by first | exact v_indexAddrN Try.underlying69 ti80 rfl rfl (hX (by repeat constructor)) (by omega) | exact v_indexAddr Try.underlying69 ti80 rfl rfl (hX (by repeat constructor)) (by omega))) (dd rfl) ?_
      refine o_val (v_load_p (by repeat (first | exact PEnc.int _ | exact PEnc.str | exact PEnc.bool | exact PEnc.byte | exact PEnc.raw | apply PEnc.pair | apply PEnc.map)) ⟨_, Try.underlying80⟩ ti80 rfl (by repeat (first|exact el1 (by omega)|exact el2 (by omega)|exact el3 (by omega)|apply Elem.there))) (dd rfl) ?_
      refine o_step (s_alloc ti80 (dd rfl) (fun b6 => ?_))
      refine o_step (s_store_all ti80 rfl rfl (by first | exact CellsV.lit rfl | exact CellsV.one (by first | exact OneC.lit rfl | exact OneC.sl (hX (by repeat constructor)) )) (by repeat (first | exact OneAll.nil | (refine OneAll.cons ?_ ?_; · first | exact OneC.lit rfl | exact OneC.sl (hX (by repeat constructor)) ) | exact OneAll.rd (hX (by repeat constructor)))) rfl (pB (by repeat constructor)) rfl (?_))
      refine o_nil ?_
      refine c_seq ?_
      refine c_block ?_
      refine c_seq ?_
      refine c_region ?_
      refine o_val (v_fieldAddrC 0 Try.underlying80 rfl ti3 (by decide) rfl) (dd rfl) ?_
      refine o_val (v_load lone3 rfl (hX (by repeat constructor)) rfl) (dd rfl) ?_
      refine o_val (v_eq rfl rfl) (dd rfl) ?_
      refine o_val (v_assign rfl) (dd rfl) ?_
      refine o_nil ?_
      refine c_cond_p rfl (fun h1 => ?_) (fun h1 => ?_)
      · refine c_seq ?_
        refine c_region ?_
        refine o_val (v_move rfl) (dd rfl) ?_
        refine o_val (v_fieldAddrC 1 Try.underlying80 rfl ti3 (by decide) rfl) (dd rfl) ?_
        refine o_val (v_load lone3 rfl (hX (by repeat constructor)) rfl) (dd rfl) ?_
        refine o_step (s_callf cl45 (freeRt_con N b18 L W (ss[i]'hi').2.1 (by omega)) rfl (dd rfl) (pXs (by repeat constructor)) fun fv _ => ?_)
        refine o_nil ?_
        refine c_region ?_
        refine o_val (v_move rfl) (dd rfl) ?_
        refine o_val (v_fieldAddrC 1 Try.underlying80 rfl ti3 (by decide) rfl) (dd rfl) ?_
        refine o_val (v_load lone3 rfl (hX (by repeat constructor)) rfl) (dd rfl) ?_
        refine o_step (s_deleteO kInt rfl Try.underlying91 Try.underlying3 rfl rfl (pX (by repeat constructor)) (?_))
        refine o_nil ?_
        refine c_inBlock ?_
        refine c_seq ?_
        refine c_region ?_
        refine o_val (v_move rfl) (dd rfl) ?_
        have hR1 := rise_free (ss[i]'hi').2.1 hR
        have hA1 := all_mono (all_free (ss[i]'hi').2.1 hA) (fun _ h => h.1)
        obtain ⟨N1, hN1⟩ : ∃ N1, N1 = N := ⟨_, rfl⟩
        rw [← hN1]
        generalize freeR L W (ss[i]'hi').2.1 = ar at hR1 hA1 ⊢
        obtain ⟨L1, W1, out⟩ := ar
        dsimp only at hR1 hA1 ⊢
        refine o_step (s_callf cl43 (stuckRt_con N1 b18 L1 W1 (by omega)) rfl (dd rfl) (pXs (by repeat constructor)) fun r hr => ?_)
        refine o_val ((by first | exact v_len_form Try.underlying35 rfl | exact v_len_sl Try.underlying35 rfl (hX (by repeat constructor)))) (dd rfl) ?_
        refine o_val (v_gt rfl rfl) (dd rfl) ?_
        refine o_nil ?_
        refine c_fact (a := TabR N1 b18 L1 W1) (p := Inv0 L1 W1 ∧ HeadP L1 W1) (hX (by repeat constructor)) (fun _ _ k => tabR_inv k) fun hi1 => ?_
        obtain ⟨gv, l⟩ := r
        obtain rfl : l = [] := rise_stuck hR1 hi1.1 hr.1.closed
        refine c_cond_f rfl ?_
        refine c_skip ?_
        refine c_inBlock ?_
        refine c_region ?_
        refine o_val ((by first | exact v_add64 rfl rfl (by omega) | exact v_add rfl rfl)) (dd rfl) ?_
        refine o_val (v_move rfl) (dd rfl) ?_
        refine o_nil ?_
        refine c_use (IH ((i + 1, N1, L1, W1, del m (ss[i]'hi').2.1, fun y => if y = (ss[i]'hi').2.1 then none else la y)) (by first | omega | (dsimp only; omega)) (⟨by dsimp only; omega, by dsimp only; omega, (fun o => by dsimp only; rw [look_del]; by_cases e : o = (ss[i]'hi').2.1 <;> simp [e, hlk]), hR1, hA1⟩)) (by repeat (first | exact trivial | refine ⟨rfl, ?_⟩)) (eX (by repeat constructor))
      · rcases hla : la (ss[i]'hi').2.1 with _ | n'
        · have hk0 : Go.SL.look m (ss[i]'hi').2.1 = none := by rw [hlk, hla]; rfl
          have hla2 : ∀ n', la (ss[i]'hi').2.1 = some n' → ltS n' (ss[i]'hi').2.2.1 = true := fun n' h => by rw [hla] at h; cases h
          refine c_seq ?_
          refine c_region ?_
          refine o_val (v_move rfl) (dd rfl) ?_
          refine o_val (v_fieldAddrC 1 Try.underlying80 rfl ti3 (by decide) rfl) (dd rfl) ?_
          refine o_val (v_load lone3 rfl (hX (by repeat constructor)) rfl) (dd rfl) ?_
          refine o_val (v_lookupO kInt Try.underlying91 Try.underlying3 ti94 rfl rfl (hX (by repeat constructor))) (dd rfl) ?_
          try simp only [hk0, Option.getD_none, Option.getD_some, Option.isSome_none, Option.isSome_some]
          refine o_val (v_field Try.underlying94 rfl lone4 rfl rfl) (dd rfl) ?_
          refine o_val (v_move rfl) (dd rfl) ?_
          refine o_guard rfl rfl (fun g => ?_) (fun g => ?_)
          · exact absurd g (by decide)
          · skip
            refine o_off rfl rfl rfl (dd rfl) ?_
            refine o_off rfl rfl rfl (dd rfl) ?_
            refine o_off rfl rfl rfl (dd rfl) ?_
            refine o_off rfl rfl rfl (dd rfl) ?_
            refine o_off rfl rfl rfl (dd rfl) ?_
            refine o_off rfl rfl rfl (dd rfl) ?_
            refine o_off rfl rfl rfl (dd rfl) ?_
            refine o_off rfl rfl rfl (dd rfl) ?_
            refine o_val (v_pick_f rfl rfl) (dd rfl) ?_
            refine o_val (v_assign rfl) (dd rfl) ?_
            refine o_nil ?_
            refine c_cond_f rfl ?_
            refine c_seq ?_
            refine c_region ?_
            refine o_val (v_move rfl) (dd rfl) ?_
            refine o_val (v_fieldAddrC 1 Try.underlying80 rfl ti3 (by decide) rfl) (dd rfl) ?_
            refine o_val (v_load lone3 rfl (hX (by repeat constructor)) rfl) (dd rfl) ?_
            refine o_val (v_fieldAddrC 2 Try.underlying80 rfl ti9 (by decide) rfl) (dd rfl) ?_
            refine o_val (v_load lone9 rfl (hX (by repeat constructor)) rfl) (dd rfl) ?_
            refine o_val (v_fieldAddrC 3 Try.underlying80 rfl ti3 (by decide) rfl) (dd rfl) ?_
            refine o_val (v_load lone3 rfl (hX (by repeat constructor)) rfl) (dd rfl) ?_
            refine o_step (s_callf cl46 (askRt_con N b18 L W (ss[i]'hi').2.1 (ss[i]'hi').2.2.1 (ss[i]'hi').2.2.2 (by omega)) rfl (dd rfl) (pXs (by repeat constructor)) fun _ _ => ?_)
            refine o_val (v_move rfl) (dd rfl) ?_
            refine o_val (v_extract rfl rfl) (dd rfl) ?_
            refine o_val (v_extract rfl rfl) (dd rfl) ?_
            refine o_val (v_assign rfl) (dd rfl) ?_
            refine o_val (v_assign rfl) (dd rfl) ?_
            refine o_nil ?_
            refine c_seq ?_
            refine c_region ?_
            refine o_val (v_move rfl) (dd rfl) ?_
            refine o_val (v_eq rfl rfl) (dd rfl) ?_
            refine o_nil ?_
            have hR1 := rise_ask (ss[i]'hi').2.2.2 hR hla2
            have hA1 := all_ask (ss[i]'hi').2.2.1 (ss[i]'hi').2.2.2 hown hA
            obtain ⟨N1, hN1⟩ : ∃ N1, N1 = N + 2 := ⟨_, rfl⟩
            rw [← hN1]
            generalize askR L W (ss[i]'hi').2.1 (ss[i]'hi').2.2.1 (ss[i]'hi').2.2.2 = ar at hR1 hA1 ⊢
            obtain ⟨L1, W1, b1, e1⟩ := ar
            dsimp only at hR1 hA1 ⊢
            refine c_cond_p rfl (fun he => ?_) (fun he => ?_)
            · rw [if_pos he] at hR1
              refine c_region ?_
              refine o_val (v_move rfl) (dd rfl) ?_
              refine o_val (v_fieldAddrC 1 Try.underlying80 rfl ti3 (by decide) rfl) (dd rfl) ?_
              refine o_val (v_load lone3 rfl (hX (by repeat constructor)) rfl) (dd rfl) ?_
              refine o_val (v_fieldAddrC 2 Try.underlying80 rfl ti9 (by decide) rfl) (dd rfl) ?_
              refine o_val (v_load lone9 rfl (hX (by repeat constructor)) rfl) (dd rfl) ?_
              refine o_val (v_buildS (places := [(0, 1), (1, 1)]) (cells := [_, _]) Try.underlying94 ti94 (by kernel_rfl) rfl (by repeat (first | exact PartsC.nil | (apply PartsC.one (by first | exact OneC.lit rfl | exact OneC.sl (hX (by repeat constructor)) )) | (apply PartsC.lit rfl))) rfl) (dd rfl) ?_
              refine o_step (s_mapUpdate kInt Try.underlying91 Try.underlying3 kInt_sc rfl rfl rfl (pX (by repeat constructor)) (?_))
              refine o_nil ?_
              refine c_inBlock ?_
              refine c_seq ?_
              refine c_region ?_
              refine o_val (v_move rfl) (dd rfl) ?_
              refine o_step (s_callf cl43 (stuckRt_con N1 b18 L1 W1 (by omega)) rfl (dd rfl) (pXs (by repeat constructor)) fun r hr => ?_)
              refine o_val ((by first | exact v_len_form Try.underlying35 rfl | exact v_len_sl Try.underlying35 rfl (hX (by repeat constructor)))) (dd rfl) ?_
              refine o_val (v_gt rfl rfl) (dd rfl) ?_
              refine o_nil ?_
              refine c_fact (a := TabR N1 b18 L1 W1) (p := Inv0 L1 W1 ∧ HeadP L1 W1) (hX (by repeat constructor)) (fun _ _ k => tabR_inv k) fun hi1 => ?_
              obtain ⟨gv, l⟩ := r
              obtain rfl : l = [] := rise_stuck hR1 hi1.1 hr.1.closed
              refine c_cond_f rfl ?_
              refine c_skip ?_
              refine c_inBlock ?_
              refine c_region ?_
              refine o_val ((by first | exact v_add64 rfl rfl (by omega) | exact v_add rfl rfl)) (dd rfl) ?_
              refine o_val (v_move rfl) (dd rfl) ?_
              refine o_nil ?_
              refine c_use (IH ((i + 1, N1, L1, W1, upd m (ss[i]'hi').2.1 (goalB (ss[i]'hi').2.2.1), fun y => if y = (ss[i]'hi').2.1 then some (ss[i]'hi').2.2.1 else la y)) (by first | omega | (dsimp only; omega)) (⟨by dsimp only; omega, by dsimp only; omega, (fun o => by dsimp only; rw [look_upd]; by_cases e : o = (ss[i]'hi').2.1 <;> simp [e, hlk]), hR1, hA1⟩)) (by repeat (first | exact trivial | refine ⟨rfl, ?_⟩)) (eX (by repeat constructor))
            · rw [if_neg he] at hR1
              refine c_skip ?_
              refine c_inBlock ?_
              refine c_seq ?_
              refine c_region ?_
              refine o_val (v_move rfl) (dd rfl) ?_
              refine o_step (s_callf cl43 (stuckRt_con N1 b18 L1 W1 (by omega)) rfl (dd rfl) (pXs (by repeat constructor)) fun r hr => ?_)
              refine o_val ((by first | exact v_len_form Try.underlying35 rfl | exact v_len_sl Try.underlying35 rfl (hX (by repeat constructor)))) (dd rfl) ?_
              refine o_val (v_gt rfl rfl) (dd rfl) ?_
              refine o_nil ?_
              refine c_fact (a := TabR N1 b18 L1 W1) (p := Inv0 L1 W1 ∧ HeadP L1 W1) (hX (by repeat constructor)) (fun _ _ k => tabR_inv k) fun hi1 => ?_
              obtain ⟨gv, l⟩ := r
              obtain rfl : l = [] := rise_stuck hR1 hi1.1 hr.1.closed
              refine c_cond_f rfl ?_
              refine c_skip ?_
              refine c_inBlock ?_
              refine c_region ?_
              refine o_val ((by first | exact v_add64 rfl rfl (by omega) | exact v_add rfl rfl)) (dd rfl) ?_
              refine o_val (v_move rfl) (dd rfl) ?_
              refine o_nil ?_
              refine c_use (IH ((i + 1, N1, L1, W1, m, la)) (by first | omega | (dsimp only; omega)) (⟨by dsimp only; omega, by dsimp only; omega, hlk, hR1, hA1⟩)) (by repeat (first | exact trivial | refine ⟨rfl, ?_⟩)) (eX (by repeat constructor))
        · have hk0 : Go.SL.look m (ss[i]'hi').2.1 = some (.agg #[.string n', .bool true]) := by rw [hlk, hla]; rfl
          refine c_seq ?_
          refine c_region ?_
          refine o_val (v_move rfl) (dd rfl) ?_
          refine o_val (v_fieldAddrC 1 Try.underlying80 rfl ti3 (by decide) rfl) (dd rfl) ?_
          refine o_val (v_load lone3 rfl (hX (by repeat constructor)) rfl) (dd rfl) ?_
          refine o_val (v_lookupO kInt Try.underlying91 Try.underlying3 ti94 rfl rfl (hX (by repeat constructor))) (dd rfl) ?_
          try simp only [hk0, Option.getD_none, Option.getD_some, Option.isSome_none, Option.isSome_some]
          refine o_val (v_field Try.underlying94 rfl lone4 rfl rfl) (dd rfl) ?_
          refine o_val (v_move rfl) (dd rfl) ?_
          refine o_guard rfl rfl (fun g => ?_) (fun g => ?_)
          · refine o_val (v_fieldAddrC 2 Try.underlying80 rfl ti9 (by decide) rfl) (dd rfl) ?_
            refine o_on rfl rfl ?_
            refine o_val (v_load lone9 rfl (hX (by repeat constructor)) rfl) (dd rfl) ?_
            refine o_on rfl rfl ?_
            refine o_val (v_move rfl) (dd rfl) ?_
            refine o_on rfl rfl ?_
            refine o_val (v_fieldAddrC 1 Try.underlying80 rfl ti3 (by decide) rfl) (dd rfl) ?_
            refine o_on rfl rfl ?_
            refine o_val (v_load lone3 rfl (hX (by repeat constructor)) rfl) (dd rfl) ?_
            refine o_on rfl rfl ?_
            refine o_val (v_lookupO kInt Try.underlying91 Try.underlying3 ti94 rfl rfl (hX (by repeat constructor))) (dd rfl) ?_
            try simp only [hk0, Option.getD_none, Option.getD_some, Option.isSome_none, Option.isSome_some]
            refine o_on rfl rfl ?_
            refine o_val (v_field Try.underlying94 rfl lone9 rfl rfl) (dd rfl) ?_
            refine o_on rfl rfl ?_
            refine o_val (v_sle rfl rfl) (dd rfl) ?_
            refine o_val (v_pick_t rfl rfl) (dd rfl) ?_
            refine o_val (v_assign rfl) (dd rfl) ?_
            refine o_nil ?_
            refine c_cond rfl (fun hle => ?_) (fun hle => ?_)
            · refine c_exit rfl ?_
              refine c_region ?_
              refine o_val ((by first | exact v_add64 rfl rfl (by omega) | exact v_add rfl rfl)) (dd rfl) ?_
              refine o_val (v_move rfl) (dd rfl) ?_
              refine o_nil ?_
              refine c_use (IH ((i + 1, N, L, W, m, la)) (by first | omega | (dsimp only; omega)) (⟨by dsimp only; omega, by dsimp only; omega, hlk, hR, hA⟩)) (by repeat (first | exact trivial | refine ⟨rfl, ?_⟩)) (eX (by repeat constructor))
            · have hla2 : ∀ n'', la (ss[i]'hi').2.1 = some n'' → ltS n'' (ss[i]'hi').2.2.1 = true := fun n'' h => by rw [hla] at h; cases h; exact lt_of_not_le hle
              refine c_seq ?_
              refine c_region ?_
              refine o_val (v_move rfl) (dd rfl) ?_
              refine o_val (v_fieldAddrC 1 Try.underlying80 rfl ti3 (by decide) rfl) (dd rfl) ?_
              refine o_val (v_load lone3 rfl (hX (by repeat constructor)) rfl) (dd rfl) ?_
              refine o_val (v_fieldAddrC 2 Try.underlying80 rfl ti9 (by decide) rfl) (dd rfl) ?_
              refine o_val (v_load lone9 rfl (hX (by repeat constructor)) rfl) (dd rfl) ?_
              refine o_val (v_fieldAddrC 3 Try.underlying80 rfl ti3 (by decide) rfl) (dd rfl) ?_
              refine o_val (v_load lone3 rfl (hX (by repeat constructor)) rfl) (dd rfl) ?_
              refine o_step (s_callf cl46 (askRt_con N b18 L W (ss[i]'hi').2.1 (ss[i]'hi').2.2.1 (ss[i]'hi').2.2.2 (by omega)) rfl (dd rfl) (pXs (by repeat constructor)) fun _ _ => ?_)
              refine o_val (v_move rfl) (dd rfl) ?_
              refine o_val (v_extract rfl rfl) (dd rfl) ?_
              refine o_val (v_extract rfl rfl) (dd rfl) ?_
              refine o_val (v_assign rfl) (dd rfl) ?_
              refine o_val (v_assign rfl) (dd rfl) ?_
              refine o_nil ?_
              refine c_seq ?_
              refine c_region ?_
              refine o_val (v_move rfl) (dd rfl) ?_
              refine o_val (v_eq rfl rfl) (dd rfl) ?_
              refine o_nil ?_
              have hR1 := rise_ask (ss[i]'hi').2.2.2 hR hla2
              have hA1 := all_ask (ss[i]'hi').2.2.1 (ss[i]'hi').2.2.2 hown hA
              obtain ⟨N1, hN1⟩ : ∃ N1, N1 = N + 2 := ⟨_, rfl⟩
              rw [← hN1]
              generalize askR L W (ss[i]'hi').2.1 (ss[i]'hi').2.2.1 (ss[i]'hi').2.2.2 = ar at hR1 hA1 ⊢
              obtain ⟨L1, W1, b1, e1⟩ := ar
              dsimp only at hR1 hA1 ⊢
              refine c_cond_p rfl (fun he => ?_) (fun he => ?_)
              · rw [if_pos he] at hR1
                refine c_region ?_
                refine o_val (v_move rfl) (dd rfl) ?_
                refine o_val (v_fieldAddrC 1 Try.underlying80 rfl ti3 (by decide) rfl) (dd rfl) ?_
                refine o_val (v_load lone3 rfl (hX (by repeat constructor)) rfl) (dd rfl) ?_
                refine o_val (v_fieldAddrC 2 Try.underlying80 rfl ti9 (by decide) rfl) (dd rfl) ?_
                refine o_val (v_load lone9 rfl (hX (by repeat constructor)) rfl) (dd rfl) ?_
                refine o_val (v_buildS (places := [(0, 1), (1, 1)]) (cells := [_, _]) Try.underlying94 ti94 (by kernel_rfl) rfl (by repeat (first | exact PartsC.nil | (apply PartsC.one (by first | exact OneC.lit rfl | exact OneC.sl (hX (by repeat constructor)) )) | (apply PartsC.lit rfl))) rfl) (dd rfl) ?_
                refine o_step (s_mapUpdate kInt Try.underlying91 Try.underlying3 kInt_sc rfl rfl rfl (pX (by repeat constructor)) (?_))
                refine o_nil ?_
                refine c_inBlock ?_
                refine c_seq ?_
                refine c_region ?_
                refine o_val (v_move rfl) (dd rfl) ?_
                refine o_step (s_callf cl43 (stuckRt_con N1 b18 L1 W1 (by omega)) rfl (dd rfl) (pXs (by repeat constructor)) fun r hr => ?_)
                refine o_val ((by first | exact v_len_form Try.underlying35 rfl | exact v_len_sl Try.underlying35 rfl (hX (by repeat constructor)))) (dd rfl) ?_
                refine o_val (v_gt rfl rfl) (dd rfl) ?_
                refine o_nil ?_
                refine c_fact (a := TabR N1 b18 L1 W1) (p := Inv0 L1 W1 ∧ HeadP L1 W1) (hX (by repeat constructor)) (fun _ _ k => tabR_inv k) fun hi1 => ?_
                obtain ⟨gv, l⟩ := r
                obtain rfl : l = [] := rise_stuck hR1 hi1.1 hr.1.closed
                refine c_cond_f rfl ?_
                refine c_skip ?_
                refine c_inBlock ?_
                refine c_region ?_
                refine o_val ((by first | exact v_add64 rfl rfl (by omega) | exact v_add rfl rfl)) (dd rfl) ?_
                refine o_val (v_move rfl) (dd rfl) ?_
                refine o_nil ?_
                refine c_use (IH ((i + 1, N1, L1, W1, upd m (ss[i]'hi').2.1 (goalB (ss[i]'hi').2.2.1), fun y => if y = (ss[i]'hi').2.1 then some (ss[i]'hi').2.2.1 else la y)) (by first | omega | (dsimp only; omega)) (⟨by dsimp only; omega, by dsimp only; omega, (fun o => by dsimp only; rw [look_upd]; by_cases e : o = (ss[i]'hi').2.1 <;> simp [e, hlk]), hR1, hA1⟩)) (by repeat (first | exact trivial | refine ⟨rfl, ?_⟩)) (eX (by repeat constructor))
              · rw [if_neg he] at hR1
                refine c_skip ?_
                refine c_inBlock ?_
                refine c_seq ?_
                refine c_region ?_
                refine o_val (v_move rfl) (dd rfl) ?_
                refine o_step (s_callf cl43 (stuckRt_con N1 b18 L1 W1 (by omega)) rfl (dd rfl) (pXs (by repeat constructor)) fun r hr => ?_)
                refine o_val ((by first | exact v_len_form Try.underlying35 rfl | exact v_len_sl Try.underlying35 rfl (hX (by repeat constructor)))) (dd rfl) ?_
                refine o_val (v_gt rfl rfl) (dd rfl) ?_
                refine o_nil ?_
                refine c_fact (a := TabR N1 b18 L1 W1) (p := Inv0 L1 W1 ∧ HeadP L1 W1) (hX (by repeat constructor)) (fun _ _ k => tabR_inv k) fun hi1 => ?_
                obtain ⟨gv, l⟩ := r
                obtain rfl : l = [] := rise_stuck hR1 hi1.1 hr.1.closed
                refine c_cond_f rfl ?_
                refine c_skip ?_
                refine c_inBlock ?_
                refine c_region ?_
                refine o_val ((by first | exact v_add64 rfl rfl (by omega) | exact v_add rfl rfl)) (dd rfl) ?_
                refine o_val (v_move rfl) (dd rfl) ?_
                refine o_nil ?_
                refine c_use (IH ((i + 1, N1, L1, W1, m, la)) (by first | omega | (dsimp only; omega)) (⟨by dsimp only; omega, by dsimp only; omega, hlk, hR1, hA1⟩)) (by repeat (first | exact trivial | refine ⟨rfl, ?_⟩)) (eX (by repeat constructor))
          · skip
            exact absurd g (by decide)
    · refine c_exit rfl ?_
      refine c_seq ?_
      refine c_seq ?_
      refine c_region ?_
      refine o_val (v_move rfl) (dd rfl) ?_
      refine o_val ((by first | exact v_len_form Try.underlying69 rfl | exact v_len_sl Try.underlying69 rfl (hX (by repeat constructor)))) (dd rfl) ?_
      refine o_val (v_move rfl) (dd rfl) ?_
      refine o_nil ?_
      refine c_block ?_
      refine c_loopR (γ := Nat × List Hs × List Hs) [(0, _), (2, _), (3, _), (77, _), (78, _)] (fun g => ss.length - g.1) (fun g => g.1 ≤ ss.length ∧ RowsAll (fun y => (∃ o ∈ ss, o.2.1 = y) ∧ ∀ (k : Nat) (h : k < ss.length), k < g.1 → y ≠ (ss[k]'h).2.1) g.2.1 g.2.2) (fun g => [(79, .int .i64 g.1)]) (fun g => [TabR N b18 g.2.1 g.2.2, Sl eOp12 v ss]) ((0, L, W)) (⟨Nat.zero_le _, all_mono hA fun _ h => ⟨h, fun _ _ h => by omega⟩⟩) (by repeat (first | exact trivial | refine ⟨rfl, ?_⟩)) (eX (by repeat constructor)) ?_
      rintro ⟨j, L1, W1⟩ ⟨hj, hA1⟩ IH2
      dsimp only at hj hA1 ⊢
      try dsimp only [List.cons_append, List.nil_append]
      refine c_seq ?_
      refine c_region ?_
      refine o_val (v_lt rfl rfl) (dd rfl) ?_
      refine o_nil ?_
      refine c_seq ?_
      refine c_cond_p rfl (fun hlj => ?_) (fun hlj => ?_)
      · have hj' : j < ss.length := by omega
        refine c_skip ?_
        refine c_seq ?_
        refine c_block ?_
        refine c_seq ?_
        refine c_region ?_
        refine o_val ((by first | exact v_indexAddrN Try.underlying69 ti80 rfl rfl (hX (by repeat constructor)) (by omega) | exact v_indexAddr Try.underlying69 ti80 rfl rfl (hX (by repeat constructor)) (by omega))) (dd rfl) ?_
        refine o_val (v_load_p (by repeat (first | exact PEnc.int _ | exact PEnc.str | exact PEnc.bool | exact PEnc.byte | exact PEnc.raw | apply PEnc.pair | apply PEnc.map)) ⟨_, Try.underlying80⟩ ti80 rfl (by repeat (first|exact el1 (by omega)|exact el2 (by omega)|exact el3 (by omega)|apply Elem.there))) (dd rfl) ?_
        refine o_step (s_alloc ti80 (dd rfl) (fun b10 => ?_))
        refine o_step (s_store_all ti80 rfl rfl (by first | exact CellsV.lit rfl | exact CellsV.one (by first | exact OneC.lit rfl | exact OneC.sl (hX (by repeat constructor)) )) (by repeat (first | exact OneAll.nil | (refine OneAll.cons ?_ ?_; · first | exact OneC.lit rfl | exact OneC.sl (hX (by repeat constructor)) ) | exact OneAll.rd (hX (by repeat constructor)))) rfl (pB (by repeat constructor)) rfl (?_))
        refine o_nil ?_
        refine c_region ?_
        refine o_val (v_move rfl) (dd rfl) ?_
        refine o_val (v_fieldAddrC 1 Try.underlying80 rfl ti3 (by decide) rfl) (dd rfl) ?_
        refine o_val (v_load lone3 rfl (hX (by repeat constructor)) rfl) (dd rfl) ?_
        refine o_step (s_callf cl45 (freeRt_con N b18 L1 W1 (ss[j]'hj').2.1 (by omega)) rfl (dd rfl) (pXs (by repeat constructor)) fun fv _ => ?_)
        refine o_nil ?_
        refine c_inBlock ?_
        refine c_region ?_
        refine o_val ((by first | exact v_add64 rfl rfl (by omega) | exact v_add rfl rfl)) (dd rfl) ?_
        refine o_val (v_move rfl) (dd rfl) ?_
        refine o_nil ?_
        refine c_use (IH2 ((j + 1, (freeR L1 W1 (ss[j]'hj').2.1).1, (freeR L1 W1 (ss[j]'hj').2.1).2.1)) (by first | omega | (dsimp only; omega)) (⟨by dsimp only; omega, all_mono (all_free (ss[j]'hj').2.1 hA1) fun y h => ⟨h.1.1, fun k hk hkj => (Nat.lt_succ_iff_lt_or_eq.1 hkj).elim (h.1.2 k hk) fun e => by subst e; exact h.2⟩⟩)) (by repeat (first | exact trivial | refine ⟨rfl, ?_⟩)) (eX (by repeat constructor))
      · obtain ⟨rfl, rfl⟩ := all_none hA1 fun y h => by
          obtain ⟨⟨o, ho, hoy⟩, h2⟩ := h
          obtain ⟨k, hk, rfl⟩ := List.mem_iff_getElem.1 ho
          exact h2 k hk (by omega) hoy.symm
        refine c_exit rfl ?_
        refine c_seq ?_
        refine c_seq ?_
        refine c_region ?_
        refine o_val (v_move rfl) (dd rfl) ?_
        refine o_val ((by first | exact v_len_form Try.underlying69 rfl | exact v_len_sl Try.underlying69 rfl (hX (by repeat constructor)))) (dd rfl) ?_
        refine o_val (v_move rfl) (dd rfl) ?_
        refine o_nil ?_
        refine c_block ?_
        refine c_loopR (γ := Nat) [(2, _), (3, _), (88, _), (89, _)] (fun j => ss.length - j) (fun j => j ≤ ss.length) (fun j => [(90, .int .i64 j)]) (fun _ => [TabR N b18 [] [], Sl eOp12 v ss]) (0) (Nat.zero_le _) (by repeat (first | exact trivial | refine ⟨rfl, ?_⟩)) (eX (by repeat constructor)) ?_
        rintro j2 hj2 IH3
        try dsimp only [List.cons_append, List.nil_append]
        refine c_seq ?_
        refine c_region ?_
        refine o_val (v_lt rfl rfl) (dd rfl) ?_
        refine o_nil ?_
        refine c_seq ?_
        refine c_cond_p rfl (fun hl3 => ?_) (fun hl3 => ?_)
        · have hj3 : j2 < ss.length := by omega
          refine c_skip ?_
          refine c_seq ?_
          refine c_block ?_
          refine c_seq ?_
          refine c_region ?_
          refine o_val ((by first | exact v_indexAddrN Try.underlying69 ti80 rfl rfl (hX (by repeat constructor)) (by omega) | exact v_indexAddr Try.underlying69 ti80 rfl rfl (hX (by repeat constructor)) (by omega))) (dd rfl) ?_
          refine o_val (v_load_p (by repeat (first | exact PEnc.int _ | exact PEnc.str | exact PEnc.bool | exact PEnc.byte | exact PEnc.raw | apply PEnc.pair | apply PEnc.map)) ⟨_, Try.underlying80⟩ ti80 rfl (by repeat (first|exact el1 (by omega)|exact el2 (by omega)|exact el3 (by omega)|apply Elem.there))) (dd rfl) ?_
          refine o_step (s_alloc ti80 (dd rfl) (fun b12 => ?_))
          refine o_step (s_store_all ti80 rfl rfl (by first | exact CellsV.lit rfl | exact CellsV.one (by first | exact OneC.lit rfl | exact OneC.sl (hX (by repeat constructor)) )) (by repeat (first | exact OneAll.nil | (refine OneAll.cons ?_ ?_; · first | exact OneC.lit rfl | exact OneC.sl (hX (by repeat constructor)) ) | exact OneAll.rd (hX (by repeat constructor)))) rfl (pB (by repeat constructor)) rfl (?_))
          refine o_nil ?_
          refine c_seq ?_
          refine c_held [BlkR b12 80 [.int .i64 (ss[j2]'hj3).1, .int .i64 (ss[j2]'hj3).2.1, .string (ss[j2]'hj3).2.2.1, .int .i64 (ss[j2]'hj3).2.2.2]] rfl ?_
          refine a_take 0 rfl (by kernel_rfl) (by kernel_rfl) (by kernel_rfl) (v_move rfl) (eX (by repeat constructor)) (dd rfl) ?_
          refine a_take 1 rfl (by kernel_rfl) (by kernel_rfl) (by kernel_rfl) (v_fieldAddrC 2 Try.underlying80 rfl ti9 (by decide) rfl) (eX (by repeat constructor)) (dd rfl) ?_
          refine a_take 2 rfl (by kernel_rfl) (by kernel_rfl) (by kernel_rfl) (v_load lone9 rfl (hX (by repeat constructor)) rfl) (eX (by repeat constructor)) (dd rfl) ?_
          refine a_take 5 rfl (by kernel_rfl) (by kernel_rfl) (by kernel_rfl) (v_move rfl) (eX (by repeat constructor)) (dd rfl) ?_
          refine a_take 6 rfl (by kernel_rfl) (by kernel_rfl) (by kernel_rfl) (v_fieldAddrC 2 Try.underlying80 rfl ti9 (by decide) rfl) (eX (by repeat constructor)) (dd rfl) ?_
          refine a_take 7 rfl (by kernel_rfl) (by kernel_rfl) (by kernel_rfl) (v_load lone9 rfl (hX (by repeat constructor)) rfl) (eX (by repeat constructor)) (dd rfl) ?_
          refine a_one 3 rfl (by kernel_rfl) (s_callf cl39 (holdersF_con N b18 [] [] (ss[j2]'hj3).2.2.1 (by omega)) rfl (dd rfl) (pXs (by repeat constructor)) (fun r hr => a_on (eX (by repeat constructor)) ?_))
          obtain ⟨rv, l⟩ := r
          obtain ⟨⟨hk, hl⟩, a0, cap, hrv⟩ := hr
          dsimp only at hk hl hrv ⊢
          obtain rfl : l = [] := List.eq_nil_iff_forall_not_mem.2 fun x hx => by cases (hk.2 x).1 hx
          subst hrv
          refine a_take 4 rfl (by kernel_rfl) (by kernel_rfl) (by kernel_rfl) ((by first | exact v_len_form Try.underlying35 rfl | exact v_len_sl Try.underlying35 rfl (hX (by repeat constructor)))) (eX (by repeat constructor)) (dd rfl) ?_
          refine a_one 8 rfl (by kernel_rfl) (s_callf cl41 (queueF_con N b18 [] [] (ss[j2]'hj3).2.2.1 (by omega)) rfl (dd rfl) (pXs (by repeat constructor)) (fun qv hq => a_on (eX (by repeat constructor)) ?_))
          obtain ⟨-, a1, cap1, rfl⟩ := hq
          refine a_take 9 rfl (by kernel_rfl) (by kernel_rfl) (by kernel_rfl) ((by first | exact v_len_form Try.underlying35 rfl | exact v_len_sl Try.underlying35 rfl (hX (by repeat constructor)))) (eX (by repeat constructor)) (dd rfl) ?_
          refine a_take 10 rfl (by kernel_rfl) (by kernel_rfl) (by kernel_rfl) ((by first | exact v_add64 rfl rfl (by omega) | exact v_add rfl rfl)) (eX (by repeat constructor)) (dd rfl) ?_
          refine a_take 11 rfl (by kernel_rfl) (by kernel_rfl) (by kernel_rfl) (v_gt rfl rfl) (eX (by repeat constructor)) (dd rfl) ?_
          refine a_done (by kernel_rfl) ?_ _
          refine c_cond_f rfl ?_
          refine c_skip ?_
          refine c_inBlock ?_
          refine c_region ?_
          refine o_val ((by first | exact v_add64 rfl rfl (by omega) | exact v_add rfl rfl)) (dd rfl) ?_
          refine o_val (v_move rfl) (dd rfl) ?_
          refine o_nil ?_
          refine c_use (IH3 (j2 + 1) (by first | omega | (dsimp only; omega)) (by omega)) (by repeat (first | exact trivial | refine ⟨rfl, ?_⟩)) (eX (by repeat constructor))
        · refine c_exit rfl ?_
          refine c_seq ?_
          refine c_region ?_
          refine o_step (s_callf_keep cl35 (alive12_con) rfl (dd rfl) (rX (by repeat constructor)) (fun _ => sX) (fun _ _ => ?_))
          refine o_val (v_assign rfl) (dd rfl) ?_
          refine o_nil ?_
          refine c_ret1 Try.func12 rfl rfl fun w O hS => ?_
          exact ⟨(), rfl, trivial, trivial⟩
end Go.Proofs.Ytnamhhmfnokfiaa
namespace Go.Proofs.Ytnamhhmfnokfiaa
open Go Go.SL Go.RowKit Go.ChangeShapes Go.WideShapes Go.ChangeAt 
set_option linter.unusedVariables false
set_option maxRecDepth 100000 in
theorem lockRises_lifted (os : Os) (started : os.Started) (H : Type) (enc : TypeId × Value → H) :
    ReturnsInHanded {} Try.checked os 12 .any (fun w args => (Rows.lockRisesSpec.pre enc Try.prog Try.f12 [] false w args ∧ True) ∧ sizedMet enc Try.prog Try.f12 (OpenSpec.ofChange Rows.lockRisesSpec) false w args)
      (Rows.lockRisesSpec.post enc Try.prog Try.f12 false true false false) := by
  refine lift_true (C := Try.checked) (X := fun w _ => True) (t := 4) (fun _ _ _ _ h => h) own started (by kernel_rfl) Try.func12 rfl (fun ds h => ?_) rfl Try.underlying4 laidOut (by kernel_rfl)
    (ChangeSpec.witness_shaped (enc := enc) (C := Try.checked) (os := os) (X := fun w _ => True) false (World.laidAll Try.prog os laidL) #[.slice none 0 0] 8 (World.laidAll_os _ _ _) (start_shaped os _) (by kernel_rfl) (by kernel_rfl) (by kernel_rfl) (trivial)) ?_
  · match ds, h with
    | [d0], _ => rfl
  · intro W base args ds ps hsh _ hval0 hA0 hwt0
    have hval : ∀ (j : Nat) t v, Try.f12.params[j]? = some t → args[j]? = some v → Value.okWide Try.prog W .any base t v := hval0
    have hA : DataW.TrodAll enc Try.prog W 0 (fun _ => true) true Try.f12.params.toList args.toList ds ps := hA0
    have hwt : ∀ (j : Nat) t d, Try.f12.params.toList[j]? = some t → ds[j]? = some d → ∀ n ∈ d.weights Try.prog t, n ≤ reachBytes := hwt0
    clear hval0 hA0 hwt0
    rw [Try.params12] at hA hval hwt
    obtain ⟨v0, vs0, d0, ds0, p0, q0, hargs, rfl, rfl, h0, r0⟩ := trodAll_cons hA
    obtain ⟨rfl, rfl, rfl⟩ := trodAll_nil r0
    obtain rfl : args = #[v0] := by cases args; simp_all
    obtain ⟨x0, e0, g0⟩ := open_arg opOps12 h0 (hwt 0 69 d0 rfl rfl)
    have a0 := arg_slice Try.underlying69 (hval 0 69 v0 rfl rfl) e0
    exact calls_of_con (lockRises_con v0 x0 g0.1) (List.forall_mem_cons.2 ⟨a0, fun _ h => by cases h⟩)
theorem lockRises_row : Rows.LockRisesSaid :=
  OpenClaim.holds_of_wide 12 Try.f12 rfl rfl rfl rfl rfl rfl rfl ⟨rfl, rfl, rfl, rfl, rfl⟩ rfl rfl rfl rfl rfl (by kernel_rfl) Try.func12 (by kernel_rfl)
    (of_decide_eq_true (by kernel_rfl)) (by unfold Func.isWrapper; first | (rw [if_pos (by decide +kernel)]; kernel_rfl) | (rw [if_neg (by decide +kernel)]; exact ⟨rfl, rfl⟩))
    (fun os started H enc _ => by have h_ := lockRises_lifted os started H enc; simp only [and_true] at h_; exact h_)
#print axioms lockRises_row
end Go.Proofs.Ytnamhhmfnokfiaa

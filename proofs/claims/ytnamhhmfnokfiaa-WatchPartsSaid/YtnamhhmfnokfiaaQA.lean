/- Pointers; calls of functions without a body; strings put behind bytes; strings that share bytes. -/
import Derived.Test.YtnamhhmfnokfiaaQ8
import Derived.Lib.UnsafeStr
namespace Go.SL
open Go

section
variable {K : Act → World → Prop} {X : Cx} {ops : Array Oper} {rest : List Oper} {kk : List Item} {env : Env} {L L1 L2 : List A} {d : Nat} {T : TypeId} {pos : String} {af : Array Edge} {x y : Operand} {xT yT : TypeId}
variable {α : Type} {e : Enc α} {v u : Value} {zs ys : List α} {E : TypeId}

/-- Rules for '==' and '!=' of values that are compared by Op.equal. -/
theorem v_eql_any {a b : Value} {r : Bool} (hx : env.eval x = some a) (hy : env.eval y = some b) (hne : ∀ op, binOp op xT a b = match op with
      | .eql => (do pure (.bool (← Op.equal xT a b)))
      | .neq => (do pure (.bool (!(← Op.equal xT a b))))
      | _ => binOp op xT a b) (hg : ∀ op, eqGuard op xT x y a b = pure ()) (h : ∀ w O, Stars L w O → (Op.equal xT a b).run X.P w = .ok r w) : Val X env L (.binOp .eql xT x y yT) T (.bool r) :=
  fun _ _ _ _ ac w O ha hs => by
    have h1 := hne .eql
    simp only at h1
    simp only [execOp, ha.eval hx, ha.eval hy, hg, h1]
    simp [h w O hs]
theorem v_neq_any {a b : Value} {r : Bool} (hx : env.eval x = some a) (hy : env.eval y = some b) (hne : ∀ op, binOp op xT a b = match op with
      | .eql => (do pure (.bool (← Op.equal xT a b)))
      | .neq => (do pure (.bool (!(← Op.equal xT a b))))
      | _ => binOp op xT a b) (hg : ∀ op, eqGuard op xT x y a b = pure ()) (h : ∀ w O, Stars L w O → (Op.equal xT a b).run X.P w = .ok r w) : Val X env L (.binOp .neq xT x y yT) T (.bool (!r)) :=
  fun _ _ _ _ ac w O ha hs => by
    have h1 := hne .neq
    simp only at h1
    simp only [execOp, ha.eval hx, ha.eval hy, hg, h1]
    simp [h w O hs]
theorem equal_succ {P : Program} {t : TypeId} {a b : Value} {w : World} {d : TypeDesc} (hu : P.underlying t = some d) : (Op.equal t a b).run P w = (Op.equalIn (9999 + 1) t a b).run P w := rfl
theorem v_eq_sl_nil {a0 : Option Addr} {n c : Nat} (hu : X.P.underlying xT = some (.slice E)) (hx : env.eval x = some (.slice a0 n c)) (hy : env.eval y = some (.slice none 0 0)) : Val X env L (.binOp .eql xT x y yT) T (.bool a0.isNone) :=
  v_eql_any hx hy (fun op => by cases op <;> rfl) (fun op => by cases op <;> rfl) fun w O _ => by
    rw [equal_succ hu, Op.equalIn]
    simp only [Sem.run_bind, run_underlying hu, Result.andThen_ok]
    cases a0 <;> rfl
theorem v_eq_ptr_nil {a0 : Option Addr} {t : TypeId} (hu : X.P.underlying xT = some (.pointer t)) (hx : env.eval x = some (.pointer a0)) (hy : env.eval y = some (.pointer none)) : Val X env L (.binOp .eql xT x y yT) T (.bool a0.isNone) :=
  v_eql_any hx hy (fun op => by cases op <;> cases a0 <;> rfl) (fun op => by cases op <;> rfl) fun w O _ => by
    rw [equal_succ hu, Op.equalIn]
    simp only [Sem.run_bind, run_underlying hu, Result.andThen_ok]
    cases a0 <;> rfl
theorem v_ne_ptr_nil {a0 : Option Addr} {t : TypeId} (hu : X.P.underlying xT = some (.pointer t)) (hx : env.eval x = some (.pointer a0)) (hy : env.eval y = some (.pointer none)) : Val X env L (.binOp .neq xT x y yT) T (.bool (!a0.isNone)) :=
  v_neq_any hx hy (fun op => by cases op <;> cases a0 <;> rfl) (fun op => by cases op <;> rfl) fun w O _ => by
    rw [equal_succ hu, Op.equalIn]
    simp only [Sem.run_bind, run_underlying hu, Result.andThen_ok]
    cases a0 <;> rfl
theorem v_ne_ptr_self {b off : Nat} {t : TypeId} {z : Value} {n nb : Nat} (hu : X.P.underlying xT = some (.pointer t)) (ht : TI X.P t z n nb) (hn : n ≠ 0) (hx : env.eval x = some (.pointer (some ⟨b, off, none⟩))) (hy : env.eval y = some (.pointer (some ⟨b, off, none⟩))) :
    Val X env L (.binOp .neq xT x y yT) T (.bool false) :=
  v_neq_any (r := true) hx hy (fun op => by cases op <;> rfl) (fun op => by cases op <;> rfl) fun w O _ => by
    obtain ⟨i, hi, _, hsz, _⟩ := ht
    have : i.size ≠ 0 := by omega
    rw [equal_succ hu, Op.equalIn]
    simp only [Sem.run_bind, run_underlying hu, Result.andThen_ok]
    simp [sizeOf, typeInfo, hi, this, sameAddr]
/-- A call of a function without a body, that tells a value. -/
theorem v_ext {g : FuncId} {xs : List Operand} {args : List Value} {ts : Array TypeId} (h : ∀ w, (callFunc g args.toArray).run X.P w = .ok (.value v) w) (hx : evalAll env xs = some args) : Val X env L (.call ⟨.value (.func g), xs.toArray, ts⟩) T v :=
  fun _ _ _ _ a w O ha _ => by
    have h1 := ha.all hx
    have h2 : Env.eval env (.func g) = some (.func (.func g) #[] #[]) := rfl
    simp only [execOp, resolve, ha.eval h2, Deferred.ofValue, pure_bind, invoke, List.map_toArray, h1]
    have hargs : #[] ++ args.toArray ++ #[] = args.toArray := by simp
    rw [hargs]; exact h w

theorem seen_self {P : Program} {w : World} {b off : Nat} {bt : TypeId} {cs : Array Value} {fz : Nat × Nat} (h : w.heap[b]? = some (.cells cs bt fz)) : (Conv.seenAt ⟨b, off, none⟩).run P w = .ok ⟨b, off, none⟩ w := by
  have hs : w.shape? b = some (bt, cs.size) := by simp [World.shape?, h]
  simp [Conv.seenAt, viewAt, shape, Sem.run, hs]
theorem v_toUnsafe {sT dT t : TypeId} {z : Value} {n nb b off : Nat} {bt : TypeId} {cs : List Value} (hs : X.P.underlying sT = some (.pointer t)) (hd : X.P.underlying dT = some .unsafePointer) (ht : TI X.P t z n nb) (hn : n ≠ 0)
    (hx : env.eval x = some (.pointer (some ⟨b, off, none⟩))) (hb : Has L (BlkR b bt cs)) (ho : off < cs.length) : Val X env L (.convert sT dT x) T (.pointer (some ⟨b, off, none⟩)) :=
  fun _ _ _ _ a w O ha hst => by
    obtain ⟨_, fz, hh⟩ := hb w O hst
    obtain ⟨i, hi, _, hsz, _⟩ := ht
    have h0 : i.size ≠ 0 := by omega
    have hsh : w.shape? b = some (bt, cs.length) := by simp [World.shape?, hh]
    have hse := seen_self (P := X.P) (off := off) hh
    have hno : ¬ (cs.length ≤ off) := by omega
    simp [execOp, ha.eval hx, convert, run_underlying hs, run_underlying hd, Conv.unsafePointer, hse, cellsIn, shape, Sem.run, hsh, sizeOf, typeInfo, hi, h0, hno]
theorem v_fromUnsafe {sT dT t : TypeId} {z : Value} {n nb b off : Nat} {bt : TypeId} {cs : List Value} (hs : X.P.underlying sT = some .unsafePointer) (hd : X.P.underlying dT = some (.pointer t)) (ht : TI X.P t z n nb) (hn : n ≠ 0)
    (hx : env.eval x = some (.pointer (some ⟨b, off, none⟩))) (hb : Has L (BlkR b bt cs)) (hl : liesAt X.P X.P.depth bt (cs.length / X.P.cellsOf bt) off t 1 = true) : Val X env L (.convert sT dT x) T (.pointer (some ⟨b, off, none⟩)) :=
  fun _ _ _ _ a w O ha hst => by
    obtain ⟨_, fz, hh⟩ := hb w O hst
    obtain ⟨i, hi, _, hsz, _⟩ := ht
    have h0 : i.size ≠ 0 := by omega
    have hsh : w.shape? b = some (bt, cs.length) := by simp [World.shape?, hh]
    have hse := seen_self (P := X.P) (off := off) hh
    simp [execOp, ha.eval hx, convert, run_underlying hs, run_underlying hd, Conv.unsafePointer, hse, shape, Sem.run, hsh, sizeOf, typeInfo, hi, h0, variablesAt, program, hl]

/-! ### a slice is stored -/
theorem s_store_any {t : TypeId} {b off : Nat} {bt : TypeId} {cs cs' : List Value} {u : Value} {z : Value} {nb : Nat} (ht : TI X.P t z 1 nb) (hx : env.eval x = some (.pointer (some ⟨b, off, none⟩))) (hy : env.eval y = some u) (h1 : Has L (Sl e u zs))
    (hp : Pick (Blk b bt cs) L L1) (hlt : off < cs.length) (hset : cs.set off u = cs') (k : Kont X env (Blk b bt cs' :: L1) K) : StepK X kk ⟨none, .store t x y, T, pos, af, none⟩ env L K := by
  intro a w O ha hst hrel
  obtain ⟨a0, cap, hu, _⟩ := h1 w O hst
  exact s_store ht hx hy (by rw [hu]; rfl) hp hlt hset k a w O ha hst hrel

/-! ### append of a string to bytes -/
theorem s_append_str {t t2 : TypeId} {s : ByteArray} {l : List UInt8} (hu : X.P.underlying t = some (.slice E)) (hu2 : X.P.underlying t2 = some .string) (hE : TI X.P E (.int .u8 0) 1 1)
    (hx : env.eval x = some v) (hy : env.eval y = some (.string s)) (hd : d < X.fn.ntmps) (hp : Pick (Own eByte E v l) L L1) (hb : l.length + s.size ≤ 140737488355328)
    (k : ∀ v', Kont X ((d, v') :: env) (Own eByte E v' (l ++ s.data.toList) :: L1) K) :
    StepK X kk ⟨some d, .call ⟨.builtin .append, #[x, y], #[t, t2]⟩, T, pos, af, none⟩ env L K := by
  refine s_main (γ := Value) (V := fun u => u) (pu := fun _ => True) (L' := fun v' => Own eByte E v' (l ++ s.data.toList) :: L1) ?_ hd (fun u _ => k u)
  intro a w O ha hst hdom
  obtain ⟨O1, O2, s1, hO, hs2⟩ := hp w O hst
  obtain ⟨ti, hi, hz0, hsz, hbt⟩ := hE
  obtain ⟨P1, P2, cs, t1, g1, g2, g3⟩ := id hO
  have hcs := eByte_rows.1 g3
  have hss : s.size = s.data.toList.length := Lib.size_eq s
  have hm : l.length + s.size ≤ maxLen := by simp only [maxLen]; omega
  have key : ∃ v' w', (Builtin.append_ #[t, t2] T #[v, .string s]).run X.P w = .ok v' w' ∧ w'.ownsRow 0 E 1 v' (l.length + s.size) (cs ++ Lib.strCells s) ∧ w.grownBy w' v.ownBlock ∧ ∀ b, v'.ownBlock = some b → b < w'.heap.size ∧ (v.ownBlock = some b ∨ w.heap.size ≤ b) := by
    have hblk : ∀ {w' : World} {v' : Value} {base n : Nat} {xs : List Value}, w'.ownsRow base E 1 v' n xs → ∀ b, v'.ownBlock = some b → b < w'.heap.size ∧ base ≤ b := by
      intro w' v' base n xs h b hb
      rcases h.2 with ⟨rfl, _⟩ | ⟨g, cap, cur, rfl, hbase, hg, _⟩
      · simp [Value.ownBlock] at hb
      · simp only [Value.ownBlock, Option.some.injEq] at hb
        subst hb
        refine ⟨?_, hbase⟩
        rcases Nat.lt_or_ge g w'.heap.size with h | h
        · exact h
        · rw [Array.getElem?_eq_none h] at hg; cases hg
    have weak : ∀ {w' : World} {v' : Value} {base n : Nat} {xs : List Value}, w'.ownsRow base E 1 v' n xs → w'.ownsRow 0 E 1 v' n xs := by
      intro w' v' base n xs h
      exact ⟨h.1, h.2.imp id fun ⟨g, cap, cur, e, _, r⟩ => ⟨g, cap, cur, e, Nat.zero_le _, r⟩⟩
    rcases g1.2 with ⟨rfl, h0⟩ | ⟨g, cap', cur, rfl, hbg, hg, hnc, hcm, hcs', htake⟩
    · have g1' : w.ownsRow w.heap.size E 1 (.slice none 0 0) l.length cs := ⟨g1.1, .inl ⟨rfl, h0⟩⟩
      obtain ⟨v', w', hrun, hown', hgr, _⟩ := Lib.run_append_own_string (P := X.P) (w := w) w.heap.size t t2 T E ti hu hu2 hi hz0 hsz hbt _ l.length cs g1' s hm hb (Nat.le_refl _)
      exact ⟨v', w', hrun, weak hown', hgr, fun b hb => ⟨(hblk hown' b hb).1, .inr (hblk hown' b hb).2⟩⟩
    · by_cases hroom : l.length + s.size ≤ cap'
      · have hsz1 : cur.size = cap' := by rw [hcs']; exact Nat.mul_one _
        have hr := Lib.run_append_room_string (P := X.P) (w := w) t t2 T E ti hu hu2 hi hsz g l.length cap' cur hg s hroom (by rw [hsz1]; exact hroom)
        have hcl : cs.length = l.length := by rw [hcs]; simp
        have hlen : (cs ++ Lib.strCells s).length = (l.length + s.size) * 1 := by rw [List.length_append, hcl, Lib.strCells_length, Nat.mul_one]
        have htake' : cur.toList.take l.length = cs := by have h := htake; rw [show eByte.n = 1 from rfl, Nat.mul_one] at h; exact h
        have hown' : (w.setRow g (cur.toList.take l.length ++ Lib.strCells s ++ cur.toList.drop (l.length + s.size)).toArray).ownsRow 0 E 1 (.slice (some ⟨g, 0, none⟩) (l.length + s.size) cap') (l.length + s.size) (cs ++ Lib.strCells s) := by
          refine ⟨hlen, .inr ⟨g, cap', _, rfl, Nat.zero_le _, setRow_heap w g cur _ E _ hg, hroom, hcm, ?_, ?_⟩⟩
          · simp only [List.size_toArray, List.length_append, List.length_take, List.length_drop, Array.length_toList, Lib.strCells_length]
            omega
          · rw [htake', ← hlen]
            exact List.take_left
        refine ⟨_, _, hr, hown', ⟨rfl, rfl, rfl, by simp, fun k _ hk => setRow_other w g k _ (fun e => hk (by simp [Value.ownBlock, e]))⟩, fun b hb => ⟨(hblk hown' b hb).1, .inl hb⟩⟩
      · have holds : ∀ j u, cs[j]? = some u → w.cell? ((⟨g, 0, none⟩ : Addr).add j) = some u := by
          intro j u hj
          have hjl := cell_in hj
          rw [g1.1] at hjl
          rw [add_off, blk_cell hg]
          rw [← htake, List.getElem?_take, if_pos hjl] at hj
          simpa using hj
        have hcl : cs.length = l.length * ti.size := by rw [g1.1, hsz]; rfl
        have hrun := Lib.run_append_grow_string (P := X.P) (w := w) t t2 T E ti (.int .u8 0) hu hu2 hi hz0 ⟨g, 0, none⟩ l.length cap' cs hcl holds s (by omega) (by have := hm; simp only [maxLen] at this; omega) (growslice_fits (by omega) (by rw [hbt]; omega))
        obtain ⟨v1, w1, hrun1, hown1, hgr1, _⟩ := Lib.run_append_own_string (P := X.P) (w := w) 0 t t2 T E ti hu hu2 hi hz0 hsz hbt _ l.length cs ⟨g1.1, .inr ⟨g, cap', cur, rfl, hbg, hg, hnc, hcm, hcs', htake⟩⟩ s hm hb (Nat.zero_le _)
        have e1 := hrun1.symm.trans hrun
        injection e1 with e1 e2
        refine ⟨v1, w1, hrun1, hown1, hgr1, fun b hb => ⟨(hblk hown1 b hb).1, .inr ?_⟩⟩
        rw [e1] at hb
        simp only [Value.ownBlock, Option.some.injEq] at hb
        omega
  obtain ⟨v', w', hrun, hown', hgr, hv'⟩ := key
  obtain ⟨P, hP, hrel⟩ := own_grow (e := eByte) (ys := s.data.toList) (a' := Pu True) (v' := v') (cs' := Lib.strCells s) (O3 := fun _ => 0) (O4 := O2) hdom s1 hO ⟨fun _ => Nat.zero_le _, fun _ => Nat.le_refl _, fun _ h => by omega, fun _ _ => rfl⟩ trivial hs2
    (eByte_rows.2 rfl) (fun Q1 Q2 c0 _ h1 h3 => by
      have : c0 = cs := by rw [eByte_rows.1 h3, hcs]
      rw [this, ← hss]; exact hown') hgr hv'
  have hruns : (Builtin.append_ #[t, t2] T #[a.eval x, a.eval y]).run X.P w = .ok v' w' := by rw [ha.eval hx, ha.eval hy]; exact hrun
  exact ⟨v', w', P, by simp [execOp, resolve, invoke, builtin, hruns], trivial, Ent.get hP (Ent.cons Ent.drop), hrel⟩

/-! ### a string that shares a row's bytes -/
theorem v_sliceData {ts : Array TypeId} {a0 : Addr} {n c : Nat} (hx : env.eval x = some (.slice (some a0) n c)) (hc : c ≠ 0) : Val X env L (.call ⟨.builtin .unsafeSliceData, #[x], ts⟩) T (.pointer (some a0)) :=
  fun _ _ _ _ a w O ha _ => by
    have := Lib.run_unsafeSliceData_row (P := X.P) (w := w) ts T a0 n c hc
    simp [execOp, resolve, invoke, builtin, ha.eval hx, this]
theorem v_sliceData_nil {ts : Array TypeId} {n c : Nat} (hx : env.eval x = some (.slice none n c)) : Val X env L (.call ⟨.builtin .unsafeSliceData, #[x], ts⟩) T (.pointer none) :=
  fun _ _ _ _ a w O ha _ => by
    have := Lib.run_unsafeSliceData_nil (P := X.P) (w := w) ts T n c
    simp [execOp, resolve, invoke, builtin, ha.eval hx, this]
theorem v_unsafeString_nil {pt it : TypeId} (hx : env.eval x = some (.pointer none)) (hy : env.eval y = some (.int .i64 0)) : Val X env L (.call ⟨.builtin .unsafeString, #[x, y], #[pt, it]⟩) T (.string ByteArray.empty) :=
  fun _ _ _ _ a w O ha _ => by
    have := Lib.run_unsafeString_none (P := X.P) (w := w) pt it T none
    simp [execOp, resolve, invoke, builtin, ha.eval hx, ha.eval hy, this]
theorem s_unsafeString {pt it : TypeId} {g c : Nat} {l : List UInt8} (hp : X.P.underlying pt = some (.pointer E)) (hc : X.P.cellsOf E = 1) (hx : env.eval x = some (.pointer (some ⟨g, 0, none⟩))) (hy : env.eval y = some (.int .i64 l.length)) (h0 : l ≠ [])
    (ho : Pick (Own eByte E (.slice (some ⟨g, 0, none⟩) l.length c) l) L L1) (hd : d < X.fn.ntmps) (k : Kont X ((d, .string ⟨l.toArray⟩) :: env) L1 K) :
    StepK X kk ⟨some d, .call ⟨.builtin .unsafeString, #[x, y], #[pt, it]⟩, T, pos, af, none⟩ env L K := by
  refine s_main (γ := Unit) (V := fun _ => .string ⟨l.toArray⟩) (pu := fun _ => True) (L' := fun _ => L1) ?_ hd (fun _ _ => k)
  intro a w O ha hst hdom
  obtain ⟨O1, O2, s1, ⟨P1, P2, cs, t1, g1, g2, g3⟩, hs2⟩ := ho w O hst
  have hcs := eByte_rows.1 g3
  have hP := g2 g rfl
  rcases g1.2 with ⟨h, _⟩ | ⟨g', cap', cur, h', _, hg, hle, hmx, hsz, htk⟩
  · cases h
  · cases h'
    have hsh : w.shape? g = some (E, cur.size) := by simp [World.shape?, hg]
    have hcurl : l.length ≤ cur.size := by rw [hsz]; show _ ≤ c * 1; omega
    have hrun := Lib.run_unsafeString_row (P := X.P) (w := w) pt it T E hp hc g cur.size hsh l h0 hcurl (by simp only [maxLen] at hmx; omega) (fun j b hj => by
      rw [add_off, blk_cell hg, Nat.zero_add]
      have hjl : j < l.length := by
        rcases Nat.lt_or_ge j l.length with h | h
        · exact h
        · rw [List.getElem?_eq_none h] at hj; cases hj
      have h1 : cs[j]? = some (.int .u8 b.toNat) := by rw [hcs]; simp [hj]
      rw [← htk, List.getElem?_take, if_pos (by show j < l.length * 1; omega)] at h1
      simpa using h1)
    have hO1 := t1.l g
    have hO := s1.l g
    refine ⟨(), w.freeze ⟨g, 0, none⟩ l.length, O, by simp [execOp, resolve, invoke, builtin, ha.eval hx, ha.eval hy, hrun], trivial, ?_, ?_⟩
    · refine (hs2.loc fun b hb => ?_).mono s1.r
      have hne : b ≠ g := by
        intro e; subst e
        have := s1.lr b (by omega); omega
      unfold World.freeze
      split
      · rfl
      · simp only [Array.getElem?_modify]
        rw [if_neg (fun e => hne e.symm)]
    · refine ⟨?_, ?_, ?_, ?_, fun b hb hlt => ?_, fun _ _ => Nat.le_refl _, fun b hb => ?_⟩
      · unfold World.freeze; split <;> rfl
      · unfold World.freeze; split <;> rfl
      · unfold World.freeze; split <;> rfl
      · unfold World.freeze; split
        · exact Nat.le_refl _
        · simp
      · have hne : b ≠ g := by intro e; subst e; omega
        unfold World.freeze
        split
        · rfl
        · simp only [Array.getElem?_modify]
          rw [if_neg (fun e => hne e.symm)]
      · have := hdom b hb
        unfold World.freeze; split
        · exact this
        · simpa using this
end
end Go.SL

/- The texts QA, QB, QR, QS, QM, QN, QK, QT, Q9, one behind the other. -/
import Derived.Test.YtmgkeippepeggaaGreatDoorZY1
import Derived.Lib.UnsafeStr
import Derived.RangeFuncRecord
import Derived.RangeFuncLeaves
import Derived.WideLaws
import Derived.MapKept
import Derived.Maps.RangeRun
import Derived.Lib.SliceRun
import Derived.Laws.StructEq
set_option linter.unusedVariables false
set_option linter.unusedSimpArgs false
/- Pointers; calls of functions without a body; strings put behind bytes; strings that share bytes. -/
namespace Go.SL
open Go

section
variable {K : Act → World → Prop} {X : Cx} {ops : Array Oper} {rest : List Oper} {kk : List Item} {env : Env} {L L1 L2 : List A} {d : Nat} {T : TypeId} {pos : String} {af : Array Edge} {x y : Operand} {xT yT : TypeId}
variable {α : Type} {e : Enc α} {v u : Value} {zs ys : List α} {E : TypeId}

/-- Rules for '==' and '!=' of values that are compared by Op.equal. -/
theorem v_eql_any {a b : Value} {r : Bool} (hx : env.eval x = some a) (hy : env.eval y = some b) (hne : ∀ op, binOp op xT a b = match op with
      | .eql => (do pure (.bool (← Op.equal xT a b)))
      | .neq => (do pure (.bool (!(← Op.equal xT a b))))
      | _ => binOp op xT a b) (hg : ∀ op, eqGuard op xT x y a b = pure ()) (h : ∀ w O, Stars L w O → (Op.equal xT a b).run X.P w = .ok r w) : Val X env L (.binOp .eql xT x y yT) T (.bool r) :=
  fun _ _ _ _ ac w O ha hs => by
    have h1 := hne .eql
    simp only at h1
    simp only [execOp, ha.eval hx, ha.eval hy, hg, h1]
    simp [h w O hs]
theorem v_neq_any {a b : Value} {r : Bool} (hx : env.eval x = some a) (hy : env.eval y = some b) (hne : ∀ op, binOp op xT a b = match op with
      | .eql => (do pure (.bool (← Op.equal xT a b)))
      | .neq => (do pure (.bool (!(← Op.equal xT a b))))
      | _ => binOp op xT a b) (hg : ∀ op, eqGuard op xT x y a b = pure ()) (h : ∀ w O, Stars L w O → (Op.equal xT a b).run X.P w = .ok r w) : Val X env L (.binOp .neq xT x y yT) T (.bool (!r)) :=
  fun _ _ _ _ ac w O ha hs => by
    have h1 := hne .neq
    simp only at h1
    simp only [execOp, ha.eval hx, ha.eval hy, hg, h1]
    simp [h w O hs]
theorem equal_succ {P : Program} {t : TypeId} {a b : Value} {w : World} {d : TypeDesc} (hu : P.underlying t = some d) : (Op.equal t a b).run P w = (Op.equalIn (9999 + 1) t a b).run P w := rfl
theorem v_eq_sl_nil {a0 : Option Addr} {n c : Nat} (hu : X.P.underlying xT = some (.slice E)) (hx : env.eval x = some (.slice a0 n c)) (hy : env.eval y = some (.slice none 0 0)) : Val X env L (.binOp .eql xT x y yT) T (.bool a0.isNone) :=
  v_eql_any hx hy (fun op => by cases op <;> rfl) (fun op => by cases op <;> rfl) fun w O _ => by
    rw [equal_succ hu, Op.equalIn]
    simp only [Sem.run_bind, run_underlying hu, Result.andThen_ok]
    cases a0 <;> rfl
theorem v_eq_ptr_nil {a0 : Option Addr} {t : TypeId} (hu : X.P.underlying xT = some (.pointer t)) (hx : env.eval x = some (.pointer a0)) (hy : env.eval y = some (.pointer none)) : Val X env L (.binOp .eql xT x y yT) T (.bool a0.isNone) :=
  v_eql_any hx hy (fun op => by cases op <;> cases a0 <;> rfl) (fun op => by cases op <;> rfl) fun w O _ => by
    rw [equal_succ hu, Op.equalIn]
    simp only [Sem.run_bind, run_underlying hu, Result.andThen_ok]
    cases a0 <;> rfl
theorem v_ne_ptr_nil {a0 : Option Addr} {t : TypeId} (hu : X.P.underlying xT = some (.pointer t)) (hx : env.eval x = some (.pointer a0)) (hy : env.eval y = some (.pointer none)) : Val X env L (.binOp .neq xT x y yT) T (.bool (!a0.isNone)) :=
  v_neq_any hx hy (fun op => by cases op <;> cases a0 <;> rfl) (fun op => by cases op <;> rfl) fun w O _ => by
    rw [equal_succ hu, Op.equalIn]
    simp only [Sem.run_bind, run_underlying hu, Result.andThen_ok]
    cases a0 <;> rfl
theorem v_ne_ptr_self {b off : Nat} {t : TypeId} {z : Value} {n nb : Nat} (hu : X.P.underlying xT = some (.pointer t)) (ht : TI X.P t z n nb) (hn : n ≠ 0) (hx : env.eval x = some (.pointer (some ⟨b, off, none⟩))) (hy : env.eval y = some (.pointer (some ⟨b, off, none⟩))) :
    Val X env L (.binOp .neq xT x y yT) T (.bool false) :=
  v_neq_any (r := true) hx hy (fun op => by cases op <;> rfl) (fun op => by cases op <;> rfl) fun w O _ => by
    obtain ⟨i, hi, _, hsz, _⟩ := ht
    have : i.size ≠ 0 := by omega
    rw [equal_succ hu, Op.equalIn]
    simp only [Sem.run_bind, run_underlying hu, Result.andThen_ok]
    simp [sizeOf, typeInfo, hi, this, sameAddr]
/-- A call of a function without a body, that tells a value. -/
theorem v_ext {g : FuncId} {xs : List Operand} {args : List Value} {ts : Array TypeId} (h : ∀ w, (callFunc g args.toArray).run X.P w = .ok (.value v) w) (hx : evalAll env xs = some args) : Val X env L (.call ⟨.value (.func g), xs.toArray, ts⟩) T v :=
  fun _ _ _ _ a w O ha _ => by
    have h1 := ha.all hx
    have h2 : Env.eval env (.func g) = some (.func (.func g) #[] #[]) := rfl
    simp only [execOp, resolve, ha.eval h2, Deferred.ofValue, pure_bind, invoke, List.map_toArray, h1]
    have hargs : #[] ++ args.toArray ++ #[] = args.toArray := by simp
    rw [hargs]; exact h w

theorem seen_self {P : Program} {w : World} {b off : Nat} {bt : TypeId} {cs : Array Value} {fz : Nat × Nat} (h : w.heap[b]? = some (.cells cs bt fz)) : (Conv.seenAt ⟨b, off, none⟩).run P w = .ok ⟨b, off, none⟩ w := by
  have hs : w.shape? b = some (bt, cs.size) := by simp [World.shape?, h]
  simp [Conv.seenAt, viewAt, shape, Sem.run, hs]
theorem v_toUnsafe {sT dT t : TypeId} {z : Value} {n nb b off : Nat} {bt : TypeId} {cs : List Value} (hs : X.P.underlying sT = some (.pointer t)) (hd : X.P.underlying dT = some .unsafePointer) (ht : TI X.P t z n nb) (hn : n ≠ 0)
    (hx : env.eval x = some (.pointer (some ⟨b, off, none⟩))) (hb : Has L (BlkR b bt cs)) (ho : off < cs.length) : Val X env L (.convert sT dT x) T (.pointer (some ⟨b, off, none⟩)) :=
  fun _ _ _ _ a w O ha hst => by
    obtain ⟨_, fz, hh⟩ := hb w O hst
    obtain ⟨i, hi, _, hsz, _⟩ := ht
    have h0 : i.size ≠ 0 := by omega
    have hsh : w.shape? b = some (bt, cs.length) := by simp [World.shape?, hh]
    have hse := seen_self (P := X.P) (off := off) hh
    have hno : ¬ (cs.length ≤ off) := by omega
    simp [execOp, ha.eval hx, convert, run_underlying hs, run_underlying hd, Conv.unsafePointer, hse, cellsIn, shape, Sem.run, hsh, sizeOf, typeInfo, hi, h0, hno]
theorem v_fromUnsafe {sT dT t : TypeId} {z : Value} {n nb b off : Nat} {bt : TypeId} {cs : List Value} (hs : X.P.underlying sT = some .unsafePointer) (hd : X.P.underlying dT = some (.pointer t)) (ht : TI X.P t z n nb) (hn : n ≠ 0)
    (hx : env.eval x = some (.pointer (some ⟨b, off, none⟩))) (hb : Has L (BlkR b bt cs)) (hl : liesAt X.P X.P.depth bt (cs.length / X.P.cellsOf bt) off t 1 = true) : Val X env L (.convert sT dT x) T (.pointer (some ⟨b, off, none⟩)) :=
  fun _ _ _ _ a w O ha hst => by
    obtain ⟨_, fz, hh⟩ := hb w O hst
    obtain ⟨i, hi, _, hsz, _⟩ := ht
    have h0 : i.size ≠ 0 := by omega
    have hsh : w.shape? b = some (bt, cs.length) := by simp [World.shape?, hh]
    have hse := seen_self (P := X.P) (off := off) hh
    simp [execOp, ha.eval hx, convert, run_underlying hs, run_underlying hd, Conv.unsafePointer, hse, shape, Sem.run, hsh, sizeOf, typeInfo, hi, h0, variablesAt, program, hl]

/-! ### a slice is stored -/
theorem s_store_any {t : TypeId} {b off : Nat} {bt : TypeId} {cs cs' : List Value} {u : Value} {z : Value} {nb : Nat} (ht : TI X.P t z 1 nb) (hx : env.eval x = some (.pointer (some ⟨b, off, none⟩))) (hy : env.eval y = some u) (h1 : Has L (Sl e u zs))
    (hp : Pick (Blk b bt cs) L L1) (hlt : off < cs.length) (hset : cs.set off u = cs') (k : Kont X env (Blk b bt cs' :: L1) K) : StepK X kk ⟨none, .store t x y, T, pos, af, none⟩ env L K := by
  intro a w O ha hst hrel
  obtain ⟨a0, cap, hu, _⟩ := h1 w O hst
  exact s_store ht hx hy (by rw [hu]; rfl) hp hlt hset k a w O ha hst hrel

/-! ### append of a string to bytes -/
theorem s_append_str {t t2 : TypeId} {s : ByteArray} {l : List UInt8} (hu : X.P.underlying t = some (.slice E)) (hu2 : X.P.underlying t2 = some .string) (hE : TI X.P E (.int .u8 0) 1 1)
    (hx : env.eval x = some v) (hy : env.eval y = some (.string s)) (hd : d < X.fn.ntmps) (hp : Pick (Own eByte E v l) L L1) (hb : l.length + s.size ≤ 140737488355328)
    (k : ∀ v', Kont X ((d, v') :: env) (Own eByte E v' (l ++ s.data.toList) :: L1) K) :
    StepK X kk ⟨some d, .call ⟨.builtin .append, #[x, y], #[t, t2]⟩, T, pos, af, none⟩ env L K := by
  refine s_main (γ := Value) (V := fun u => u) (pu := fun _ => True) (L' := fun v' => Own eByte E v' (l ++ s.data.toList) :: L1) ?_ hd (fun u _ => k u)
  intro a w O ha hst hdom
  obtain ⟨O1, O2, s1, hO, hs2⟩ := hp w O hst
  obtain ⟨ti, hi, hz0, hsz, hbt⟩ := hE
  obtain ⟨P1, P2, cs, t1, g1, g2, g3⟩ := id hO
  have hcs := eByte_rows.1 g3
  have hss : s.size = s.data.toList.length := Lib.size_eq s
  have hm : l.length + s.size ≤ maxLen := by simp only [maxLen]; omega
  have key : ∃ v' w', (Builtin.append_ #[t, t2] T #[v, .string s]).run X.P w = .ok v' w' ∧ w'.ownsRow 0 E 1 v' (l.length + s.size) (cs ++ Lib.strCells s) ∧ w.grownBy w' v.ownBlock ∧ ∀ b, v'.ownBlock = some b → b < w'.heap.size ∧ (v.ownBlock = some b ∨ w.heap.size ≤ b) := by
    have hblk : ∀ {w' : World} {v' : Value} {base n : Nat} {xs : List Value}, w'.ownsRow base E 1 v' n xs → ∀ b, v'.ownBlock = some b → b < w'.heap.size ∧ base ≤ b := by
      intro w' v' base n xs h b hb
      rcases h.2 with ⟨rfl, _⟩ | ⟨g, cap, cur, rfl, hbase, hg, _⟩
      · simp [Value.ownBlock] at hb
      · simp only [Value.ownBlock, Option.some.injEq] at hb
        subst hb
        refine ⟨?_, hbase⟩
        rcases Nat.lt_or_ge g w'.heap.size with h | h
        · exact h
        · rw [Array.getElem?_eq_none h] at hg; cases hg
    have weak : ∀ {w' : World} {v' : Value} {base n : Nat} {xs : List Value}, w'.ownsRow base E 1 v' n xs → w'.ownsRow 0 E 1 v' n xs := by
      intro w' v' base n xs h
      exact ⟨h.1, h.2.imp id fun ⟨g, cap, cur, e, _, r⟩ => ⟨g, cap, cur, e, Nat.zero_le _, r⟩⟩
    rcases g1.2 with ⟨rfl, h0⟩ | ⟨g, cap', cur, rfl, hbg, hg, hnc, hcm, hcs', htake⟩
    · have g1' : w.ownsRow w.heap.size E 1 (.slice none 0 0) l.length cs := ⟨g1.1, .inl ⟨rfl, h0⟩⟩
      obtain ⟨v', w', hrun, hown', hgr, _⟩ := Lib.run_append_own_string (P := X.P) (w := w) w.heap.size t t2 T E ti hu hu2 hi hz0 hsz hbt _ l.length cs g1' s hm hb (Nat.le_refl _)
      exact ⟨v', w', hrun, weak hown', hgr, fun b hb => ⟨(hblk hown' b hb).1, .inr (hblk hown' b hb).2⟩⟩
    · by_cases hroom : l.length + s.size ≤ cap'
      · have hsz1 : cur.size = cap' := by rw [hcs']; exact Nat.mul_one _
        have hr := Lib.run_append_room_string (P := X.P) (w := w) t t2 T E ti hu hu2 hi hsz g l.length cap' cur hg s hroom (by rw [hsz1]; exact hroom)
        have hcl : cs.length = l.length := by rw [hcs]; simp
        have hlen : (cs ++ Lib.strCells s).length = (l.length + s.size) * 1 := by rw [List.length_append, hcl, Lib.strCells_length, Nat.mul_one]
        have htake' : cur.toList.take l.length = cs := by have h := htake; rw [show eByte.n = 1 from rfl, Nat.mul_one] at h; exact h
        have hown' : (w.setRow g (cur.toList.take l.length ++ Lib.strCells s ++ cur.toList.drop (l.length + s.size)).toArray).ownsRow 0 E 1 (.slice (some ⟨g, 0, none⟩) (l.length + s.size) cap') (l.length + s.size) (cs ++ Lib.strCells s) := by
          refine ⟨hlen, .inr ⟨g, cap', _, rfl, Nat.zero_le _, setRow_heap w g cur _ E _ hg, hroom, hcm, ?_, ?_⟩⟩
          · simp only [List.size_toArray, List.length_append, List.length_take, List.length_drop, Array.length_toList, Lib.strCells_length]
            omega
          · rw [htake', ← hlen]
            exact List.take_left
        refine ⟨_, _, hr, hown', ⟨rfl, rfl, rfl, by simp, fun k _ hk => setRow_other w g k _ (fun e => hk (by simp [Value.ownBlock, e]))⟩, fun b hb => ⟨(hblk hown' b hb).1, .inl hb⟩⟩
      · have holds : ∀ j u, cs[j]? = some u → w.cell? ((⟨g, 0, none⟩ : Addr).add j) = some u := by
          intro j u hj
          have hjl := cell_in hj
          rw [g1.1] at hjl
          rw [add_off, blk_cell hg]
          rw [← htake, List.getElem?_take, if_pos hjl] at hj
          simpa using hj
        have hcl : cs.length = l.length * ti.size := by rw [g1.1, hsz]; rfl
        have hrun := Lib.run_append_grow_string (P := X.P) (w := w) t t2 T E ti (.int .u8 0) hu hu2 hi hz0 ⟨g, 0, none⟩ l.length cap' cs hcl holds s (by omega) (by have := hm; simp only [maxLen] at this; omega) (growslice_fits (by omega) (by rw [hbt]; omega))
        obtain ⟨v1, w1, hrun1, hown1, hgr1, _⟩ := Lib.run_append_own_string (P := X.P) (w := w) 0 t t2 T E ti hu hu2 hi hz0 hsz hbt _ l.length cs ⟨g1.1, .inr ⟨g, cap', cur, rfl, hbg, hg, hnc, hcm, hcs', htake⟩⟩ s hm hb (Nat.zero_le _)
        have e1 := hrun1.symm.trans hrun
        injection e1 with e1 e2
        refine ⟨v1, w1, hrun1, hown1, hgr1, fun b hb => ⟨(hblk hown1 b hb).1, .inr ?_⟩⟩
        rw [e1] at hb
        simp only [Value.ownBlock, Option.some.injEq] at hb
        omega
  obtain ⟨v', w', hrun, hown', hgr, hv'⟩ := key
  obtain ⟨P, hP, hrel⟩ := own_grow (e := eByte) (ys := s.data.toList) (a' := Pu True) (v' := v') (cs' := Lib.strCells s) (O3 := fun _ => 0) (O4 := O2) hdom s1 hO ⟨fun _ => Nat.zero_le _, fun _ => Nat.le_refl _, fun _ h => by omega, fun _ _ => rfl⟩ trivial hs2
    (eByte_rows.2 rfl) (fun Q1 Q2 c0 _ h1 h3 => by
      have : c0 = cs := by rw [eByte_rows.1 h3, hcs]
      rw [this, ← hss]; exact hown') hgr hv'
  have hruns : (Builtin.append_ #[t, t2] T #[a.eval x, a.eval y]).run X.P w = .ok v' w' := by rw [ha.eval hx, ha.eval hy]; exact hrun
  exact ⟨v', w', P, by simp [execOp, resolve, invoke, builtin, hruns], trivial, Ent.get hP (Ent.cons Ent.drop), hrel⟩

/-! ### a string that shares a row's bytes -/
theorem v_sliceData {ts : Array TypeId} {a0 : Addr} {n c : Nat} (hx : env.eval x = some (.slice (some a0) n c)) (hc : c ≠ 0) : Val X env L (.call ⟨.builtin .unsafeSliceData, #[x], ts⟩) T (.pointer (some a0)) :=
  fun _ _ _ _ a w O ha _ => by
    have := Lib.run_unsafeSliceData_row (P := X.P) (w := w) ts T a0 n c hc
    simp [execOp, resolve, invoke, builtin, ha.eval hx, this]
theorem v_sliceData_nil {ts : Array TypeId} {n c : Nat} (hx : env.eval x = some (.slice none n c)) : Val X env L (.call ⟨.builtin .unsafeSliceData, #[x], ts⟩) T (.pointer none) :=
  fun _ _ _ _ a w O ha _ => by
    have := Lib.run_unsafeSliceData_nil (P := X.P) (w := w) ts T n c
    simp [execOp, resolve, invoke, builtin, ha.eval hx, this]
theorem v_unsafeString_nil {pt it : TypeId} (hx : env.eval x = some (.pointer none)) (hy : env.eval y = some (.int .i64 0)) : Val X env L (.call ⟨.builtin .unsafeString, #[x, y], #[pt, it]⟩) T (.string ByteArray.empty) :=
  fun _ _ _ _ a w O ha _ => by
    have := Lib.run_unsafeString_none (P := X.P) (w := w) pt it T none
    simp [execOp, resolve, invoke, builtin, ha.eval hx, ha.eval hy, this]
theorem s_unsafeString {pt it : TypeId} {g c : Nat} {l : List UInt8} (hp : X.P.underlying pt = some (.pointer E)) (hc : X.P.cellsOf E = 1) (hx : env.eval x = some (.pointer (some ⟨g, 0, none⟩))) (hy : env.eval y = some (.int .i64 l.length)) (h0 : l ≠ [])
    (ho : Pick (Own eByte E (.slice (some ⟨g, 0, none⟩) l.length c) l) L L1) (hd : d < X.fn.ntmps) (k : Kont X ((d, .string ⟨l.toArray⟩) :: env) L1 K) :
    StepK X kk ⟨some d, .call ⟨.builtin .unsafeString, #[x, y], #[pt, it]⟩, T, pos, af, none⟩ env L K := by
  refine s_main (γ := Unit) (V := fun _ => .string ⟨l.toArray⟩) (pu := fun _ => True) (L' := fun _ => L1) ?_ hd (fun _ _ => k)
  intro a w O ha hst hdom
  obtain ⟨O1, O2, s1, ⟨P1, P2, cs, t1, g1, g2, g3⟩, hs2⟩ := ho w O hst
  have hcs := eByte_rows.1 g3
  have hP := g2 g rfl
  rcases g1.2 with ⟨h, _⟩ | ⟨g', cap', cur, h', _, hg, hle, hmx, hsz, htk⟩
  · cases h
  · cases h'
    have hsh : w.shape? g = some (E, cur.size) := by simp [World.shape?, hg]
    have hcurl : l.length ≤ cur.size := by rw [hsz]; show _ ≤ c * 1; omega
    have hrun := Lib.run_unsafeString_row (P := X.P) (w := w) pt it T E hp hc g cur.size hsh l h0 hcurl (by simp only [maxLen] at hmx; omega) (fun j b hj => by
      rw [add_off, blk_cell hg, Nat.zero_add]
      have hjl : j < l.length := by
        rcases Nat.lt_or_ge j l.length with h | h
        · exact h
        · rw [List.getElem?_eq_none h] at hj; cases hj
      have h1 : cs[j]? = some (.int .u8 b.toNat) := by rw [hcs]; simp [hj]
      rw [← htk, List.getElem?_take, if_pos (by show j < l.length * 1; omega)] at h1
      simpa using h1)
    have hO1 := t1.l g
    have hO := s1.l g
    refine ⟨(), w.freeze ⟨g, 0, none⟩ l.length, O, by simp [execOp, resolve, invoke, builtin, ha.eval hx, ha.eval hy, hrun], trivial, ?_, ?_⟩
    · refine (hs2.loc fun b hb => ?_).mono s1.r
      have hne : b ≠ g := by
        intro e; subst e
        have := s1.lr b (by omega); omega
      unfold World.freeze
      split
      · rfl
      · simp only [Array.getElem?_modify]
        rw [if_neg (fun e => hne e.symm)]
    · refine ⟨?_, ?_, ?_, ?_, fun b hb hlt => ?_, fun _ _ => Nat.le_refl _, fun b hb => ?_⟩
      · unfold World.freeze; split <;> rfl
      · unfold World.freeze; split <;> rfl
      · unfold World.freeze; split <;> rfl
      · unfold World.freeze; split
        · exact Nat.le_refl _
        · simp
      · have hne : b ≠ g := by intro e; subst e; omega
        unfold World.freeze
        split
        · rfl
        · simp only [Array.getElem?_modify]
          rw [if_neg (fun e => hne e.symm)]
      · have := hdom b hb
        unfold World.freeze; split
        · exact this
        · simpa using this
end
end Go.SL
/- Cuts in regions that draw their order; facts of what a contract takes. -/
namespace Go.SL
open Go

theorem Con.fact {P : Program} {f : FuncId} {args : List Value} {L : List A} {γ : Type} {ret : γ → Value} {pu : γ → Prop} {L' : γ → List A} {p : Prop}
    (hp : ∀ w O, Stars L w O → p) (h : p → Con P f args L ret pu L') : Con P f args L ret pu L' :=
  fun w O hs hd => h (hp w O hs) w O hs hd
theorem Con.form {P : Program} {f : FuncId} {args : List Value} {L : List A} {γ : Type} {ret : γ → Value} {pu : γ → Prop} {L' : γ → List A} {α : Type} {e : Enc α} {v : Value} {xs : List α}
    (hp : Has L (Sl e v xs)) (h : ∀ a0 cap, v = .slice a0 xs.length cap → xs.length ≤ cap → cap ≤ maxLen → Con P f args L ret pu L') : Con P f args L ret pu L' :=
  fun w O hs hd => by
    obtain ⟨a0, cap, h1, h2, h3⟩ := Sl.form (hp w O hs)
    exact h a0 cap h1 h2 h3 w O hs hd
theorem Sl.none_nil {α : Type} {e : Enc α} {n c : Nat} {xs : List α} {w : World} {O : Perm} (h : (Sl e (.slice none n c) xs).h w O) : xs = [] := by
  obtain ⟨a, cap, hv, h1, h2, h3⟩ := h
  cases hv
  rcases h3 with ⟨_, h⟩ | ⟨_, _, _, h, _⟩
  · exact h
  · cases h
theorem Sl.apdCut {α : Type} {e : Enc α} {E : TypeId} {zs : List α} {a0 : Option Addr} {k cap : Nat} {w : World} {O : Perm} (h : (Sl e (.slice a0 zs.length cap) zs).h w O) (h1 : k ≤ zs.length) (h2 : zs.length ≤ cap) :
    (Apd e E (Go.SL.cutV a0 0 k k e.n) (zs.take k)).h w O := by
  have h3 := Go.SL.Sl.cutV (lo := 0) (hi := k) (c := k) h (Nat.zero_le _) h1 (Nat.le_refl _) (by omega)
  rw [List.drop_zero] at h3
  refine .inr ⟨if k = 0 then a0 else a0.map (·.add (0 * e.n)), ?_, h3⟩
  simp only [Go.SL.cutV, List.length_take, Nat.sub_zero]
  rw [Nat.min_eq_left h1]
theorem Own.form {α : Type} {e : Enc α} {T : TypeId} {v : Value} {xs : List α} {w : World} {O : Perm} (h : (Own e T v xs).h w O) : (v = .slice none 0 0 ∧ xs = []) ∨ ∃ g cap, v = .slice (some ⟨g, 0, none⟩) xs.length cap ∧ xs.length ≤ cap := by
  obtain ⟨O1, O2, cs, s, h1, h2, h3⟩ := h
  rcases h1.2 with ⟨rfl, h0⟩ | ⟨g, cap, cur, rfl, _, hg, hle, _⟩
  · exact .inl ⟨rfl, List.eq_nil_of_length_eq_zero h0⟩
  · exact .inr ⟨g, cap, rfl, hle⟩
theorem Con.own {P : Program} {f : FuncId} {args : List Value} {L : List A} {γ : Type} {ret : γ → Value} {pu : γ → Prop} {L' : γ → List A} {α : Type} {e : Enc α} {T : TypeId} {v : Value} {xs : List α}
    (hp : Has L (Own e T v xs)) (h0 : v = .slice none 0 0 → xs = [] → Con P f args L ret pu L') (h1 : ∀ g cap, v = .slice (some ⟨g, 0, none⟩) xs.length cap → xs.length ≤ cap → Con P f args L ret pu L') : Con P f args L ret pu L' :=
  fun w O hs hd => by
    rcases Own.form (hp w O hs) with ⟨h, h'⟩ | ⟨g, cap, h, h'⟩
    · exact h0 h h' w O hs hd
    · exact h1 g cap h h' w O hs hd
theorem Pick.r_blk {b : Nat} {T : TypeId} {cs : List Value} {L : List A} : Pick (BlkR b T cs) (Blk b T cs :: L) L := Pick.of Pick.here fun _ _ h => Blk.r h
theorem cutV_zero (a0 : Option Addr) (h c n : Nat) : cutV a0 0 h c n = .slice a0 h c := by
  have h1 : a0.map (·.add (0 * n)) = a0 := by cases a0 <;> simp [Addr.add]
  simp only [Go.SL.cutV, h1, ite_self, Nat.sub_zero]
/-- A contract of a function that leaves the world as it is. -/
theorem con_pure {P : Program} {f : FuncId} {args : List Value} {v : Value} {L : List A} (h : ∀ w O, Stars L w O → Calls P f args.toArray w fun e w' => e = .returned v ∧ w' = w) :
    Con P f args L (γ := Unit) (fun _ => v) (fun _ => True) (fun _ => []) := fun w O hs hd => (h w O hs).mono fun e w' ⟨he, hw⟩ => by
  subst hw
  exact ⟨(), O, he, trivial, trivial, Rel.refl hd⟩
theorem Env.int {e : Env} {t : Nat} {K : IntKind} {a b : Int} (h : e.look t = some (.int K a)) (hab : a = b) : e.look t = some (.int K b) := by rw [h, hab]
theorem Env.as {e : Env} {t : Nat} {a b : Value} (h : e.look t = some a) (hab : a = b) : e.look t = some b := by rw [h, hab]
theorem wrap_add (a b : Int) : IntKind.i64.wrap (IntKind.i64.wrap a + b) = IntKind.i64.wrap (a + b) := by
  rw [IntKind.wrap_i64, IntKind.wrap_i64, IntKind.wrap_i64]; omega
theorem has_cell {b off : Nat} {T : TypeId} {cs : List Value} {L : List A} {u : Value} (h : Has L (BlkR b T cs)) (hc : cs[off]? = some u) {w : World} {O : Perm} (hs : Stars L w O) : w.cell? ⟨b, off, none⟩ = some u := by
  obtain ⟨_, fz, hh⟩ := h w O hs
  rw [blk_cell hh]; simpa using hc
/-- A contract of a function that hands out a new row of scalars. -/
theorem con_newrow {P : Program} {f : FuncId} {args : List Value} {L : List A} {α : Type} {e : Enc α} {E : TypeId} {xs : List α} {g : α → Value} (hn : e.n = 1) (hg : ∀ w O x, e.rd w O [g x] x) (hl : xs.length ≤ maxLen)
    (h : ∀ w O, Stars L w O → Calls P f args.toArray w fun r w' => r = .returned (.slice (some ⟨w.heap.size, 0, none⟩) xs.length xs.length) ∧ w' = w.alloc (.cells (xs.map g).toArray E)) :
    Con P f args L (γ := Value) (fun r => r) (fun _ => True) (fun r => [Own e E r xs]) := fun w O hs hd => (h w O hs).mono fun r w' ⟨he, hw⟩ => by
  subst hw
  have hrows : ∀ (ys : List α) (w : World) (O : Perm), Rows e w O (ys.map g) ys := by
    intro ys w O
    induction ys with
    | nil => exact rfl
    | cons y ys ih => exact ⟨[g y], ys.map g, rfl, hg w O y, ih⟩
  refine ⟨_, fresh w O, he, trivial, ⟨fresh w O, fun _ => 0, ⟨fun b => Nat.le_refl _, fun b => Nat.zero_le _, fun _ _ => rfl, fun b h => absurd h (by simp)⟩, ?_, trivial⟩, rel_alloc _ hd⟩
  refine ⟨fresh w O, fun _ => 0, xs.map g, ⟨fun b => Nat.le_refl _, fun b => Nat.zero_le _, fun _ _ => rfl, fun b h => absurd h (by simp)⟩, ?_, fun k hk => ?_, hrows xs _ _⟩
  · rw [hn]
    exact World.ownsRow_lit w (xs.map g).toArray xs.length (Nat.zero_le _) hl (by simp)
  · simp only [Value.ownBlock, Option.some.injEq] at hk
    subst hk; simp [fresh]

section
variable {X : Cx} {ops : Array Oper} {rest : List Oper} {kk : List Item} {env : Env} {L L1 : List A} {d : Nat} {T : TypeId} {pos : String} {af : Array Edge} {x : Operand}
theorem c_join2 {γ : Type} {k : List Item} (J : γ → Prop) (E : γ → Env) (LL : γ → List A) {i j : Item} (hj : ∀ g, J g → Cfg X k (E g) (LL g)) (h : (∀ g, J g → Cfg X k (E g) (LL g)) → Cfg X (i :: j :: k) env L) : Cfg X (i :: j :: k) env L := h hj
theorem v_len_form {t : TypeId} {E : TypeId} {a0 : Option Addr} {n c : Nat} (hu : X.P.underlying t = some (.slice E)) (hx : env.eval x = some (.slice a0 n c)) : Val X env L (.call ⟨.builtin .len, #[x], #[t]⟩) T (.int .i64 n) :=
  fun _ _ _ _ a w O ha hl => by
    simp [execOp, resolve, invoke, builtin, Builtin.len_, ha.eval hx, run_underlying hu, goInt]
theorem q_ent (h1 : Ent L L1) (h2 : Ent L1 L) (h : Qops X ops rest kk env L1) : Qops X ops rest kk env L := by
  have e : QC X L = QC X L1 := funext fun w => propext ⟨fun ⟨O, hs, hr⟩ => ⟨O, h1 w O hs, hr⟩, fun ⟨O, hs, hr⟩ => ⟨O, h2 w O hs, hr⟩⟩
  unfold Qops
  rw [e]
  exact h
theorem q_slice {α : Type} {e : Enc α} {zs : List α} {E : TypeId} {t : TypeId} {z0 : Value} {bt cap : Nat} {a0 : Option Addr} {lo hi mx : Option Operand} {l h c : Nat} (hu : X.P.underlying t = some (.slice E)) (hE : TI X.P E z0 e.n bt)
    (hx : env.eval x = some (.slice a0 zs.length cap)) (hp : Pick (Sl e (.slice a0 zs.length cap) zs) L L1)
    (hlo : (lo = none ∧ l = 0) ∨ ∃ o K n, lo = some o ∧ env.eval o = some (.int K n) ∧ 0 ≤ n ∧ n.toNat = l)
    (hhi : (hi = none ∧ h = zs.length ∧ mx = none) ∨ ∃ o K n, hi = some o ∧ env.eval o = some (.int K n) ∧ 0 ≤ n ∧ n.toNat = h)
    (hmx : (mx = none ∧ c = cap) ∨ ∃ o K n, mx = some o ∧ env.eval o = some (.int K n) ∧ 0 ≤ n ∧ n.toNat = c)
    (h1 : l ≤ h) (h2 : h ≤ zs.length) (h3 : h ≤ c) (h4 : c ≤ cap) (hd : d < X.fn.ntmps)
    (hback : Ent (Sl e (.slice a0 zs.length cap) zs :: L1) L)
    (k : Qops X ops rest kk ((d, cutV a0 l h c e.n) :: env) (Sl e (cutV a0 l h c e.n) ((zs.take h).drop l) :: Sl e (.slice a0 zs.length cap) zs :: L1)) :
    Qops X ops (⟨some d, .slice t x lo hi mx, T, pos, af, none⟩ :: rest) kk env L :=
  q_val (v_slice hu hE hx hlo hhi hmx h1 h3 h4) hd
    (q_ent (Ent.share hp (Sl.isDup _ _ _) fun _ _ h => Sl.cutV h h1 h2 h3 h4) (fun w O hs => hback w O (Ent.drop w O hs)) k)
/-- An element that is a slice. -/
theorem s_load_sl {α : Type} {e : Enc α} {v : Value} {K : Act → World → Prop} {i : Nat} {z : List α} {t : TypeId} (ht : Lone X.P t) (hx : env.eval x = some (.pointer (some (elemAddr v i 1)))) (hd : d < X.fn.ntmps)
    (he : Elem L (eSl e) v i z) (k : ∀ u, Kont X ((d, u) :: env) (Sl e u z :: L) K) : StepK X kk ⟨some d, .load t x, T, pos, af, none⟩ env L K :=
  s_load_elem (e := eSl e) ht rfl hx hd he fun u a w O ha hs hr => k u a w O ha (Ent.head (fun w O h => by
    obtain ⟨u', h1, h2⟩ := h
    cases h1
    exact h2) w O hs) hr
theorem beside_sl {α : Type} {e : Enc α} (ps : List (Value × List α)) (h : Picks (ps.map fun p => Sl e p.1 p.2) L L) : Beside (RowsA (eSl e) (ps.map (·.1)) (ps.map (·.2))) L := by
  intro w O hs
  obtain ⟨O1, O2, s, h1, h2⟩ := h.split w O hs
  refine ⟨O1, O2, s, ?_, h2⟩
  clear h h2 s hs
  induction ps generalizing O1 with
  | nil => exact ⟨rfl, fun v hv => by cases hv⟩
  | cons p ps ih =>
    obtain ⟨P1, P2, s1, g1, g2⟩ := h1
    obtain ⟨k1, k2⟩ := ih P2 g2
    have g1' : SlP e w P1 p.1 p.2 := g1
    obtain ⟨a0, cap, hv, _⟩ := id g1'
    have hc : p.1.cells = #[p.1] := by rw [hv]; rfl
    refine ⟨⟨[p.1], _, by simp [hc], ⟨p.1, rfl, SlP.mono g1' s1.l⟩, k1.mono s1.r⟩, fun v hv => ?_⟩
    simp only [List.map_cons, List.mem_cons] at hv
    rcases hv with rfl | hv
    · rw [hc]; rfl
    · exact k2 v hv
theorem beside_sl1 {α : Type} {e : Enc α} (v : Value) (xs : List α) (h : Picks [Sl e v xs] L L) : Beside (RowsA (eSl e) [v] [xs]) L := beside_sl [(v, xs)] h
theorem beside_sl2 {α : Type} {e : Enc α} (v u : Value) (xs ys : List α) (h : Picks [Sl e v xs, Sl e u ys] L L) : Beside (RowsA (eSl e) [v, u] [xs, ys]) L := beside_sl [(v, xs), (u, ys)] h
theorem beside_sl3 {α : Type} {e : Enc α} (v u t : Value) (xs ys zs : List α) (h : Picks [Sl e v xs, Sl e u ys, Sl e t zs] L L) : Beside (RowsA (eSl e) [v, u, t] [xs, ys, zs]) L := beside_sl [(v, xs), (u, ys), (t, zs)] h
end
end Go.SL
/- Loops over functions: rounds, yield, iterators' contracts, the loop itself. -/
namespace Go.SL
open Go

/-- Block b is one's own, and is this object. -/
def ObjA (b : Nat) (o : Obj) : A where
  h := fun w O => 2 ≤ O b ∧ w.heap[b]? = some o
  mono := fun ⟨h1, h2⟩ hO => ⟨Nat.le_trans h1 (hO b), h2⟩
  loc := fun ⟨h1, h2⟩ hw => ⟨h1, (hw b (by omega)).trans h2⟩
theorem obj_put {w : World} {O : Perm} {b : Nat} {o o' : Obj} {L : List A} (h : Stars (ObjA b o :: L) w O) (hd : ∀ b, O b ≠ 0 → b < w.heap.size) : Stars (ObjA b o' :: L) (w.putObj b o') O ∧ Rel w O (w.putObj b o') O := by
  obtain ⟨O1, O2, s, ⟨h1, h2⟩, h3⟩ := h
  have hb : b < w.heap.size := hd b (by have := s.l b; omega)
  refine ⟨⟨O1, O2, s, ⟨h1, World.putObj_heap_same hb⟩, h3.loc fun c hc => ?_⟩, ⟨rfl, rfl, rfl, by simp, fun c hc h => ?_, fun _ _ => Nat.le_refl _, fun c hc => by simpa using hd c hc⟩⟩
  · have : c ≠ b := by intro e; subst e; have := s.lr c h1; omega
    rw [World.putObj_heap_other this]
  · have : c ≠ b := by intro e; subst e; have := s.l c; omega
    rw [World.putObj_heap_other this]
theorem obj_get {w : World} {O : Perm} {b : Nat} {o : Obj} {L : List A} (h : Stars (ObjA b o :: L) w O) : w.heap[b]? = some o := by
  obtain ⟨O1, O2, s, ⟨h1, h2⟩, h3⟩ := h; exact h2

theorem stars_split {L1 L2 : List A} {w : World} {O : Perm} (h : Stars (L1 ++ L2) w O) : ∃ O1 O2, Split O O1 O2 ∧ Stars L1 w O1 ∧ Stars L2 w O2 := by
  induction L1 generalizing O with
  | nil => exact ⟨fun _ => 0, O, ⟨fun _ => Nat.zero_le _, fun _ => Nat.le_refl _, fun _ h => absurd h (by simp), fun _ _ => rfl⟩, trivial, h⟩
  | cons a L ih =>
    obtain ⟨P1, P2, t, g1, g2⟩ := h
    obtain ⟨Q1, Q2, u, k1, k2⟩ := ih g2
    refine ⟨fun b => max (P1 b) (Q1 b), Q2, ⟨fun b => ?_, fun b => ?_, fun b => ?_, fun b => ?_⟩, ⟨P1, Q1, ⟨fun b => ?_, fun b => ?_, fun b => ?_, fun b => ?_⟩, g1, k1⟩, k2⟩ <;>
      (have := t.l b; have := t.r b; have := t.lr b; have := t.rl b; have := u.l b; have := u.r b; have := u.lr b; have := u.rl b; omega)
section
variable {X : Cx} {k : List Item} {env : Env} {L L1 : List A} {l : Nat} {r : Loop}
theorem c_beginRound (hp : Pick (ObjA l (.loop r)) L L1) (hr : r.state = .ready) (h : Cfg X k env (ObjA l (.loop { r with state := .busy }) :: L1)) (hrd : X.rd = some l := by rfl) : Cfg X (.beginRound :: k) env L := by
  intro a w O ha hs hrel
  have hs' : Stars (ObjA l (.loop r) :: L1) w O := hp w O hs
  obtain ⟨h1, h2⟩ := obj_put (o' := .loop { r with state := .busy }) hs' hrel.dom
  refine Ok.step (fun b cs hb => .one (stepR_beginRound (hb.trans hrd) (run_beginRound (obj_get hs') hr))) (h a _ O ha h1 (hrel.trans h2))
theorem c_roundEnd (fin : ∀ w O, Stars L w O → X.R (.bool true) w O) (hrd : X.rd = some l := by rfl) : Cfg X [] env L := by
  intro a w O ha hs hrel b hb hk hro cs
  refine ⟨.bool true, w, b.atR a [], O, fin w O hs, hrel, .refl _ _, ?_⟩
  unfold Fin; rw [hrd]
  exact ⟨b, a, hb, hro.trans hrd, hk, .inl ⟨rfl, rfl⟩⟩
theorem c_roundRet (fin : ∀ w O, Stars L w O → X.R (.bool false) w O) (hrd : X.rd = some l := by rfl) : Cfg X (.code .ret :: k) env L := by
  intro a w O ha hs hrel b hb hk hro cs
  refine ⟨.bool false, w, b.atR a (.code .ret :: k), O, fin w O hs, hrel, .refl _ _, ?_⟩
  unfold Fin; rw [hrd]
  exact ⟨b, a, hb, hro.trans hrd, hk, .inr (.inl ⟨k, rfl, rfl⟩)⟩
theorem c_roundExit {id : Nat} (hx : exitTo id k = none) (fin : ∀ w O, Stars L w O → X.R (.int .i64 (id : Nat)) w O) (hrd : X.rd = some l := by rfl) : Cfg X (.code (.exit id) :: k) env L := by
  intro a w O ha hs hrel b hb hk hro cs
  refine ⟨.int .i64 (id : Nat), w, b.atR a (.code (.exit id) :: k), O, fin w O hs, hrel, .refl _ _, ?_⟩
  unfold Fin; rw [hrd]
  exact ⟨b, a, hb, hro.trans hrd, hk, .inr (.inr ⟨id, k, rfl, hx, rfl⟩)⟩
end

/-- What yield(args) comes to: true, and L1; or false, and L0. -/
def Yield (P : Program) (l : Nat) (args : List Value) (L L1 L0 : List A) : Prop :=
  ∀ w O, Stars L w O → (∀ b, O b ≠ 0 → b < w.heap.size) → ∃ f tmps assign body, (Instr.yield l args.toArray).run P w = .ok (.round l f tmps assign body) w ∧
    Round P l f tmps assign body w fun v w' => ∃ O', Rel w O w' O' ∧ ((v = .bool true ∧ Stars L1 w' O') ∨ (v = .bool false ∧ Stars L0 w' O'))

section
variable {X : Cx} {ops : Array Oper} {rest : List Oper} {kk : List Item} {env : Env} {L Lr : List A}
/-- The call of a yield. -/
theorem o_yield {l : Nat} {f : Operand} {xs : List Operand} {args : List Value} {ts : Array TypeId} {Lp L1 L0 : List A} {d : Nat} {T : TypeId} {pos : String} {af : Array Edge}
    (y : Yield X.P l args Lp L1 L0) (hf : env.eval f = some (.func (.yield l) #[] #[])) (hx : evalAll env xs = some args) (hd : d < X.fn.ntmps) (hp : Ent L (Lp ++ Lr))
    (kt : Ops X ops rest kk ((d, .bool true) :: env) (L1 ++ Lr)) (kf : Ops X ops rest kk ((d, .bool false) :: env) (L0 ++ Lr)) :
    Ops X ops (⟨some d, .call ⟨.value f, xs.toArray, ts⟩, T, pos, af, none⟩ :: rest) kk env L := by
  intro a w O ha hs hr
  simp only [wpl, Region.wanted, if_true]
  obtain ⟨O1, O2, s, h1, h2⟩ := stars_split (hp w O hs)
  obtain ⟨g, tmps, assign, body, hy, hround⟩ := y w O1 h1 (fun b hb => hr.dom b (by have := s.l b; omega))
  refine .inr ⟨l, g, tmps, assign, body, w, ?_, hround.mono ?_⟩
  · have h3 := ha.all hx
    have hargs : #[] ++ (xs.map a.eval).toArray ++ #[] = args.toArray := by rw [h3]; simp
    simp only [execOp, resolve, ha.eval hf, Deferred.ofValue, pure_bind, invoke, List.map_toArray]
    rw [h3]
    simpa using hy
  · rintro v w' ⟨O', hrel, hv⟩
    obtain ⟨s', h2', hrel'⟩ := frame hr.dom s h2 hrel
    rcases hv with ⟨rfl, hL⟩ | ⟨rfl, hL⟩
    · exact kt _ w' _ (ha.put hd _) (Stars.app s' hL h2') (hr.trans hrel')
    · exact kf _ w' _ (ha.put hd _) (Stars.app s' hL h2') (hr.trans hrel')
end

/-! ### rounds as yields -/
def jumpOf : Value → Option Code
  | .bool false => some .ret
  | .int .i64 n => some (.exit n.toNat)
  | _ => none
/-- What a round must end in. -/
def RoundR (l : Nat) (r : Loop) (I1 : List A) (Z : Code → List A) : Value → World → Perm → Prop := fun v w O =>
  (v = .bool true ∧ Stars (ObjA l (.loop { r with state := .busy }) :: I1) w O) ∨ (∃ j, jumpOf v = some j ∧ Stars (ObjA l (.loop { r with state := .busy }) :: Z j) w O)
/-- The record where a round has left by a jump. -/
def Left (l : Nat) (r : Loop) (Z : Code → List A) : List A := [ExA fun j : Code => AllA (ObjA l (.loop { r with state := .done, pending := some j }) :: Z j)]
def putAll : List Tmp → List Value → Env → Env
  | t :: ts, v :: vs, e => putAll ts vs ((t, v) :: e)
  | _, _, e => e
theorem holds_putAll {X : Cx} : ∀ (ts : List Tmp) (vs : List Value) (e : Env) (a : Act), (∀ t ∈ ts, t < X.fn.ntmps) → Holds X e a →
    Holds X (putAll ts vs e) { a with tmps := (ts.zip vs).foldl (fun (tm : Array Value) (p : Tmp × Value) => tm.setIfInBounds p.1 p.2) a.tmps }
  | [], _, _, _, _, h => h
  | _ :: _, [], _, _, _, h => h
  | t :: ts, v :: vs, e, a, ht, h => by
    have h1 := h.put (ht t (by simp)) v
    exact holds_putAll ts vs ((t, v) :: e) (a.put (some t) v) (fun t h => ht t (by simp [h])) h1

theorem yield_of_round {P : Program} {f : FuncId} {fn : Func} {l : Nat} {r : Loop} {env : Env} {args : List Value} {I I1 : List A} {Z : Code → List A} (hst : r.state = .ready) (hfn : r.fn = f) (hl : args.length = r.params.size)
    (hpar : ∀ t ∈ r.params.toList, t < fn.ntmps) (hsize : r.tmps.size = fn.ntmps) (hlook : ∀ t v, env.look t = some v → r.tmps[t]? = some v)
    (body : ∀ w0 O0, Cfg { P := P, f := f, fn := fn, R := RoundR l r I1 Z, w0 := w0, O0 := O0, rd := some l } [.code r.assign, .beginRound, .code r.body] (putAll r.params.toList args env) (ObjA l (.loop r) :: I)) :
    Yield P l args (ObjA l (.loop r) :: I) (ObjA l (.loop { r with state := .ready, pending := none }) :: I1) (Left l r Z) := by
  intro w O hs hd
  have hy := run_yield (P := P) (args := args.toArray) (obj_get hs) (by simpa using hl)
  refine ⟨r.fn, _, r.assign, r.body, hy, fun c cs => ?_⟩
  have hfold : (r.params.zip args.toArray).foldl (fun (tmps : Array Value) (x : Tmp × Value) => tmps.setIfInBounds x.1 x.2) r.tmps = (r.params.toList.zip args).foldl (fun (tm : Array Value) (p : Tmp × Value) => tm.setIfInBounds p.1 p.2) r.tmps := by
    rw [← Array.foldl_toList, Array.toList_zip]
  have ha : Holds { P := P, f := f, fn := fn, R := RoundR l r I1 Z, w0 := w, O0 := O, rd := some l } (putAll r.params.toList args env) { tmps := (r.params.toList.zip args).foldl (fun (tm : Array Value) (p : Tmp × Value) => tm.setIfInBounds p.1 p.2) r.tmps, defers := [] } :=
    holds_putAll r.params.toList args env { tmps := r.tmps, defers := [] } hpar ⟨hsize, rfl, hlook⟩
  obtain ⟨v, w', fr, O', hR, hrel, hsteps, hfin⟩ := body w O _ w O ha hs (Rel.refl hd) { (default : Frame) with fn := f, kind := .normal, roundOf := some l } rfl rfl rfl (c :: cs)
  have hround : Frame.round l r.fn ((r.params.zip args.toArray).foldl (fun (tmps : Array Value) (x : Tmp × Value) => tmps.setIfInBounds x.1 x.2) r.tmps) r.assign r.body .normal =
      ({ (default : Frame) with fn := f, kind := .normal, roundOf := some l } : Frame).atR { tmps := (r.params.toList.zip args).foldl (fun (tm : Array Value) (p : Tmp × Value) => tm.setIfInBounds p.1 p.2) r.tmps, defers := [] } [.code r.assign, .beginRound, .code r.body] := by
    rw [hfold, hfn]; rfl
  have hround' : Frame.round l r.fn (Array.foldl (fun tmps (x : Tmp × Value) => match x with | (t, a) => tmps.setIfInBounds t a) r.tmps (r.params.zip args.toArray)) r.assign r.body .normal = _ := hround
  rw [hround']
  unfold Fin at hfin
  obtain ⟨b2, a2, hb2, hr2, hk2, hcase⟩ := hfin
  have out : ∀ (v2 : Value) (w2 : World), (∃ O', Rel w O w2 O' ∧ ((v2 = .bool true ∧ Stars (ObjA l (.loop { r with state := .ready, pending := none }) :: I1) w2 O') ∨ (v2 = .bool false ∧ Stars (Left l r Z) w2 O'))) →
      step P (lone fr (c :: cs) w') = .next (lone (c.finish v2) cs w2) → ∃ v w', (∃ O', Rel w O w' O' ∧ ((v = .bool true ∧ Stars (ObjA l (.loop { r with state := .ready, pending := none }) :: I1) w' O') ∨ (v = .bool false ∧ Stars (Left l r Z) w' O'))) ∧
        Steps P (lone (({ (default : Frame) with fn := f, kind := .normal, roundOf := some l } : Frame).atR { tmps := (r.params.toList.zip args).foldl (fun (tm : Array Value) (p : Tmp × Value) => tm.setIfInBounds p.1 p.2) r.tmps, defers := [] } [.code r.assign, .beginRound, .code r.body]) (c :: cs) w) (lone (c.finish v) cs w') :=
    fun v2 w2 h1 h2 => ⟨v2, w2, h1, hsteps.trans (.one h2)⟩
  have leave : ∀ (j : Code), Stars (ObjA l (.loop { r with state := .busy }) :: Z j) w' O' → ∃ w2, (Instr.endRound l (some j)).run P w' = .ok (.bool false) w2 ∧ Stars (Left l r Z) w2 O' ∧ Rel w O w2 O' := by
    intro j hz
    have hrun := run_endRound (P := P) (some j) (obj_get hz)
    obtain ⟨g1, g2⟩ := obj_put (o' := .loop { { r with state := .busy } with state := .done, pending := some j }) hz hrel.dom
    exact ⟨_, hrun, Ent.get g1 (fun w O h => ⟨O, fun _ => 0, ⟨fun _ => Nat.le_refl _, fun _ => Nat.zero_le _, fun _ _ => rfl, fun b h => absurd h (by simp)⟩, ⟨j, h⟩, trivial⟩), hrel.trans g2⟩
  rcases hR with ⟨rfl, hI⟩ | ⟨j, hj, hz⟩
  · rcases hcase with ⟨_, rfl⟩ | ⟨k, h, _⟩ | ⟨id, k, h, _⟩
    · have hrun := run_endRound (P := P) none (obj_get hI)
      obtain ⟨g1, g2⟩ := obj_put (o' := .loop { { r with state := .busy } with state := .ready, pending := none }) hI hrel.dom
      exact out (.bool true) _ ⟨O', hrel.trans g2, .inl ⟨rfl, g1⟩⟩ (stepR_round_end hr2 hk2 hrun)
    · cases h
    · cases h
  · rcases hcase with ⟨h, _⟩ | ⟨k, rfl, rfl⟩ | ⟨id, k, rfl, hx, rfl⟩
    · subst h; cases hj
    · cases hj
      obtain ⟨w2, h1, h2, h3⟩ := leave _ hz
      exact out (.bool false) w2 ⟨O', h3, .inr ⟨rfl, h2⟩⟩ (stepR_round_ret hr2 hk2 h1)
    · simp only [jumpOf, Option.some.injEq, Int.toNat_natCast] at hj
      subst hj
      obtain ⟨w2, h1, h2, h3⟩ := leave _ hz
      exact out (.bool false) w2 ⟨O', h3, .inr ⟨rfl, h2⟩⟩ (stepR_round_exit hr2 hk2 hx h1)
end Go.SL
/- The loop over a function; the way out of a function that has begun one. -/
namespace Go.SL
open Go

theorem Ent.perm {L L' : List A} (h : L.Perm L') : Ent L L' := by
  induction h with
  | nil => exact Ent.refl _
  | cons a _ ih => exact Ent.cons ih
  | swap a b l => exact fun w O hs => (Pick.there Pick.here : Pick a (b :: a :: l) (b :: l)) w O hs
  | trans _ _ h1 h2 => exact fun w O hs => h2 w O (h1 w O hs)
theorem stars_join {L1 L2 : List A} {w : World} {O : Perm} (h : Stars (AllA L1 :: L2) w O) : Stars (L1 ++ L2) w O := by
  obtain ⟨O1, O2, s, h1, h2⟩ := h
  exact Stars.app s h1 h2

/-- An iterator: it hands on what nx lets come behind what has come, until fin, or until yield says no. -/
def Iter {α : Type} (P : Program) (g : FuncId) (caps : List Value) (Lg : List A) (nx : List α → α → Prop) (fin : List α → Prop) (enc : α → List Value) : Prop :=
  ∀ (l : Nat) (I : List α → List A) (Z : List A), (∀ pre x, nx pre x → Yield P l (enc x) (I pre) (I (pre ++ [x])) Z) →
    Con P g (.func (.yield l) #[] #[] :: caps) (Lg ++ I []) (γ := Option (List α)) (fun _ => .tuple #[]) (fun o => ∀ pre, o = some pre → fin pre) (fun o => Lg ++ (match o with | some pre => I pre | none => Z))

/-- The same at one invariant of the loop's; R: what is handed on with each. -/
def IterAt {α : Type} (P : Program) (g : FuncId) (caps : List Value) (Lg : List A) (nx : List α → α → Prop) (fin : List α → Prop) (enc : α → List Value) (R : α → List A) (I : List α → List A) : Prop :=
  ∀ (l : Nat) (o : A) (Z : List A), (∀ pre x, nx pre x → Yield P l (enc x) (o :: (R x ++ I pre)) (o :: I (pre ++ [x])) Z) →
    Con P g (.func (.yield l) #[] #[] :: caps) (Lg ++ (o :: I [])) (γ := Option (List α)) (fun _ => .tuple #[]) (fun q => ∀ pre, q = some pre → fin pre) (fun q => Lg ++ (match q with | some pre => o :: I pre | none => Z))
theorem Iter.at {α : Type} {P : Program} {g : FuncId} {caps : List Value} {Lg : List A} {nx : List α → α → Prop} {fin : List α → Prop} {enc : α → List Value} (it : Iter P g caps Lg nx fin enc) (I : List α → List A) : IterAt P g caps Lg nx fin enc (fun _ => []) I :=
  fun l o Z hy => it l (fun pre => o :: I pre) Z hy

abbrev markOf (D : Nat) : Deferred := { target := .collected D, args := #[] }
section
variable {X : Cx} {k : List Item} {env : Env} {L Lr : List A}
theorem c_rangeFuncAt {α : Type} {g : FuncId} {caps : List Value} {Lg : List A} {nx : List α → α → Prop} {fin : List α → Prop} {enc : α → List Value} {R : α → List A} {f : Operand} {ps : List Tmp} {assign body : Code} (I : List α → List A) (Z : Code → List A) (Lr : List A)
    (it : IterAt X.P g caps Lg nx fin enc R I) (hc : Callable X.P g) (hf : env.eval f = some (.func (.func g) #[] caps.toArray)) (hp : Ent L ((Lg ++ I []) ++ Lr))
    (hpar0 : (ps.all fun t => Nat.blt t X.fn.ntmps) = true) (hlen : ∀ x, (enc x).length = ps.length)
    (bd : ∀ (l : Nat) (r : Loop) pre x w0 O0, r.state = .ready → nx pre x → Cfg { P := X.P, f := X.f, fn := X.fn, R := RoundR l r (I (pre ++ [x])) Z, w0 := w0, O0 := O0, rd := some l } [.code assign, .beginRound, .code body] (putAll ps (enc x) env) (ObjA l (.loop r) :: (R x ++ I pre)))
    (done : ∀ D pre, fin pre → Cfg { X with defs := markOf D :: X.defs } k env (ObjA D (.deferred (some [])) :: (Lg ++ I pre ++ Lr)))
    (left : ∀ D j, Cfg { X with defs := markOf D :: X.defs } (.code j :: k) env (ObjA D (.deferred (some [])) :: (Lg ++ Z j ++ Lr)))
    (hrd : X.rd = none := by rfl) : Cfg X (.code (.rangeFunc f ps.toArray assign body) :: k) env L := by
  intro a w O ha hs hrel b hb hk hro cs
  have hpar : ∀ t ∈ ps, t < X.fn.ntmps := fun t ht => by
    have := List.all_eq_true.1 hpar0 t ht
    simpa [Nat.blt_eq] using this
  have henter := run_enterLoop_outer (P := X.P) (w := w) b.fn a.tmps ps.toArray assign body
  rw [← hro.trans hrd] at henter
  generalize hr0 : (Loop.mk .ready none b.fn a.tmps ps.toArray assign body w.heap.size) = r0 at henter
  have hr0s : r0.state = .ready := by rw [← hr0]
  have hr0p : ({ r0 with state := .ready, pending := none } : Loop) = r0 := by rw [← hr0]
  let l := w.heap.size + 1
  let w1 := (w.alloc (.deferred (some []))).alloc (.loop r0)
  have hl1 : (w.alloc (.deferred (some []))).heap.size = w.heap.size + 1 := by show (w.heap.push _).size = _; simp
  -- the resources behind the two new blocks
  have hs0 : Stars ((Lg ++ I []) ++ Lr) w O := hp w O hs
  have ds1 := stars_alloc (a := ObjA w.heap.size (.deferred (some []))) (.deferred (some [])) hrel.dom hs0 ⟨by simp, heap_alloc w _⟩
  have rl1 := rel_alloc (.deferred (some [])) hrel.dom
  have ds2 := stars_alloc (a := ObjA (w.heap.size + 1) (.loop r0)) (.loop r0) rl1.dom ds1 ⟨by rw [hl1]; simp, by have := heap_alloc (w.alloc (.deferred (some []))) (.loop r0); rwa [hl1] at this⟩
  have rl2 := rl1.trans (rel_alloc (.loop r0) rl1.dom)
  have ds3 : Stars ((Lg ++ (ObjA l (.loop r0) :: I [])) ++ (ObjA w.heap.size (.deferred (some [])) :: Lr)) w1 _ := Ent.perm (by
    refine List.Perm.trans ?_ (List.Perm.append_right _ (List.perm_middle.symm))
    refine List.Perm.trans ?_ (List.Perm.cons _ List.perm_middle.symm)
    exact List.Perm.refl _) _ _ ds2
  obtain ⟨O1, O2, sp3, hg1, hg2⟩ := stars_split ds3
  -- the iterator
  have hy : ∀ pre x, nx pre x → Yield X.P l (enc x) (ObjA l (.loop r0) :: (R x ++ I pre)) (ObjA l (.loop r0) :: I (pre ++ [x])) (Left l r0 Z) := by
    intro pre x hx
    have := yield_of_round (P := X.P) (f := X.f) (fn := X.fn) (l := l) (r := r0) (env := env) (args := enc x) (I := R x ++ I pre) (I1 := I (pre ++ [x])) (Z := Z) hr0s (by rw [← hr0]; exact hb) (by rw [← hr0, hlen]; simp) (by rw [← hr0]; simpa using hpar) (by rw [← hr0]; exact ha.size) (by rw [← hr0]; exact ha.look)
      (fun w0 O0 => by
        have hb' := bd l r0 pre x w0 O0 hr0s hx
        have e1 : r0.assign = assign := by rw [← hr0]
        have e2 : r0.body = body := by rw [← hr0]
        have e3 : r0.params.toList = ps := by rw [← hr0]
        rw [e1, e2, e3]; exact hb')
    rwa [hr0p] at this
  have spec := it l (ObjA l (.loop r0)) (Left l r0 Z) hy
  obtain ⟨e, w2, fr, ⟨o, O', he, hpu, hst, hrel'⟩, hcomes, hfn, hleave⟩ := spec w1 O1 hg1 (fun b hb => rl2.dom b (by have := sp3.l b; omega)) (b.atR { a with defers := markOf w.heap.size :: a.defers } (.inRangeFunc l :: k) :: cs)
  subst he
  obtain ⟨s', h2', hrel2⟩ := frame rl2.dom sp3 hg2 hrel'
  -- the machine's steps
  have hres : (resolve a.eval (rangeCall f l) 0).run X.P w1 = .ok { target := .fn (.func g) caps.toArray, args := #[.func (.yield l) #[] #[]] } w1 := by
    have h2 : a.eval (.const (.func (.yield l) #[] #[])) = .func (.yield l) #[] #[] := rfl
    simp [rangeCall, resolve, ha.eval hf, Deferred.ofValue, h2]
  have hinv : (invoke (.fn (.func g) caps.toArray) #[.func (.yield l) #[] #[]]).run X.P w1 = .ok (.enter g (.func (.yield l) #[] #[] :: caps).toArray) w1 := by
    have := hc (.func (.yield l) #[] #[] :: caps).toArray w1
    simpa [invoke] using this
  have st1 : step X.P (lone (b.atR a (.code (.rangeFunc f ps.toArray assign body) :: k)) cs w) = .next (lone (Frame.enter X.P g (.func (.yield l) #[] #[] :: caps).toArray .normal) (b.atR { a with defers := markOf w.heap.size :: a.defers } (.inRangeFunc l :: k) :: cs) w1) :=
    stepR_rangeFunc (b := b) (mark := [markOf w.heap.size]) henter hres hinv
  have st2 : step X.P (lone fr (b.atR { a with defers := markOf w.heap.size :: a.defers } (.inRangeFunc l :: k) :: cs) w2) = .next (lone (b.atR { a with defers := markOf w.heap.size :: a.defers } (.endRangeFunc l :: k)) cs w2) := by
    rw [← finish_atR_inRangeFunc]; exact step_leave_returned hleave
  have fin2 : ∀ (r : Loop) (jump : Option Code) (LL : List A), r.state ≠ .busy → r.pending = jump → Stars (ObjA l (.loop r) :: LL) w2 (fun b => max (O' b) (O2 b)) →
      Cfg { X with defs := markOf w.heap.size :: X.defs } ((jump.map Item.code).toList ++ k) env LL → ∃ v w' fr O', X.R v w' O' ∧ Rel X.w0 X.O0 w' O' ∧ Steps X.P (lone (b.atR a (.code (.rangeFunc f ps.toArray assign body) :: k)) cs w) (lone fr cs w') ∧ Fin X fr w' v := by
    intro r jump LL hbusy hpend hsl hcfg
    subst hpend
    have hend := run_endLoop (P := X.P) (obj_get hsl) hbusy
    obtain ⟨g1, g2⟩ := obj_put (o' := .loop { r with state := .exhausted }) hsl hrel2.dom
    have st3 := stepR_endRangeFunc (b := b) (a := { a with defers := markOf w.heap.size :: a.defers }) (k := k) (cs := cs) hend
    have ha' : Holds { X with defs := markOf w.heap.size :: X.defs } env { a with defers := markOf w.heap.size :: a.defers } := ⟨ha.size, by rw [ha.defers], ha.look⟩
    obtain ⟨v, w', fr', O'', hR, hre, hsteps, hf'⟩ := hcfg _ _ _ ha' (Ent.drop _ _ g1) ((hrel.trans rl2).trans (hrel2.trans g2)) b hb hk hro cs
    refine ⟨v, w', fr', O'', hR, hre, ?_, hf'⟩
    exact (Steps.one st1).trans ((Steps.trans hcomes (.one st2)).trans ((Steps.one st3).trans hsteps))
  have hall := Stars.app s' hst h2'
  cases o with
  | some pre =>
    refine fin2 r0 none _ (by rw [hr0s]; simp) (by rw [← hr0]) (Ent.perm ?_ _ _ hall) (done _ pre (hpu pre rfl))
    simp only [List.append_assoc, List.cons_append]
    refine List.Perm.trans List.perm_middle (List.Perm.cons _ ?_)
    rw [← List.append_assoc, ← List.append_assoc]
    exact List.perm_middle
  | none =>
    have h3 : Stars ((ExA fun j : Code => AllA (ObjA l (.loop { r0 with state := .done, pending := some j }) :: Z j)) :: (Lg ++ (ObjA w.heap.size (.deferred (some [])) :: Lr))) w2 (fun b => max (O' b) (O2 b)) := Ent.perm (by
      unfold Left
      simp only [List.append_assoc, List.cons_append, List.nil_append]
      exact List.perm_middle) _ _ hall
    obtain ⟨Q1, Q2, sq, ⟨j, hj⟩, hq⟩ := h3
    have h4 : Stars (AllA (ObjA l (.loop { r0 with state := .done, pending := some j }) :: Z j) :: (Lg ++ (ObjA w.heap.size (.deferred (some [])) :: Lr))) w2 (fun b => max (O' b) (O2 b)) := ⟨Q1, Q2, sq, hj, hq⟩
    refine fin2 { r0 with state := .done, pending := some j } (some j) _ (by simp) rfl (Ent.perm ?_ _ _ (stars_join h4)) (left _ j)
    rw [List.cons_append]
    refine List.Perm.cons _ ?_
    refine List.Perm.trans ?_ (List.perm_middle (l₁ := Lg ++ Z j))
    rw [← List.append_assoc]
    refine List.Perm.append_right _ ?_
    exact List.perm_append_comm

theorem c_rangeFunc {α : Type} {g : FuncId} {caps : List Value} {Lg : List A} {nx : List α → α → Prop} {fin : List α → Prop} {enc : α → List Value} {f : Operand} {ps : List Tmp} {assign body : Code} (I : List α → List A) (Z : Code → List A) (Lr : List A)
    (it : Iter X.P g caps Lg nx fin enc) (hc : Callable X.P g) (hf : env.eval f = some (.func (.func g) #[] caps.toArray)) (hp : Ent L ((Lg ++ I []) ++ Lr))
    (hpar0 : (ps.all fun t => Nat.blt t X.fn.ntmps) = true) (hlen : ∀ x, (enc x).length = ps.length)
    (bd : ∀ (l : Nat) (r : Loop) pre x w0 O0, r.state = .ready → nx pre x → Cfg { P := X.P, f := X.f, fn := X.fn, R := RoundR l r (I (pre ++ [x])) Z, w0 := w0, O0 := O0, rd := some l } [.code assign, .beginRound, .code body] (putAll ps (enc x) env) (ObjA l (.loop r) :: I pre))
    (done : ∀ D pre, fin pre → Cfg { X with defs := markOf D :: X.defs } k env (ObjA D (.deferred (some [])) :: (Lg ++ I pre ++ Lr)))
    (left : ∀ D j, Cfg { X with defs := markOf D :: X.defs } (.code j :: k) env (ObjA D (.deferred (some [])) :: (Lg ++ Z j ++ Lr)))
    (hrd : X.rd = none := by rfl) : Cfg X (.code (.rangeFunc f ps.toArray assign body) :: k) env L :=
  c_rangeFuncAt I Z Lr (it.at I) hc hf hp hpar0 hlen bd done left hrd

/-! ### the way out of a function that has begun one such loop -/
theorem c_retm_any {D : Nat} (hr : ∀ a w O, Holds X env a → Stars L w O → ∃ v, (results X.fn a.tmps).run X.P w = .ok v w ∧ X.R v w O)
    (hf : X.P.funcs[X.f]? = some X.fn) (hrd : X.rd = none) (hdf : X.defs = [markOf D])
    (hk : ∀ (a : Act) (w : World) (b : Frame) (cs : List Frame), b.kind = .normal → b.roundOf = none → Steps X.P (lone (b.atR a k) cs w) (lone { b.atR a k with mode := .returning } cs w)) : Cfg X k env (ObjA D (.deferred (some [])) :: L) := by
  intro a w O ha hs hrel b hb hkd hro cs
  obtain ⟨g1, g2⟩ := obj_put (o' := .deferred none) hs hrel.dom
  obtain ⟨v, hv, hR⟩ := hr a _ O ha (Ent.drop _ _ g1)
  have h1 := step_collected (P := X.P) (fr := { b.atR a k with mode := .returning }) (cs := cs) (d := markOf D) (ds := []) (by simp) (by show a.defers = _; rw [ha.defers, hdf]) rfl (run_takeDeferred (obj_get hs))
  refine ⟨v, _, _, O, hR, hrel.trans g2, (hk a w b cs hkd (hro.trans hrd)).trans (.one h1), ?_⟩
  unfold Fin
  rw [hrd]
  exact ⟨hb, rfl, rfl, hkd, X.fn, by simpa [Frame.atR, hb] using hf, by simpa [Frame.atR] using hv⟩
theorem c_retm1 {D t : Nat} {v : Value} (hf : X.P.funcs[X.f]? = some X.fn) (h : X.fn.results = #[.tmp t]) (hv : env.look t = some v) (hp : Pick (ObjA D (.deferred (some []))) L Lr) (fin : ∀ w O, Stars Lr w O → X.R v w O)
    (hrd : X.rd = none := by rfl) (hdf : X.defs = [markOf D] := by rfl) : Cfg X (.code .ret :: k) env L :=
  c_ent hp.ent (c_retm_any (fun _ w O ha hs => ⟨_, results_one h (ha.look t v hv), fin w O hs⟩) hf hrd hdf fun _ _ _ _ _ hb => steps_ret hb)
theorem c_retm2 {D s t : Nat} {u v : Value} (hf : X.P.funcs[X.f]? = some X.fn) (h : X.fn.results = #[.tmp s, .tmp t]) (hu : env.look s = some u) (hv : env.look t = some v) (hp : Pick (ObjA D (.deferred (some []))) L Lr) (fin : ∀ w O, Stars Lr w O → X.R (.tuple #[u, v]) w O)
    (hrd : X.rd = none := by rfl) (hdf : X.defs = [markOf D] := by rfl) : Cfg X (.code .ret :: k) env L :=
  c_ent hp.ent (c_retm_any (fun _ w O ha hs => ⟨_, results_two h (ha.look s u hu) (ha.look t v hv), fin w O hs⟩) hf hrd hdf fun _ _ _ _ _ hb => steps_ret hb)
theorem c_retm0 {D : Nat} (hf : X.P.funcs[X.f]? = some X.fn) (h : X.fn.results = #[]) (hp : Pick (ObjA D (.deferred (some []))) L Lr) (fin : ∀ w O, Stars Lr w O → X.R (.tuple #[]) w O)
    (hrd : X.rd = none := by rfl) (hdf : X.defs = [markOf D] := by rfl) : Cfg X (.code .ret :: k) env L :=
  c_ent hp.ent (c_retm_any (fun _ w O _ hs => ⟨_, results_no h, fin w O hs⟩) hf hrd hdf fun _ _ _ _ _ hb => steps_ret hb)
end

/-! ### small helps -/
theorem Pick.ex {γ : Type} {f : γ → A} {L L1 : List A} (g : γ) (h : Pick (f g) L L1) : Pick (ExA f) L L1 := fun w O hs => by
  obtain ⟨O1, O2, s, h1, h2⟩ := h w O hs
  exact ⟨O1, O2, s, ⟨g, h1⟩, h2⟩
theorem Pick.all {As L L1 : List A} (h : Picks As L L1) : Pick (AllA As) L L1 := fun w O hs => h.split w O hs
theorem Ent.last {a : A} {L : List A} : Ent (a :: L) ((L ++ [a]) ++ []) := by rw [List.append_nil]; exact Ent.perm (List.perm_append_singleton a L).symm
theorem picks_self : ∀ L : List A, Picks L L []
  | [] => .nil
  | _ :: L => .cons Pick.here (picks_self L)
theorem Pick.pu {p : Prop} {L : List A} (h : p) : Pick (Pu p) L L := Pick.beside fun _ => h
theorem c_all {X : Cx} {k : List Item} {env : Env} {L As : List A} (h : Cfg X k env (As ++ L)) : Cfg X k env (AllA As :: L) := c_ent (fun _ _ hs => stars_join hs) h
theorem Has.mem {a : A} {L : List A} (h : a ∈ L) : Has L a := by
  induction L with
  | nil => cases h
  | cons b L ih =>
    rcases List.mem_cons.1 h with rfl | h
    · exact Has.here
    · exact Has.there (ih h)
theorem c_never {X : Cx} {k : List Item} {env : Env} {L : List A} (h : Has L (Pu False)) : Cfg X k env L := c_fact h (fun _ _ h => h) (fun h => h.elim)
/-- Rows that are handed on in their order. -/
def nxL {α : Type} (xs : List α) (pre : List α) (x : α) : Prop := pre ++ [x] <+: xs
def finL {α : Type} (xs : List α) (pre : List α) : Prop := pre = xs
end Go.SL
/- Maps: what a map's block holds; look-ups, updates, deletions. -/
namespace Go.SL
open Go

structure KeyEnc (κ : Type) [DecidableEq κ] where
  val : κ → Value
  desc : TypeDesc
  now : ∀ a b, Instr.sameNow desc (val a) (val b) = some (decide (a = b))
  chk : ∀ (P : Program) (w : World) (n : Nat) (e : Bool) (t : TypeId) (k : κ), P.underlying t = some desc → (Instr.checkKey e (n + 1) t (val k)).run P w = .ok () w
def kInt : KeyEnc Int where
  val := .int .i64
  desc := .int .i64
  now := fun a b => by simp [Instr.sameNow, BEq.beq]
  chk := fun P w n e t k h => by simp [Instr.checkKey, run_underlying h]
def kStr : KeyEnc ByteArray where
  val := .string
  desc := .string
  now := fun a b => by
    simp only [Instr.sameNow]
    congr 1
    rw [Bool.eq_iff_iff, Go.MapKept.bytes_beq, decide_eq_true_iff]
  chk := fun P w n e t k h => by simp [Instr.checkKey, run_underlying h]

section
variable {κ : Type} [DecidableEq κ] (ke : KeyEnc κ)
def Ents (es : List MapEntry) (m : List (κ × Value)) : Prop := es.map (fun e => (e.key, e.val)) = m.map (fun p => (ke.val p.1, p.2))
def look (m : List (κ × Value)) (k : κ) : Option Value := (m.find? fun p => decide (p.1 = k)).map (·.2)
theorem findNow_of {k : κ} : ∀ {es : List MapEntry} {m : List (κ × Value)} (i : Nat), Ents ke es m → ∃ r, Instr.findNow ke.desc (ke.val k) es i = some r ∧ r.map (·.2) = look m k ∧ (∀ j v, r = some (j, v) → ∃ n, j = i + n ∧ (m[n]?).map (·.1) = some k) ∧ (r = none → k ∉ m.map (·.1))
  | [], [], i, _ => ⟨none, rfl, rfl, (fun j v h => by cases h), (fun _ => by simp)⟩
  | e :: es, [], i, h => by simp [Ents] at h
  | [], p :: m, i, h => by simp [Ents] at h
  | e :: es, p :: m, i, h => by
    simp only [Ents, List.map_cons, List.cons.injEq, Prod.mk.injEq] at h
    obtain ⟨⟨h1, h2⟩, h3⟩ := h
    rw [Instr.findNow, h1, ke.now]
    by_cases hk : k = p.1
    · rw [decide_eq_true hk]
      refine ⟨_, rfl, ?_, (fun j v hj => ⟨0, ?_, ?_⟩), (fun h => by cases h)⟩
      · simp [look, hk, h2]
      · cases hj; rfl
      · simp [hk]
    · rw [decide_eq_false hk]
      obtain ⟨r, g1, g2, g3, g4⟩ := findNow_of (k := k) (es := es) (m := m) (i + 1) h3
      refine ⟨r, g1, ?_, (fun j v hj => ?_), (fun hr => ?_)⟩
      · rw [g2]; simp [look, Ne.symm hk, List.find?_cons, fun e => hk (Eq.symm e)]
      · obtain ⟨n, hn, hm⟩ := g3 j v hj
        exact ⟨n + 1, by omega, by simpa using hm⟩
      · have := g4 hr
        simp only [List.map_cons, List.mem_cons, not_or]
        exact ⟨hk, this⟩
/-- Block b is one's own, and is a map of these entries. -/
def MapA (b : Nat) (m : List (κ × Value)) : A where
  h := fun w O => 2 ≤ O b ∧ ∃ es clock, w.heap[b]? = some (.map es clock) ∧ Ents ke es.toList m ∧ (es.toList.map fun e : MapEntry => e.born).Nodup ∧ (∀ e ∈ es.toList, e.born < clock) ∧ (m.map fun p : κ × Value => p.1).Nodup
  mono := fun ⟨h1, h2⟩ hO => ⟨Nat.le_trans h1 (hO b), h2⟩
  loc := fun ⟨h1, es, c, h2, h3⟩ hw => ⟨h1, es, c, (hw b (by omega)).trans h2, h3⟩
variable {X : Cx} {env : Env} {L L1 : List A} {T : TypeId} {x y : Operand}
theorem v_lookup {t kt et : TypeId} {b : Nat} {m : List (κ × Value)} {k : κ} {z : Value} {n nb : Nat} (hu : X.P.underlying t = some (.map kt et)) (hk : X.P.underlying kt = some ke.desc) (hz : TI X.P et z n nb)
    (hx : env.eval x = some (.map (some b))) (hy : env.eval y = some (ke.val k)) (hm : Has L (MapA ke b m)) : Val X env L (.lookup t x y false) T ((look m k).getD z) := by
  intro _ _ _ _ a w O ha hs
  obtain ⟨_, es, clock, hh, he, _⟩ := hm w O hs
  obtain ⟨r, g1, g2, _⟩ := findNow_of ke (k := k) 0 he
  obtain ⟨ti, hi, hz0, _⟩ := hz
  have hzero : (zeroValue et).run X.P w = .ok z w := by simp [zeroValue, typeInfo, hi, hz0]
  have hget : (getObj b).run X.P w = .ok (.map es clock) w := by simp [getObj, Sem.run, hh]
  have hfind : (Instr.findKey kt (ke.val k) es.toList).run X.P w = .ok r w := by
    simp [Instr.findKey, run_underlying hk, g1]
  have hchk : (Instr.checkKey es.isEmpty 10000 kt (ke.val k)).run X.P w = .ok () w := ke.chk X.P w 9999 es.isEmpty kt k hk
  have hl : (Instr.lookup t (.map (some b)) (ke.val k) false).run X.P w = .ok ((look m k).getD z) w := by
    cases r with
    | none => simp [Instr.lookup, run_underlying hu, hget, hchk, hfind, ← g2, hzero]
    | some p => obtain ⟨i, v⟩ := p; simp [Instr.lookup, run_underlying hu, hget, hchk, hfind, ← g2]
  simp [execOp, ha.eval hx, ha.eval hy, hl]

omit ke in
def upd : List (κ × Value) → κ → Value → List (κ × Value)
  | [], k, v => [(k, v)]
  | p :: m, k, v => if p.1 = k then (k, v) :: m else p :: upd m k v
theorem look_nil (k : κ) : look ([] : List (κ × Value)) k = none := rfl
theorem look_cons (p : κ × Value) (m : List (κ × Value)) (k : κ) : look (p :: m) k = if p.1 = k then some p.2 else look m k := by
  simp only [look, List.find?_cons]
  by_cases h : p.1 = k <;> simp [h]
theorem look_upd (v : Value) (k k' : κ) : ∀ m : List (κ × Value), look (upd m k v) k' = if k' = k then some v else look m k'
  | [] => by
    rw [upd, look_cons, look_nil]
    by_cases h : k' = k
    · simp [h]
    · rw [if_neg (fun e => h e.symm), if_neg h]
  | p :: m => by
    rw [upd]
    by_cases hp : p.1 = k
    · rw [if_pos hp, look_cons, look_cons]
      by_cases h : k' = k
      · simp [h]
      · rw [if_neg (fun e => h e.symm), if_neg h, if_neg (fun e => h (e.symm.trans hp))]
    · rw [if_neg hp, look_cons, look_cons, look_upd v k k' m]
      by_cases h : k' = k
      · subst h; simp [hp]
      · simp [h]
theorem upd_keys (k : κ) (v : Value) : ∀ (m : List (κ × Value)), (upd m k v).map (fun p : κ × Value => p.1) = if k ∈ m.map (fun p : κ × Value => p.1) then m.map (fun p : κ × Value => p.1) else m.map (fun p : κ × Value => p.1) ++ [k]
  | [] => by simp [upd]
  | p :: m => by
    rw [upd]
    by_cases hp : p.1 = k
    · simp [hp]
    · rw [if_neg hp, List.map_cons, upd_keys k v m]
      by_cases hk : k ∈ m.map (fun p : κ × Value => p.1)
      · rw [if_pos hk, if_pos (by simp only [List.map_cons, List.mem_cons]; exact .inr hk)]; rfl
      · rw [if_neg hk, if_neg (by simp only [List.map_cons, List.mem_cons, not_or]; exact ⟨fun e => hp e.symm, hk⟩)]; rfl
theorem upd_nodup {k : κ} {v : Value} {m : List (κ × Value)} (h : (m.map fun p : κ × Value => p.1).Nodup) : ((upd m k v).map fun p : κ × Value => p.1).Nodup := by
  rw [upd_keys]
  split
  · exact h
  · rename_i hk
    exact List.nodup_append.2 ⟨h, by simp, fun a ha b hb e => hk (by rw [List.mem_singleton.1 hb] at e; rw [← e]; exact ha)⟩
theorem ents_found {k : κ} {v : Value} : ∀ {es : List MapEntry} {m : List (κ × Value)} (n : Nat), Ents ke es m → (m[n]?).map (fun p : κ × Value => p.1) = some k → (m.map fun p : κ × Value => p.1).Nodup →
    Ents ke (es.modify n fun e => { e with key := ke.val k, val := v }) (upd m k v)
  | [], [], n, _, hn, _ => by simp at hn
  | e :: es, [], n, h, _, _ => by simp [Ents] at h
  | [], p :: m, n, h, _, _ => by simp [Ents] at h
  | e :: es, p :: m, 0, h, hn, _ => by
    simp only [Ents, List.map_cons, List.cons.injEq] at h
    have : p.1 = k := by simpa using hn
    rw [upd, if_pos this]
    simp only [Ents, List.modify_zero_cons, List.map_cons, List.cons.injEq]
    exact ⟨trivial, h.2⟩
  | e :: es, p :: m, n + 1, h, hn, hd => by
    simp only [Ents, List.map_cons, List.cons.injEq] at h
    have hn' : (m[n]?).map (fun p : κ × Value => p.1) = some k := by simpa using hn
    have hd' := List.nodup_cons.1 (by simpa using hd : (p.1 :: m.map fun p : κ × Value => p.1).Nodup)
    have hp : p.1 ≠ k := fun e => hd'.1 (by
      rw [e]
      rw [Option.map_eq_some_iff] at hn'
      obtain ⟨q, hq, hqk⟩ := hn'
      exact List.mem_map.2 ⟨q, List.mem_of_getElem? hq, hqk⟩)
    rw [upd, if_neg hp, List.modify_succ_cons]
    have := ents_found n h.2 hn' hd'.2 (v := v)
    simp only [Ents, List.map_cons, List.cons.injEq]
    exact ⟨h.1, this⟩
theorem ents_new {k : κ} {v : Value} {c : Nat} : ∀ {es : List MapEntry} {m : List (κ × Value)}, Ents ke es m → k ∉ m.map (fun p : κ × Value => p.1) → Ents ke (es ++ [{ key := ke.val k, val := v, born := c }]) (upd m k v)
  | [], [], _, _ => rfl
  | e :: es, [], h, _ => by simp [Ents] at h
  | [], p :: m, h, _ => by simp [Ents] at h
  | e :: es, p :: m, h, hk => by
    simp only [Ents, List.map_cons, List.cons.injEq] at h
    simp only [List.map_cons, List.mem_cons, not_or] at hk
    rw [upd, if_neg (fun e => hk.1 e.symm)]
    have := ents_new (k := k) (v := v) (c := c) h.2 hk.2
    simp only [Ents, List.cons_append, List.map_cons, List.cons.injEq]
    exact ⟨h.1, this⟩
theorem modify_born {v : Value} {kv : Value} : ∀ (es : List MapEntry) (n : Nat), (es.modify n fun e => { e with key := kv, val := v }).map (fun e : MapEntry => e.born) = es.map fun e : MapEntry => e.born
  | [], n => by simp
  | e :: es, 0 => by simp
  | e :: es, n + 1 => by rw [List.modify_succ_cons, List.map_cons, List.map_cons, modify_born es n]

variable {K : Act → World → Prop} {kk : List Item} {pos : String} {af : Array Edge} {d : Nat}
theorem sameBits_self {ι : Type} (kx : ι → Value) (h : ∀ a, (∃ n j, kx a = .int j n) ∨ ∃ s, kx a = .string s) (a : ι) : Instr.sameBits 10000 (kx a) (kx a) = true := by
  rcases h a with ⟨n, j, e⟩ | ⟨s, e⟩
  · rw [e]; simp [Instr.sameBits]
  · rw [e]; simp only [Instr.sameBits]; exact (Go.MapKept.bytes_beq s s).2 rfl
theorem s_mapUpdate {t kt et : TypeId} {b : Nat} {m : List (κ × Value)} {k : κ} {u : Value} {z : Operand} (hu : X.P.underlying t = some (.map kt et)) (hk : X.P.underlying kt = some ke.desc) (hsc : ∀ a, (∃ n j, ke.val a = .int j n) ∨ ∃ s, ke.val a = .string s)
    (hx : env.eval x = some (.map (some b))) (hy : env.eval y = some (ke.val k)) (hz : env.eval z = some u) (hp : Pick (MapA ke b m) L L1) (kk' : Kont X env (MapA ke b (upd m k u) :: L1) K) :
    StepK X kk ⟨none, .mapUpdate t x y z, T, pos, af, none⟩ env L K := by
  refine s_skip (γ := Unit) (pu := fun _ => True) (L' := fun _ => MapA ke b (upd m k u) :: L1) ?_ (fun _ _ => kk')
  intro a w O ha hst hdom
  obtain ⟨O1, O2, s, ⟨h1, es, clock, hh, he, hbn, hbc, hnd⟩, hs2⟩ := hp w O hst
  obtain ⟨r, g1, g2, g3, g4⟩ := findNow_of ke (k := k) 0 he
  have hget : (getObj b).run X.P w = .ok (.map es clock) w := by simp [getObj, Sem.run, hh]
  have hfind : (Instr.findKey kt (ke.val k) es.toList).run X.P w = .ok r w := by simp [Instr.findKey, run_underlying hk, g1]
  have hchk : (Instr.checkKey false 10000 kt (ke.val k)).run X.P w = .ok () w := ke.chk X.P w 9999 false kt k hk
  have hset : ∀ o, (setObj b o).run X.P w = .ok () (w.putObj b o) := fun o => by simp [setObj, Sem.run, hh, World.putObj]
  have fin : ∀ (es' : Array MapEntry) (c' : Nat), Ents ke es'.toList (upd m k u) → (es'.toList.map fun e : MapEntry => e.born).Nodup → (∀ e ∈ es'.toList, e.born < c') →
      Stars (MapA ke b (upd m k u) :: L1) (w.putObj b (.map es' c')) O ∧ Rel w O (w.putObj b (.map es' c')) O := by
    intro es' c' e1 e2 e3
    obtain ⟨q1, q2⟩ := obj_put (o := .map es clock) (o' := .map es' c') (L := L1) ⟨O1, O2, s, ⟨h1, hh⟩, hs2⟩ hdom
    refine ⟨?_, q2⟩
    obtain ⟨P1, P2, t', ⟨a1, a2⟩, a3⟩ := q1
    exact ⟨P1, P2, t', ⟨a1, es', c', a2, e1, e2, e3, upd_nodup hnd⟩, a3⟩
  cases r with
  | none =>
    have hnew := ents_new ke (v := u) (c := clock) he (g4 rfl)
    obtain ⟨q1, q2⟩ := fin (es.push { key := ke.val k, val := u, born := clock }) (clock + 1) (by simpa using hnew) (by
      simp only [Array.toList_push, List.map_append, List.map_cons, List.map_nil]
      exact List.nodup_append.2 ⟨hbn, by simp, fun x hx y hy e => by
        rw [List.mem_singleton.1 hy] at e
        obtain ⟨q, hq, hqb⟩ := List.mem_map.1 hx
        have := hbc q hq
        omega⟩) (fun e he' => by
      simp only [Array.toList_push, List.mem_append, List.mem_singleton] at he'
      rcases he' with he' | rfl
      · have := hbc e he'; omega
      · exact Nat.lt_succ_self _)
    refine ⟨(), _, O, ?_, trivial, q1, q2⟩
    have hrun : (Instr.mapUpdate t (.map (some b)) (ke.val k) u).run X.P w = .ok () (w.putObj b (.map (es.push { key := ke.val k, val := u, born := clock }) (clock + 1))) := by
      simp [Instr.mapUpdate, run_underlying hu, hget, hchk, hfind, hset]
    simp [execOp, ha.eval hx, ha.eval hy, ha.eval hz, hrun]
  | some p =>
    obtain ⟨i, v⟩ := p
    obtain ⟨n, hn, hm⟩ := g3 i v rfl
    rw [Nat.zero_add] at hn
    subst hn
    have hold : ((es[i]?).map (fun e : MapEntry => e.key)).getD (ke.val k) = ke.val k := by
      have := congrArg (fun l => l[i]?) he
      simp only [List.getElem?_map, Array.getElem?_toList] at this
      rw [Option.map_eq_some_iff] at hm
      obtain ⟨q, hq, hqk⟩ := hm
      rw [hq] at this
      cases he2 : es[i]? with
      | none => rfl
      | some e2 =>
        rw [he2] at this
        simp only [Option.map_some, Option.some.injEq, Prod.mk.injEq] at this
        simp [this.1, hqk]
    obtain ⟨q1, q2⟩ := fin (es.modify i fun e => { e with key := ke.val k, val := u }) clock (by rw [Array.toList_modify]; exact ents_found ke i he hm hnd) (by rw [Array.toList_modify, modify_born]; exact hbn) (fun e he' => by
      have : e.born ∈ (es.toList.modify i fun e => { e with key := ke.val k, val := u }).map fun e : MapEntry => e.born := List.mem_map.2 ⟨e, by rwa [Array.toList_modify] at he', rfl⟩
      rw [modify_born] at this
      obtain ⟨q, hq, hqb⟩ := List.mem_map.1 this
      have := hbc q hq
      omega)
    refine ⟨(), _, O, ?_, trivial, q1, q2⟩
    have hstay : (Instr.keyThatStays (ke.val k) (ke.val k)).run X.P w = .ok (ke.val k) w := by
      simp [Instr.keyThatStays, sameBits_self ke.val hsc k]
    have hrun : (Instr.mapUpdate t (.map (some b)) (ke.val k) u).run X.P w = .ok () (w.putObj b (.map (es.modify i fun e => { e with key := ke.val k, val := u }) clock)) := by
      simp [Instr.mapUpdate, run_underlying hu, hget, hchk, hfind, hset, hold, hstay]
    simp [execOp, ha.eval hx, ha.eval hy, ha.eval hz, hrun]

omit ke in
def del (m : List (κ × Value)) (k : κ) : List (κ × Value) := m.filter fun p => decide (p.1 ≠ k)
theorem look_del (k k' : κ) : ∀ m : List (κ × Value), look (del m k) k' = if k' = k then none else look m k'
  | [] => by simp [del, look_nil]
  | p :: m => by
    have ih := look_del k k' m
    unfold del at ih ⊢
    rw [List.filter_cons]
    by_cases hp : p.1 = k
    · rw [if_neg (by simp [hp]), ih, look_cons]
      by_cases h : k' = k
      · simp [h]
      · rw [if_neg h, if_neg h, if_neg (fun e => h (e.symm.trans hp))]
    · rw [if_pos (by simpa using hp), look_cons, ih, look_cons]
      by_cases h : k' = k
      · subst h; simp [hp]
      · simp [h]
theorem del_none {k : κ} {m : List (κ × Value)} (h : k ∉ m.map (fun p : κ × Value => p.1)) : del m k = m := by
  unfold del
  rw [List.filter_eq_self]
  intro p hp
  have : p.1 ≠ k := fun e => h (List.mem_map.2 ⟨p, hp, e⟩)
  simpa using this
theorem ents_del {k : κ} : ∀ {es : List MapEntry} {m : List (κ × Value)} (n : Nat), Ents ke es m → (m[n]?).map (fun p : κ × Value => p.1) = some k → (m.map fun p : κ × Value => p.1).Nodup → Ents ke (es.eraseIdx n) (del m k)
  | [], [], n, _, hn, _ => by simp at hn
  | e :: es, [], n, h, _, _ => by simp [Ents] at h
  | [], p :: m, n, h, _, _ => by simp [Ents] at h
  | e :: es, p :: m, 0, h, hn, hd => by
    simp only [Ents, List.map_cons, List.cons.injEq] at h
    have hp : p.1 = k := by simpa using hn
    have hd' := List.nodup_cons.1 (by simpa using hd : (p.1 :: m.map fun p : κ × Value => p.1).Nodup)
    have : del (p :: m) k = m := by
      have := del_none (k := k) (m := m) (by rw [← hp]; exact hd'.1)
      unfold del at this ⊢
      rw [List.filter_cons, if_neg (by simp [hp]), this]
    rw [this]
    exact h.2
  | e :: es, p :: m, n + 1, h, hn, hd => by
    simp only [Ents, List.map_cons, List.cons.injEq] at h
    have hn' : (m[n]?).map (fun p : κ × Value => p.1) = some k := by simpa using hn
    have hd' := List.nodup_cons.1 (by simpa using hd : (p.1 :: m.map fun p : κ × Value => p.1).Nodup)
    have hp : p.1 ≠ k := fun e => hd'.1 (by
      rw [e]
      rw [Option.map_eq_some_iff] at hn'
      obtain ⟨q, hq, hqk⟩ := hn'
      exact List.mem_map.2 ⟨q, List.mem_of_getElem? hq, hqk⟩)
    have : del (p :: m) k = p :: del m k := by unfold del; rw [List.filter_cons, if_pos (by simpa using hp)]
    rw [this, List.eraseIdx_cons_succ]
    have := ents_del n h.2 hn' hd'.2
    simp only [Ents, List.map_cons, List.cons.injEq]
    exact ⟨h.1, this⟩
theorem ents_size {es : List MapEntry} {m : List (κ × Value)} (h : Ents ke es m) : es.length = m.length := by
  have := congrArg List.length h
  simpa using this
theorem v_len_map {t kt et : TypeId} {b : Nat} {m : List (κ × Value)} (hu : X.P.underlying t = some (.map kt et)) (hx : env.eval x = some (.map (some b))) (hm : Has L (MapA ke b m)) : Val X env L (.call ⟨.builtin .len, #[x], #[t]⟩) T (.int .i64 m.length) := by
  intro _ _ _ _ a w O ha hs
  obtain ⟨_, es, clock, hh, he, _⟩ := hm w O hs
  have hget : (getObj b).run X.P w = .ok (.map es clock) w := by simp [getObj, Sem.run, hh]
  have : es.size = m.length := by rw [← ents_size ke he]; simp
  simp [execOp, resolve, invoke, builtin, Builtin.len_, ha.eval hx, run_underlying hu, hget, goInt, this]
theorem s_delete {t kt et : TypeId} {b : Nat} {m : List (κ × Value)} {k : κ} {ts : Array TypeId} (hts : ts[0]? = some t) (hu : X.P.underlying t = some (.map kt et)) (hk : X.P.underlying kt = some ke.desc)
    (hx : env.eval x = some (.map (some b))) (hy : env.eval y = some (ke.val k)) (hp : Pick (MapA ke b m) L L1) (kk' : Kont X env (MapA ke b (del m k) :: L1) K) :
    StepK X kk ⟨none, .call ⟨.builtin .delete, #[x, y], ts⟩, T, pos, af, none⟩ env L K := by
  refine s_main0 (γ := Unit) (V := fun _ => .tuple #[]) (pu := fun _ => True) (L' := fun _ => MapA ke b (del m k) :: L1) ?_ (fun _ _ => kk')
  intro a w O ha hst hdom
  obtain ⟨O1, O2, s, ⟨h1, es, clock, hh, he, hbn, hbc, hnd⟩, hs2⟩ := hp w O hst
  obtain ⟨r, g1, g2, g3, g4⟩ := findNow_of ke (k := k) 0 he
  have hget : (getObj b).run X.P w = .ok (.map es clock) w := by simp [getObj, Sem.run, hh]
  have hfind : (Instr.findKey kt (ke.val k) es.toList).run X.P w = .ok r w := by simp [Instr.findKey, run_underlying hk, g1]
  have hchk : (Instr.checkKey es.isEmpty 10000 kt (ke.val k)).run X.P w = .ok () w := ke.chk X.P w 9999 es.isEmpty kt k hk
  have hset : ∀ o, (setObj b o).run X.P w = .ok () (w.putObj b o) := fun o => by simp [setObj, Sem.run, hh, World.putObj]
  have hnd' : ((del m k).map fun p : κ × Value => p.1).Nodup := (List.filter_sublist.map _).nodup hnd
  have fin : ∀ (es' : Array MapEntry), Ents ke es'.toList (del m k) → (es'.toList.map fun e : MapEntry => e.born).Nodup → (∀ e ∈ es'.toList, e.born < clock) →
      Stars (MapA ke b (del m k) :: L1) (w.putObj b (.map es' clock)) O ∧ Rel w O (w.putObj b (.map es' clock)) O := by
    intro es' e1 e2 e3
    obtain ⟨q1, q2⟩ := obj_put (o := .map es clock) (o' := .map es' clock) (L := L1) ⟨O1, O2, s, ⟨h1, hh⟩, hs2⟩ hdom
    refine ⟨?_, q2⟩
    obtain ⟨P1, P2, t', ⟨a1, a2⟩, a3⟩ := q1
    exact ⟨P1, P2, t', ⟨a1, es', clock, a2, e1, e2, e3, hnd'⟩, a3⟩
  cases r with
  | none =>
    obtain ⟨q1, q2⟩ := fin es (by rw [del_none (g4 rfl)]; exact he) hbn hbc
    refine ⟨(), _, O, ?_, trivial, q1, q2⟩
    have hrun : (Builtin.delete_ ts T #[.map (some b), ke.val k]).run X.P w = .ok (.tuple #[]) (w.putObj b (.map es clock)) := by
      simp [Builtin.delete_, hts, run_underlying hu, hget, hchk, hfind, hset]
    simp [execOp, resolve, invoke, builtin, ha.eval hx, ha.eval hy, hrun]
  | some p =>
    obtain ⟨i, v⟩ := p
    obtain ⟨n, hn, hm⟩ := g3 i v rfl
    rw [Nat.zero_add] at hn
    subst hn
    have hsub : (es.eraseIdxIfInBounds i).toList = es.toList.eraseIdx i := by simp
    obtain ⟨q1, q2⟩ := fin (es.eraseIdxIfInBounds i) (by rw [hsub]; exact ents_del ke i he hm hnd) (by rw [hsub]; exact ((List.eraseIdx_sublist _ _).map _).nodup hbn) (fun e he' => by
      rw [hsub] at he'; exact hbc e ((List.eraseIdx_sublist _ _).subset he'))
    refine ⟨(), _, O, ?_, trivial, q1, q2⟩
    have hrun : (Builtin.delete_ ts T #[.map (some b), ke.val k]).run X.P w = .ok (.tuple #[]) (w.putObj b (.map (es.eraseIdxIfInBounds i) clock)) := by
      simp [Builtin.delete_, hts, run_underlying hu, hget, hchk, hfind, hset]
    simp [execOp, resolve, invoke, builtin, ha.eval hx, ha.eval hy, hrun]
theorem s_makeMap {t : TypeId} (hd : d < X.fn.ntmps) (kk' : ∀ b, Kont X ((d, .map (some b)) :: env) (MapA ke b [] :: L) K) : StepK X kk ⟨some d, .makeMap t none, T, pos, af, none⟩ env L K := by
  refine s_main (γ := Nat) (V := fun b => .map (some b)) (pu := fun _ => True) (L' := fun b => MapA ke b [] :: L) ?_ hd (fun b _ => kk' b)
  intro a w O ha hst hdom
  refine ⟨w.heap.size, w.alloc (.map #[] 0), fresh w O, ?_, trivial, stars_alloc _ hdom hst ⟨by simp, #[], 0, heap_alloc w _, rfl, by simp, by simp, by simp⟩, rel_alloc _ hdom⟩
  simp [execOp, Instr.makeMap]
end
end Go.SL
/- Loops over maps. -/
namespace Go.SL
open Go
section
variable {κ : Type} [DecidableEq κ] (ke : KeyEnc κ)
theorem KeyEnc.inj {a b : κ} (h : ke.val a = ke.val b) : a = b := by
  have h1 := ke.now a b
  rw [← h, ke.now a a] at h1
  simpa using h1.symm
theorem ents_mem {es : List MapEntry} {m : List (κ × Value)} (h : Ents ke es m) {e : MapEntry} (he : e ∈ es) : ∃ p ∈ m, e.key = ke.val p.1 ∧ e.val = p.2 := by
  have : (e.key, e.val) ∈ m.map (fun p => (ke.val p.1, p.2)) := by rw [← h]; exact List.mem_map.2 ⟨e, he, rfl⟩
  obtain ⟨p, hp, hpe⟩ := List.mem_map.1 this
  simp only [Prod.mk.injEq] at hpe
  exact ⟨p, hp, hpe.1.symm, hpe.2.symm⟩
theorem mem_ents {es : List MapEntry} {m : List (κ × Value)} (h : Ents ke es m) {p : κ × Value} (hp : p ∈ m) : ∃ e ∈ es, e.key = ke.val p.1 ∧ e.val = p.2 := by
  have : (ke.val p.1, p.2) ∈ es.map (fun e => (e.key, e.val)) := by rw [h]; exact List.mem_map.2 ⟨p, hp, rfl⟩
  obtain ⟨e, he, hpe⟩ := List.mem_map.1 this
  simp only [Prod.mk.injEq] at hpe
  exact ⟨e, he, hpe.1, hpe.2⟩
theorem ents_keys {es : List MapEntry} {m : List (κ × Value)} (h : Ents ke es m) (hn : (m.map fun p : κ × Value => p.1).Nodup) : (es.map fun e : MapEntry => e.key).Nodup := by
  have e1 : (es.map fun e : MapEntry => e.key) = (m.map fun p : κ × Value => p.1).map ke.val := by
    have := congrArg (List.map Prod.fst) h
    simpa [List.map_map, Function.comp_def] using this
  rw [e1]
  exact List.Pairwise.map _ (fun a b hab e => hab (ke.inj e)) hn
theorem nodup_inj {α β : Type} {f : α → β} : ∀ {l : List α}, (l.map f).Nodup → ∀ {a b : α}, a ∈ l → b ∈ l → f a = f b → a = b
  | x :: l, h, a, b, ha, hb, e => by
    rw [List.map_cons, List.nodup_cons] at h
    rcases List.mem_cons.1 ha with h1 | h1 <;> rcases List.mem_cons.1 hb with h2 | h2
    · rw [h1, h2]
    · exact absurd (List.mem_map.2 ⟨b, h2, by rw [← h1]; exact e.symm⟩) h.1
    · exact absurd (List.mem_map.2 ⟨a, h1, by rw [← h2]; exact e⟩) h.1
    · exact nodup_inj h.2 h1 h2 e

def Seen (es : List MapEntry) (seen : List Nat) (pre : List κ) : Prop := ∃ ps : List MapEntry, (ps.map fun e : MapEntry => e.key) = pre.map ke.val ∧ seen = (ps.map fun e : MapEntry => e.born) ∧ ∀ e ∈ ps, e ∈ es
/-- A map that is being gone through: the keys of pre have come. -/
def MapIt (it b : Nat) (m : List (κ × Value)) (pre : List κ) : A where
  h := fun w O => 2 ≤ O it ∧ 2 ≤ O b ∧ ∃ es clock seen, w.heap[b]? = some (.map es clock) ∧ w.heap[it]? = some (.mapIter (some b) clock seen clock) ∧ Ents ke es.toList m ∧ (es.toList.map fun e : MapEntry => e.born).Nodup ∧ (∀ e ∈ es.toList, e.born < clock) ∧
    (m.map fun p : κ × Value => p.1).Nodup ∧ Seen ke es.toList seen.toList pre
  mono := fun ⟨h1, h2, h3⟩ hO => ⟨Nat.le_trans h1 (hO _), Nat.le_trans h2 (hO _), h3⟩
  loc := fun {w w' O} ⟨h1, h2, es, c, seen, h3, h4, h5⟩ hw => ⟨h1, h2, es, c, seen, (hw b (by omega)).trans h3, (hw it (by omega)).trans h4, h5⟩
variable {X : Cx} {env : Env} {L L1 : List A} {T : TypeId} {x y : Operand} {K : Act → World → Prop} {kk : List Item} {pos : String} {af : Array Edge} {d : Nat}
theorem v_entry {it b : Nat} {m : List (κ × Value)} {pre : List κ} {k : κ} {v : Value} (hx : env.eval x = some (.pointer (some ⟨it, 0, none⟩))) (hkv : (k, v) ∈ m) (hm : Has L (MapIt ke it b m (pre ++ [k]))) : Val X env L (.entry x) T (.tuple #[ke.val k, v]) := by
  intro _ _ _ _ a w O ha hs
  obtain ⟨_, _, es, clock, seen, hb, hit, he, hbn, hbc, hnd, ps, hp1, hp2, hp3⟩ := hm w O hs
  obtain ⟨ps', e, rfl⟩ : ∃ ps' e, ps = ps' ++ [e] := by
    have : ps ≠ [] := by rintro rfl; simp at hp1
    exact ⟨ps.dropLast, ps.getLast this, (List.dropLast_concat_getLast this).symm⟩
  simp only [List.map_append, List.map_cons, List.map_nil] at hp1 hp2
  have hk := List.append_inj' hp1 rfl
  have hek : e.key = ke.val k := by simpa using hk.2
  have hmem : e ∈ es.toList := hp3 e (by simp)
  obtain ⟨p, hpm, hpk, hpv⟩ := ents_mem ke he hmem
  have : p = (k, v) := nodup_inj hnd hpm hkv (ke.inj (hpk.symm.trans hek))
  subst this
  have hseen : seen = (ps'.map fun e : MapEntry => e.born).toArray.push e.born := by
    apply Array.toList_inj.1
    rw [hp2]; simp
  rw [hseen] at hit
  have hrun := run_entry_at (P := X.P) w it b clock _ es clock e hit hb hmem (by simpa using hbn)
  rw [hek, hpv] at hrun
  simp [execOp, ha.eval hx, hrun]

/-- A step: an entry that has not come yet, whichever; or all have come. -/
theorem s_next {it b : Nat} {m : List (κ × Value)} {pre : List κ} (hx : env.eval x = some (.pointer (some ⟨it, 0, none⟩))) (hne : it ≠ b) (hd : d < X.fn.ntmps) (hp : Pick (MapIt ke it b m pre) L L1)
    (kt : ∀ k v, (k, v) ∈ m → k ∉ pre → Kont X ((d, .tuple #[.bool true, ke.val k, v]) :: env) (MapIt ke it b m (pre ++ [k]) :: L1) K)
    (kf : (∀ k ∈ m.map (fun p : κ × Value => p.1), k ∈ pre) → Kont X ((d, .tuple #[.bool false]) :: env) (MapIt ke it b m pre :: L1) K) :
    StepK X kk ⟨some d, .next x false, T, pos, af, none⟩ env L K := by
  refine s_main (γ := Option (κ × Value)) (V := fun o => match o with | some (k, v) => .tuple #[.bool true, ke.val k, v] | none => .tuple #[.bool false])
    (pu := fun o => match o with | some (k, v) => (k, v) ∈ m ∧ k ∉ pre | none => ∀ k ∈ m.map (fun p : κ × Value => p.1), k ∈ pre)
    (L' := fun o => match o with | some (k, _) => MapIt ke it b m (pre ++ [k]) :: L1 | none => MapIt ke it b m pre :: L1) ?_ hd (fun o ho => match o, ho with | some (k, v), ho => kt k v ho.1 ho.2 | none, ho => kf ho)
  intro a w O ha hst hdom
  obtain ⟨O1, O2, s, ⟨q1, q2, es, clock, seen, hb, hit, he, hbn, hbc, hnd, ps, hp1, hp2, hp3⟩, hs2⟩ := hp w O hst
  have hkeys := ents_keys ke he hnd
  rcases run_next_at (P := X.P) w T it b clock clock seen es clock hit hb hbc (Nat.le_refl _) with ⟨h0, hrun⟩ | ⟨e, hel, w1, hw1, hrun⟩
  · refine ⟨none, w, O, by simp [execOp, ha.eval hx, hrun], ?_, ⟨O1, O2, s, ⟨q1, q2, es, clock, seen, hb, hit, he, hbn, hbc, hnd, ps, hp1, hp2, hp3⟩, hs2⟩, Rel.refl hdom⟩
    intro k hk
    obtain ⟨p, hpm, rfl⟩ := List.mem_map.1 hk
    obtain ⟨e, hee, hek, _⟩ := mem_ents ke he hpm
    have hall : seen.contains e.born = true := by
      have : (leftOf es seen).toList = [] := List.eq_nil_of_length_eq_zero (by simpa using h0)
      by_cases hc : seen.contains e.born = true
      · exact hc
      · exfalso
        have : e ∈ (leftOf es seen).toList := by
          unfold leftOf
          rw [Array.toList_filter, List.mem_filter]
          exact ⟨hee, by simpa using hc⟩
        rw [‹(leftOf es seen).toList = []›] at this
        cases this
    have hmem : e.born ∈ seen.toList := by simpa using hall
    rw [hp2] at hmem
    obtain ⟨e', he', hbb⟩ := List.mem_map.1 hmem
    have : e' = e := nodup_inj hbn (hp3 e' he') hee hbb
    subst this
    have : ke.val p.1 ∈ pre.map ke.val := by rw [← hp1]; exact List.mem_map.2 ⟨e', he', hek⟩
    obtain ⟨k', hk', hkk⟩ := List.mem_map.1 this
    rw [← ke.inj hkk]; exact hk'
  · unfold leftOf at hel
    rw [Array.toList_filter, List.mem_filter] at hel
    obtain ⟨hee, hns⟩ := hel
    obtain ⟨p, hpm, hpk, hpv⟩ := ents_mem ke he hee
    have hsz : it < w.heap.size := hdom it (by have := s.l it; omega)
    have hw : ∀ c, (ChangeMaps.setBlock w1 it (.mapIter (some b) clock (seen.push e.born) clock)).heap[c]? = if c = it then some (.mapIter (some b) clock (seen.push e.born) clock) else w.heap[c]? := by
      intro c
      have hh : w1.heap = w.heap := by rcases hw1 with rfl | rfl <;> rfl
      simp only [ChangeMaps.setBlock, hh]
      by_cases hc : c = it
      · subst hc; simp [hsz]
      · rw [if_neg hc, Array.getElem?_setIfInBounds_ne (Ne.symm hc)]
    have hrest : w1.os = w.os ∧ w1.tape = w.tape ∧ w1.output = w.output ∧ w1.heap.size = w.heap.size := by rcases hw1 with rfl | rfl <;> exact ⟨rfl, rfl, rfl, rfl⟩
    refine ⟨some (p.1, p.2), ChangeMaps.setBlock w1 it (.mapIter (some b) clock (seen.push e.born) clock), O, ?_, ⟨hpm, ?_⟩, ⟨O1, O2, s, ⟨q1, q2, es, clock, seen.push e.born, ?_, ?_, he, hbn, hbc, hnd, ps ++ [e], ?_, ?_, ?_⟩, hs2.loc fun c hc => ?_⟩, ⟨hrest.1, hrest.2.1, hrest.2.2.1, ?_, fun c hc hlt => ?_, fun _ _ => Nat.le_refl _, fun c hc => ?_⟩⟩
    · simp [execOp, ha.eval hx, hrun, hpk, hpv]
    · intro hk
      have : ke.val p.1 ∈ ps.map fun e : MapEntry => e.key := by rw [hp1]; exact List.mem_map.2 ⟨p.1, hk, rfl⟩
      obtain ⟨e', he', hek⟩ := List.mem_map.1 this
      have : e' = e := nodup_inj hkeys (hp3 e' he') hee (hek.trans hpk.symm)
      subst this
      have : e'.born ∈ seen.toList := by rw [hp2]; exact List.mem_map.2 ⟨e', he', rfl⟩
      simp at hns
      exact hns (by simpa using this)
    · rw [hw, if_neg (Ne.symm hne)]; exact hb
    · rw [hw, if_pos rfl]
    · simp [hp1, hpk]
    · simp [hp2]
    · intro e' he'
      rcases List.mem_append.1 he' with h | h
      · exact hp3 e' h
      · rw [List.mem_singleton.1 h]; exact hee
    · have : c ≠ it := by intro e; subst e; have := s.lr c q1; omega
      rw [hw, if_neg this]
    · simp [ChangeMaps.setBlock, hrest.2.2.2]
    · have : c ≠ it := by intro e; subst e; have := s.l c; omega
      rw [hw, if_neg this]
    · simp [ChangeMaps.setBlock, hrest.2.2.2]; exact hdom c hc

theorem s_range_map {t kt et : TypeId} {b : Nat} {m : List (κ × Value)} (hu : X.P.underlying t = some (.map kt et)) (hx : env.eval x = some (.map (some b))) (hd : d < X.fn.ntmps) (hp : Pick (MapA ke b m) L L1)
    (k : ∀ it, it ≠ b → Kont X ((d, .pointer (some ⟨it, 0, none⟩)) :: env) (MapIt ke it b m [] :: L1) K) : StepK X kk ⟨some d, .range t x, T, pos, af, none⟩ env L K := by
  refine s_main (γ := Nat) (V := fun it => .pointer (some ⟨it, 0, none⟩)) (pu := fun it => it ≠ b) (L' := fun it => MapIt ke it b m [] :: L1) ?_ hd (fun it hit => k it hit)
  intro a w O ha hst hdom
  obtain ⟨O1, O2, s, ⟨h1, es, clock, hh, he, hbn, hbc, hnd⟩, hs2⟩ := hp w O hst
  have hb : b < w.heap.size := hdom b (by have := s.l b; omega)
  have hget : (getObj b).run X.P w = .ok (.map es clock) w := by simp [getObj, Sem.run, hh]
  have hold : ∀ c, c < w.heap.size → (w.alloc (.mapIter (some b) clock #[] clock)).heap[c]? = w.heap[c]? := fun c hc => by
    show (w.heap.push _)[c]? = _
    rw [Array.getElem?_push, if_neg (by omega)]
  have hn : O w.heap.size = 0 := by
    rcases Nat.eq_zero_or_pos (O w.heap.size) with h | h
    · exact h
    · have := hdom w.heap.size (by omega); omega
  refine ⟨w.heap.size, w.alloc (.mapIter (some b) clock #[] clock), fresh w O, ?_, by omega, ?_, rel_alloc _ hdom⟩
  · have hrun : (Instr.range t (.map (some b))).run X.P w = .ok (.pointer (some ⟨w.heap.size, 0, none⟩)) (w.alloc (.mapIter (some b) clock #[] clock)) := by
      simp [Instr.range, run_underlying hu, hget]
    simp [execOp, ha.eval hx, hrun]
  · refine ⟨fresh w O1, O2, ⟨fun c => ?_, fun c => ?_, fun c hc => ?_, fun c hc => ?_⟩, ⟨by simp [fresh], ?_, es, clock, #[], ?_, heap_alloc w _, he, hbn, hbc, hnd, [], rfl, rfl, fun e h => by cases h⟩, hs2.loc fun c hc => hold c (hdom c (by have := s.r c; omega))⟩
    · simp only [fresh]; split
      · exact Nat.le_refl _
      · exact s.l c
    · simp only [fresh]; split
      · rename_i h; have := s.r c; rw [h] at this ⊢; omega
      · exact s.r c
    · simp only [fresh] at hc
      split at hc
      · rename_i h; have := s.r c; rw [h] at this ⊢; omega
      · exact s.lr c hc
    · have h1' := s.rl c hc
      simp only [fresh]; split
      · rename_i h; have := s.r c; rw [h] at this hc; omega
      · exact h1'
    · simp only [fresh]; split
      · omega
      · exact h1
    · rw [hold b hb]; exact hh
theorem Pick.map_it {it b : Nat} {m : List (κ × Value)} {pre : List κ} {L : List A} : Pick (MapA ke b m) (MapIt ke it b m pre :: L) L :=
  Pick.of Pick.here fun _ _ ⟨_, h2, es, clock, _, h3, _, h4, h5, h6, h7, _⟩ => ⟨h2, es, clock, h3, h4, h5, h6, h7⟩
end
end Go.SL
/- Regions that draw their order, where what is read is written at the end, by one operation that waits for all that read it. -/
namespace Go.SL
open Go

section
variable {P : Program} {ops : Array Oper} {Q : Exit → Act → World → Prop} {md : Region.Mode} {S : World → Prop} {j0 : Nat}
/-- Whatever order is picked; S holds behind each operation, until j0 has been carried out. -/
def wpAnyK (P : Program) (md : Region.Mode) (ops : Array Oper) (Q : Exit → Act → World → Prop) (S : World → Prop) (j0 : Nat) : Nat → Array Bool → Act → World → Prop
  | 0, listed, a, w => Region.ready md ops listed = [] ∧ Q .normal a w
  | fuel + 1, listed, a, w => (Region.ready md ops listed = [] → Q .normal a w) ∧
    ∀ i ∈ Region.ready md ops listed, wpOp P ops Q i (fun a' w' => ((listed.setIfInBounds i true).getD j0 false = true ∨ S w') ∧ wpAnyK P md ops Q S j0 fuel (listed.setIfInBounds i true) a' w') a w
theorem wpAny_of_K : ∀ (fuel : Nat) (listed : Array Bool) (a : Act) (w : World), wpAnyK P md ops Q S j0 fuel listed a w → wpAny P md ops Q fuel listed a w
  | 0, _, _, _, h => h
  | fuel + 1, _, _, _, h => ⟨h.1, fun i hi => wpOp_mono (fun a' w' h' => wpAny_of_K fuel _ a' w' h'.2) (h.2 i hi)⟩
/-- j comes behind i, by one way or another. -/
def waitsB (md : Region.Mode) (ops : Array Oper) : Nat → Nat → Nat → Bool
  | 0, _, _ => false
  | n + 1, j, i => match ops[j]? with
    | none => false
    | some o => o.after.any fun e => Region.binds md e && (Nat.beq e.on i || waitsB md ops n e.on i)
def Closed (md : Region.Mode) (ops : Array Oper) (listed : Array Bool) : Prop := ∀ k ok, ops[k]? = some ok → listed.getD k false = true → ∀ e ∈ ok.after, Region.binds md e = true → listed.getD e.on false = true
theorem waits_un {listed : Array Bool} (hc : Closed md ops listed) : ∀ {n j i : Nat}, waitsB md ops n j i = true → listed.getD i false = false → listed.getD j false = false
  | 0, _, _, h, _ => by simp [waitsB] at h
  | n + 1, j, i, h, hi => by
    unfold waitsB at h
    split at h
    · cases h
    · rename_i o ho
      obtain ⟨e, he, hb⟩ := Array.any_eq_true'.1 h
      simp only [Bool.and_eq_true, Bool.or_eq_true] at hb
      cases hj : listed.getD j false with
      | false => rfl
      | true =>
        have h1 := hc j o ho hj e he hb.1
        rcases hb.2 with h2 | h2
        · rw [Nat.eq_of_beq_eq_true h2, hi] at h1; cases h1
        · rw [waits_un hc h2 hi] at h1; cases h1
theorem closed_set {listed : Array Bool} (hc : Closed md ops listed) {i : Nat} (hi : i ∈ Region.ready md ops listed) : Closed md ops (listed.setIfInBounds i true) := by
  intro k ok hk hl e he hb
  obtain ⟨_, o, ho, hall⟩ := mem_ready.1 hi
  by_cases hki : i = k
  · subst hki
    rw [ho] at hk; cases hk
    exact getD_set_true (hall e he hb)
  · rw [getD_set_ne false hki] at hl
    exact getD_set_true (hc k ok hk hl e he hb)
theorem getD_ft {listed : Array Bool} {i : Nat} (h : listed.getD i true = false) : listed.getD i false = false := by
  rcases Nat.lt_or_ge i listed.size with h' | h'
  · simp [h'] at h ⊢; exact h
  · simp [Array.getElem?_eq_none h'] at h
/-- An operation that only reads, taken first; F: it reads what j0 writes, and j0 waits for it; or it reads nothing. -/
theorem wpAnyK_first {i : Nat} {oi : Oper} {v : Value} {T : World → Prop} (hi : ops[i]? = some oi) (hsel : ∀ (j : Nat) (o : Oper) cs b, ops[j]? = some o → o.op ≠ .select cs b)
    (hQ : ∀ c a w, Q (.panic c) (a.put oi.dst v) w → Q (.panic c) a w) (hij : i ≠ j0) (hT : (T = S ∧ ∃ n, waitsB md ops n j0 i = true) ∨ ∀ w, T w) :
    ∀ (fuel : Nat) (listed : Array Bool) (a : Act) (w : World), Closed md ops listed →
      (∀ j oj, ops[j]? = some oj → j ≠ i → listed.getD j true = false → (∀ e ∈ oj.after, Region.binds md e = true → e.on ≠ i) → oi.apart ops oj = true) →
      i ∈ Region.ready md ops listed → YieldsIf P ops T oi v a → (listed.getD j0 false = true ∨ S w) →
      wpAnyK P md ops Q S j0 fuel (listed.setIfInBounds i true) (a.put oi.dst v) w → wpAnyK P md ops Q S j0 (fuel + 1) listed a w := by
  have hTw : ∀ (listed : Array Bool) (w : World), Closed md ops listed → i ∈ Region.ready md ops listed → (listed.getD j0 false = true ∨ S w) → T w := fun listed w hc hr hS => by
    rcases hT with ⟨rfl, n, hw⟩ | h
    · rcases hS with h | h
      · rw [waits_un hc hw (getD_ft (mem_ready.1 hr).1)] at h; cases h
      · exact h
    · exact h w
  intro fuel
  induction fuel with
  | zero =>
    intro listed a w hc _ hr hy hS H
    refine ⟨fun h => (by rw [h] at hr; cases hr), fun j hj => ?_⟩
    by_cases hji : j = i
    · subst hji
      exact hy.wpOp hi (hTw listed w hc hr hS) ⟨hS.imp (fun h => getD_set_true h) fun h => h, H⟩
    · have := ready_mono hj hji
      rw [H.1] at this
      cases this
  | succ fuel ih =>
    intro listed a w hc hfree hr hy hS H
    refine ⟨fun h => (by rw [h] at hr; cases hr), fun j hj => ?_⟩
    by_cases hji : j = i
    · subst hji; exact hy.wpOp hi (hTw listed w hc hr hS) ⟨hS.imp (fun h => getD_set_true h) fun h => h, H⟩
    · have h1 := H.2 j (ready_mono hj hji)
      obtain ⟨hjun, oj, hoj, hall⟩ := mem_ready.1 hj
      have hnot : ∀ e ∈ oj.after, Region.binds md e = true → e.on ≠ i := fun e he hb heq => by
        have h1 := hall e he hb
        rw [heq, getD_ft (mem_ready.1 hr).1] at h1
        cases h1
      have h2 := wpOp_putIf hoj (hfree j oj hoj hji hjun hnot) (fun cs b => hsel i oi cs b hi) (fun cs b => hsel j oj cs b hoj) hQ hy h1
      have hfree' : ∀ k ok, ops[k]? = some ok → k ≠ i → (listed.setIfInBounds j true).getD k true = false →
          (∀ e ∈ ok.after, Region.binds md e = true → e.on ≠ i) → oi.apart ops ok = true := fun k ok hk hki hun hno => by
        refine hfree k ok hk hki ?_ hno
        by_cases hjk : j = k
        · subst hjk; exact hjun
        · rw [getD_set_ne true hjk] at hun; exact hun
      have hsw : ∀ w', (((listed.setIfInBounds i true).setIfInBounds j true).getD j0 false = true ∨ S w') → ((listed.setIfInBounds j true).getD j0 false = true ∨ S w') := fun w' h => by
        rcases h with h | h
        · rw [Array.setIfInBounds_comm _ _ (Ne.symm hji), getD_set_ne false hij] at h
          exact .inl h
        · exact .inr h
      refine wpOp_mono (fun a' w' h3 => ⟨hsw w' h3.2.1, ih (listed.setIfInBounds j true) a' w' (closed_set hc hj) hfree' (ready_mono hr (Ne.symm hji)) h3.1 (hsw w' h3.2.1) ?_⟩) h2
      rw [Array.setIfInBounds_comm _ _ hji]
      exact h3.2.2
end
theorem closed_none (md : Region.Mode) (ops : Array Oper) (n : Nat) : Closed md ops (Array.replicate n false) := fun k ok _ h => by
  simp [Array.getD_eq_getD_getElem?, Array.getElem?_replicate] at h
  split at h <;> simp at h

/-- A region that draws its order and writes, at j0 what was read before. -/
def AnyG (X : Cx) (ops : Array Oper) (S : List A) (j0 fuel : Nat) (listed : Array Bool) (k : List Item) (env : Env) (L : List A) : Prop :=
  Closed .any ops listed → Kont X env L fun a w => wpAnyK X.P .any ops (Qn X k) (fun w => ∃ O, Stars S w O) j0 fuel listed a w
section
variable {X : Cx} {ops : Array Oper} {kk : List Item} {env : Env} {L L1 S : List A} {j0 fuel : Nat} {listed : Array Bool}
theorem c_heldk {id : Nat} {l : List Oper} (j0 : Nat) (S : List A) (hm : X.P.follows .mixedOrders = true) (h : AnyG X l.toArray S j0 l.length (Array.replicate l.length false) kk env L) (hnd : noDefer l = true := by rfl) : Cfg X (.code (.region id l.toArray true) :: kk) env L := by
  intro a w O ha hs hr
  refine ok_any hm (by simpa using hnd) (wpAny_of_K (S := fun w => ∃ O, Stars S w O) (j0 := j0) _ _ _ _ ?_)
  simpa using h (closed_none _ _ _) a _ O ha (draw_stars hs) (draw_rel hr)
theorem k_take (i : Nat) {v : Value} {d : Nat} {op : Op} {T : TypeId} {pos : String} {af : Array Edge} (hi : ops[i]? = some ⟨some d, op, T, pos, af, none⟩) (hs : Region.noSelect ops = true)
    (hf : Region.free .any ops listed i = true) (hr : (Region.ready .any ops listed).contains i = true) (hij : Nat.beq i j0 = false) (hw : waitsB .any ops ops.size j0 i = true) (hv : Val X env S op T v) (hS : Ent L S) (hd : d < X.fn.ntmps)
    (k : AnyG X ops S j0 fuel (listed.setIfInBounds i true) kk ((d, v) :: env) L) : AnyG X ops S j0 (fuel + 1) listed kk env L := by
  intro hc a w O ha hst hrel
  exact wpAnyK_first (T := fun w => ∃ O, Stars S w O) hi (Region.noSelect_spec hs) (fun _ _ _ h => by cases h.1) (Nat.ne_of_beq_eq_false hij) (.inl ⟨rfl, _, hw⟩) fuel listed a w hc (Region.free_spec hi hf) (by simpa using hr)
    (.inl ⟨rfl, fun w ⟨O, hs'⟩ => hv _ _ _ _ a w O ha hs'⟩) (.inr ⟨O, hS w O hst⟩) (k (closed_set hc (by simpa using hr)) _ w O (ha.put hd v) hst hrel)
/-- The same of an operation that reads nothing. -/
theorem k_takeF (i : Nat) {v : Value} {d : Nat} {op : Op} {T : TypeId} {pos : String} {af : Array Edge} (hi : ops[i]? = some ⟨some d, op, T, pos, af, none⟩) (hs : Region.noSelect ops = true)
    (hf : Region.free .any ops listed i = true) (hr : (Region.ready .any ops listed).contains i = true) (hij : Nat.beq i j0 = false) (hv : Val X env [] op T v) (hS : listed.getD j0 false = true ∨ Ent L S) (hd : d < X.fn.ntmps)
    (k : AnyG X ops S j0 fuel (listed.setIfInBounds i true) kk ((d, v) :: env) L) : AnyG X ops S j0 (fuel + 1) listed kk env L := by
  intro hc a w O ha hst hrel
  exact wpAnyK_first (T := fun _ => True) hi (Region.noSelect_spec hs) (fun _ _ _ h => by cases h.1) (Nat.ne_of_beq_eq_false hij) (.inr fun _ => trivial) fuel listed a w hc (Region.free_spec hi hf) (by simpa using hr)
    (.inl ⟨rfl, fun w _ => hv _ _ _ _ a w (fun _ => 0) ha trivial⟩) (hS.imp id fun h => ⟨O, h w O hst⟩) (k (closed_set hc (by simpa using hr)) _ w O (ha.put hd v) hst hrel)
theorem k_one (i : Nat) {d : Option Nat} {op : Op} {T : TypeId} {pos : String} {af : Array Edge} (hi : ops[i]? = some ⟨d, op, T, pos, af, none⟩) (hr : Region.ready .any ops listed = [i])
    (h : Closed .any ops (listed.setIfInBounds i true) → StepK X kk ⟨d, op, T, pos, af, none⟩ env L fun a w => ((listed.setIfInBounds i true).getD j0 false = true ∨ ∃ O, Stars S w O) ∧ wpAnyK X.P .any ops (Qn X kk) (fun w => ∃ O, Stars S w O) j0 fuel (listed.setIfInBounds i true) a w) : AnyG X ops S j0 (fuel + 1) listed kk env L := by
  intro hc a w O ha hst hrel
  refine ⟨fun h0 => absurd (hr ▸ h0) (by simp), fun j hj => ?_⟩
  obtain rfl : j = i := by rw [hr] at hj; simpa using hj
  simp only [wpOp, hi, Region.wanted, if_true]
  exact .inl (h (closed_set hc (by rw [hr]; simp)) a w O ha hst hrel)
theorem k_on {j0 : Nat} (hc : Closed .any ops listed) (hS : Ent L S) (h : AnyG X ops S j0 fuel listed kk env L) : Kont X env L fun a w => (listed.getD j0 false = true ∨ ∃ O, Stars S w O) ∧ wpAnyK X.P .any ops (Qn X kk) (fun w => ∃ O, Stars S w O) j0 fuel listed a w :=
  fun a w O ha hst hrel => ⟨.inr ⟨O, hS w O hst⟩, h hc a w O ha hst hrel⟩
theorem k_last {j0 : Nat} (hc : Closed .any ops listed) (hS : listed.getD j0 false = true) (h : AnyG X ops S j0 fuel listed kk env L) : Kont X env L fun a w => (listed.getD j0 false = true ∨ ∃ O, Stars S w O) ∧ wpAnyK X.P .any ops (Qn X kk) (fun w => ∃ O, Stars S w O) j0 fuel listed a w :=
  fun a w O ha hst hrel => ⟨.inl hS, h hc a w O ha hst hrel⟩
theorem k_done (hr : Region.ready .any ops listed = []) (h : Cfg X kk env L) (fuel : Nat) : AnyG X ops S j0 fuel listed kk env L := by
  intro _ a w O ha hst hrel
  cases fuel with
  | zero => exact ⟨hr, rfl, h a w O ha hst hrel⟩
  | succ n => exact ⟨fun _ => ⟨rfl, h a w O ha hst hrel⟩, by rw [hr]; simp⟩
end
end Go.SL
/- Structs that are built; stores into rows and blocks; calls that keep all; maps that may be nil; results in cells. -/
namespace Go.SL
open Go

/-! ### values of one cell -/
def OneC (L : List A) (v : Value) : Prop := ∀ w O, Stars L w O → v.oneCell' = true
theorem OneC.lit {L : List A} {v : Value} (h : v.oneCell' = true) : OneC L v := fun _ _ _ => h
theorem OneC.sl {L : List A} {α : Type} {e : Enc α} {v : Value} {zs : List α} (h : Has L (Sl e v zs)) : OneC L v := fun w O hs => by obtain ⟨a, cap, rfl, _⟩ := h w O hs; rfl
def OneAll (L : List A) (vs : List Value) : Prop := ∀ w O, Stars L w O → ∀ v ∈ vs, v.oneCell' = true
theorem OneAll.nil {L : List A} : OneAll L [] := fun _ _ _ _ h => by cases h
theorem OneAll.cons {L : List A} {v : Value} {vs : List Value} (h : OneC L v) (t : OneAll L vs) : OneAll L (v :: vs) := fun w O hs u hu => by
  rcases List.mem_cons.1 hu with rfl | hu
  · exact h w O hs
  · exact t w O hs u hu
theorem cells_one {v : Value} (h : v.oneCell' = true) : v.cells = #[v] := by cases v <;> first | rfl | cases h
/-- What a value's cells are. -/
def CellsV (L : List A) (u : Value) (new : List Value) : Prop := ∀ w O, Stars L w O → u.cells.toList = new
theorem CellsV.lit {L : List A} {u : Value} {new : List Value} (h : u.cells.toList = new) : CellsV L u new := fun _ _ _ => h
theorem CellsV.one {L : List A} {u : Value} (h : OneC L u) : CellsV L u [u] := fun w O hs => by rw [cells_one (h w O hs)]
/-- Cells that are one by one. -/
theorem OneAll.rd {L : List A} {α : Type} {e : Enc α} {cs : List Value} {z : α} (h : Has L (Rd e cs z)) : OneAll L cs := fun w O hs => e.one (h w O hs)

/-! ### structs that are built -/
def fillC (place : Nat → Option (Nat × Nat)) (cells : List Value) : List (Nat × List Value) → Option (List Value)
  | [] => some cells
  | (i, c) :: rest => match place i with
    | none => none
    | some (off, size) => if Nat.beq c.length size && Nat.ble (off + c.length) cells.length then fillC place (cells.take off ++ c ++ cells.drop (off + c.length)) rest else none
theorem fill_of (place : Nat → Option (Nat × Nat)) : ∀ (vs : List (Nat × Value)) (cells : List Value) (out : List Value), fillC place cells (vs.map fun p => (p.1, p.2.cells.toList)) = some out → Instr.fill place cells.toArray vs = some out.toArray
  | [], cells, out, h => by simp [fillC] at h; simp [Instr.fill, h]
  | (i, v) :: rest, cells, out, h => by
    simp only [List.map_cons, fillC] at h
    rw [Instr.fill]
    cases hp : place i with
    | none => rw [hp] at h; cases h
    | some p =>
      obtain ⟨off, size⟩ := p
      rw [hp] at h
      simp only at h
      split at h
      · rename_i hc
        simp only [Bool.and_eq_true, Nat.ble_eq] at hc
        have h1 : v.cells.size = size := by rw [← Nat.eq_of_beq_eq_true hc.1]; simp
        have h2 : off + v.cells.size ≤ cells.length := by simpa using hc.2
        simp only
        rw [if_neg (by simp [h1]; omega)]
        have hf := fold_set off v.cells.toList 0 cells.toArray (by simp; omega)
        have hcon : (v.cells.zipIdx.foldl (fun cs (x : Value × Nat) => cs.setIfInBounds (off + x.2) x.1) cells.toArray) = (cells.take off ++ v.cells.toList ++ cells.drop (off + v.cells.toList.length)).toArray := by
          rw [← Array.foldl_toList]
          simpa using hf
        exact (congrArg (fun q => Instr.fill place q rest) hcon).trans (fill_of place rest _ _ h)
      · cases h
def builtC (P : Program) (t : TypeId) (parts : List (Nat × List Value)) : Option (List Value) :=
  match P.info? t, P.underlying t with
  | some it, some (.array _ e) =>
    match it.zero, P.info? e with
    | some z, some ie => fillC (fun i => some (i * ie.size, ie.size)) z.cells.toList parts
    | _, _ => none
  | some it, some (.struct fields) =>
    match it.zero, fields.toList.mapM (fun f => (P.info? f.type).map fun i => (f.offset, i.size)) with
    | some z, some places => fillC (places.toArray[·]?) z.cells.toList parts
    | _, _ => none
  | _, _ => none
theorem built_of {P : Program} {t : TypeId} {vs : List (Nat × Value)} {out : List Value} (h : builtC P t (vs.map fun p => (p.1, p.2.cells.toList)) = some out) : P.built t vs = some out.toArray := by
  unfold builtC at h
  unfold Program.built
  split at h
  · rename_i it _ e h1 h2
    simp only [h1, h2]
    cases hz : it.zero with
    | none => simp [hz] at h
    | some z =>
      cases he : P.info? e with
      | none => simp [hz, he] at h
      | some ie =>
        simp only [hz, he] at h
        have := fill_of _ vs z.cells.toList out h
        simpa using this
  · rename_i it fields h1 h2
    simp only [h1, h2]
    cases hz : it.zero with
    | none => simp [hz] at h
    | some z =>
      cases he : fields.toList.mapM (fun f => (P.info? f.type).map fun i => (f.offset, i.size)) with
      | none => simp [hz, he] at h
      | some places =>
        simp only [hz, he] at h
        have := fill_of _ vs z.cells.toList out h
        simpa using this
  · cases h
def evalP (env : Env) : List (Nat × Operand) → Option (List (Nat × Value))
  | [] => some []
  | (i, x) :: ps => match env.eval x, evalP env ps with
    | some v, some vs => some ((i, v) :: vs)
    | _, _ => none
theorem evalP_map {X : Cx} {env : Env} {a : Act} (ha : Holds X env a) : ∀ {ps : List (Nat × Operand)} {vs : List (Nat × Value)}, evalP env ps = some vs → ps.map (fun (x : Nat × Operand) => (x.1, a.eval x.2)) = vs
  | [], vs, h => by simp [evalP] at h; simp [h]
  | (i, x) :: ps, vs, h => by
    unfold evalP at h
    split at h
    · rename_i v vs' h1 h2
      cases h
      simp [ha.eval h1, evalP_map ha h2]
    · cases h
def PartsC (L : List A) (vs : List (Nat × Value)) (css : List (Nat × List Value)) : Prop := ∀ w O, Stars L w O → vs.map (fun p => (p.1, p.2.cells.toList)) = css
theorem PartsC.nil {L : List A} : PartsC L [] [] := fun _ _ _ => rfl
theorem PartsC.one {L : List A} {i : Nat} {v : Value} {vs : List (Nat × Value)} {css : List (Nat × List Value)} (h : OneC L v) (t : PartsC L vs css) : PartsC L ((i, v) :: vs) ((i, [v]) :: css) := fun w O hs => by
  rw [List.map_cons, t w O hs, cells_one (h w O hs)]
theorem PartsC.lit {L : List A} {i : Nat} {v : Value} {c : List Value} {vs : List (Nat × Value)} {css : List (Nat × List Value)} (h : v.cells.toList = c) (t : PartsC L vs css) : PartsC L ((i, v) :: vs) ((i, c) :: css) := fun w O hs => by
  rw [List.map_cons, t w O hs, h]

section
variable {K : Act → World → Prop} {X : Cx} {ops : Array Oper} {rest : List Oper} {kk : List Item} {env : Env} {L L1 L2 : List A} {d : Nat} {T : TypeId} {pos : String} {af : Array Edge} {x y : Operand}
variable {α : Type} {e : Enc α} {v u : Value} {zs ys : List α} {E : TypeId}

theorem v_build {t : TypeId} {ps : List (Nat × Operand)} {vs : List (Nat × Value)} {css : List (Nat × List Value)} {cells : List Value} (hp : evalP env ps = some vs) (hc : PartsC L vs css) (hb : builtC X.P t css = some cells) : Val X env L (.build t ps.toArray) T (.agg cells.toArray) :=
  fun _ _ _ _ a w O ha hst => by
    have h1 := evalP_map ha hp
    have hrun := run_build (P := X.P) w t vs.toArray cells.toArray (built_of (by rw [hc w O hst]; exact hb))
    have h2 : (ps.toArray.map fun (x : Nat × Operand) => (x.1, a.eval x.2)) = vs.toArray := by simp [h1]
    have h3 : (Instr.build t (ps.toArray.map fun (x : Nat × Operand) => (x.1, a.eval x.2))).run X.P w = .ok (.agg cells.toArray) w := by rw [h2]; exact hrun
    simp only [execOp]
    have h4 : (Array.map (fun x => match x with | (i, x) => (i, a.eval x)) ps.toArray) = (ps.toArray.map fun (x : Nat × Operand) => (x.1, a.eval x.2)) := by
      congr 1
    rw [h4]
    simp [h1, hrun]
/-- A field that is a struct. -/
theorem v_field_agg {i : Nat} {cs : List Value} {xT : TypeId} {fs fs' : Array Field} {f : Field} {z : Value} {n nb : Nat} (hu : X.P.underlying xT = some (.struct fs)) (hf : fs[i]? = some f) (hv : X.P.underlying f.type = some (.struct fs')) (ht : TI X.P f.type z n nb)
    (hx : env.eval x = some (.agg cs.toArray)) (hl : f.offset + n ≤ cs.length) : Val X env L (.field xT x i) T (.agg ((cs.drop f.offset).take n).toArray) :=
  fun _ _ _ _ a w O ha _ => by
    obtain ⟨ti, hi, _, hsz, _⟩ := ht
    have hia : (isAgg f.type).run X.P w = .ok true w := by simp [isAgg, run_underlying hv]
    have hex : cs.toArray.extract f.offset (f.offset + n) = ((cs.drop f.offset).take n).toArray := by
      simp [List.extract_eq_take_drop]
    simp [execOp, ha.eval hx, Instr.field, run_underlying hu, hf, part, hia, asAgg, sizeOf, typeInfo, hi, hsz, hex]

/-! ### stores -/
theorem setRow_rel {w : World} {O : Perm} {g : Nat} {arr : Array Value} (hb : 2 ≤ O g) (hdom : ∀ b, O b ≠ 0 → b < w.heap.size) : Rel w O (w.setRow g arr) O := by
  refine ⟨rfl, rfl, rfl, by simp, fun c _ hlt => setRow_other w g c _ (by intro h; subst h; omega), fun _ _ => Nat.le_refl _, fun c hc => ?_⟩
  have := hdom c hc; simpa using this
/-- A struct (or any cells) is stored into a block of one's own. -/
theorem s_store_cells {t : TypeId} {b off n : Nat} {bt : TypeId} {cs cs' new : List Value} {z : Value} {nb : Nat} (ht : TI X.P t z n nb) (hx : env.eval x = some (.pointer (some ⟨b, off, none⟩))) (hy : env.eval y = some u) (hc : CellsV L u new) (h1 : OneAll L new) (hn : new.length = n)
    (hp : Pick (Blk b bt cs) L L1) (hlt : off + n ≤ cs.length) (hset : cs.take off ++ new ++ cs.drop (off + n) = cs') (k : Kont X env (Blk b bt cs' :: L1) K) : StepK X kk ⟨none, .store t x y, T, pos, af, none⟩ env L K := by
  refine s_skip (γ := Unit) (pu := fun _ => True) (L' := fun _ => Blk b bt cs' :: L1) ?_ (fun _ _ => k)
  intro a w O ha hst hdom
  obtain ⟨O1, O2, s, ⟨hb2, hh⟩, hs2⟩ := hp w O hst
  have hdom1 : ∀ b, O1 b ≠ 0 → b < w.heap.size := fun b hb => hdom b (by have := s.l b; omega)
  have hcl := hc w O hst
  have hrun := run_storeCells_at X.P b off bt new 0 cs.toArray w hh (by simp; omega) (h1 w O hst)
  have harr : (cs.toArray.toList.take (off + 0) ++ new ++ cs.toArray.toList.drop (off + 0 + new.length)).toArray = cs'.toArray := by simp only [Nat.add_zero, hn]; rw [← hset]
  rw [harr] at hrun
  obtain ⟨P, hP, hrel⟩ := step_at hdom s hs2 (setRow_rel (arr := cs'.toArray) hb2 hdom1) (L' := [Blk b bt cs']) ⟨O1, fun _ => 0, ⟨fun _ => Nat.le_refl _, fun _ => Nat.zero_le _, fun _ _ => rfl, fun _ h => by omega⟩, ⟨hb2, setRow_heap w b _ _ bt _ hh⟩, trivial⟩
  refine ⟨(), _, P, ?_, trivial, hP, hrel⟩
  obtain ⟨ti, hi, _, hsz, _⟩ := ht
  have hsize : u.cells.size = n := by rw [← hn, ← hcl]; simp
  simp [execOp, ha.eval hx, ha.eval hy, Instr.storeAt, Instr.sureAddr, storeVar, sizeOf, typeInfo, hi, hsz, hsize, hcl, hrun]

/-- Cells of a row of one's own are written. -/
theorem own_put {w : World} {O O1 O2 P1 P2 R1 R2 : Perm} {cs : List Value} {ws : List α} {new : List Value} {i : Nat} (hdom : ∀ b, O b ≠ 0 → b < w.heap.size) (s : Split O O1 O2) (t1 : Split O1 P1 P2) (g1 : w.ownsRow 0 E e.n v zs.length cs) (g2 : ∀ k, v.ownBlock = some k → 2 ≤ P1 k) (g3 : Rows e w P2 cs zs) (s2 : Split O2 R1 R2) (hr : Rows e w (fun b => max (P2 b) (R1 b)) new ws) (hL : Stars L1 w R2)
    (hi : i + ws.length ≤ zs.length) (h0 : 0 < zs.length) : ∃ g cap cur, v = .slice (some ⟨g, 0, none⟩) zs.length cap ∧ w.heap[g]? = some (.cells cur E (0, 0)) ∧ i * e.n + new.length ≤ cur.size ∧
      ∃ P, Stars (Own e E v (zs.take i ++ ws ++ zs.drop (i + ws.length)) :: L1) (w.setRow g (cur.toList.take (i * e.n) ++ new ++ cur.toList.drop (i * e.n + new.length)).toArray) P ∧ Rel w O (w.setRow g (cur.toList.take (i * e.n) ++ new ++ cur.toList.drop (i * e.n + new.length)).toArray) P := by
  rcases g1.2 with ⟨rfl, h⟩ | ⟨g, cap, cur, rfl, _, hg, hle, hmx, hsz, htk⟩
  · omega
  have hnew : new.length = ws.length * e.n := hr.length
  have hpg := g2 g rfl
  have hfit : i * e.n + new.length ≤ cur.size := by
    rw [hnew, hsz, ← Nat.add_mul]; exact Nat.mul_le_mul_right _ (by omega)
  refine ⟨g, cap, cur, rfl, hg, hfit, ?_⟩
  generalize hw' : w.setRow g (cur.toList.take (i * e.n) ++ new ++ cur.toList.drop (i * e.n + new.length)).toArray = w'
  have hO1g : 2 ≤ O1 g := Nat.le_trans hpg (t1.l g)
  have hOg : 2 ≤ O g := Nat.le_trans hO1g (s.l g)
  have hoth : ∀ c, c ≠ g → w'.heap[c]? = w.heap[c]? := fun c hc => by rw [← hw']; exact setRow_other w g c _ hc
  have hheap : w'.heap[g]? = some (.cells (cur.toList.take (i * e.n) ++ new ++ cur.toList.drop (i * e.n + new.length)).toArray E (0, 0)) := by rw [← hw']; exact setRow_heap w g _ _ E _ hg
  have hP2g : P2 g = 0 := t1.lr g hpg
  have hO2g : O2 g = 0 := s.lr g hO1g
  have hR1g : R1 g = 0 := by have := s2.l g; omega
  have hR2g : R2 g = 0 := by have := s2.r g; omega
  have hcl : cs.length = zs.length * e.n := g1.1
  have hlen : (zs.take i ++ ws ++ zs.drop (i + ws.length)).length = zs.length := by simp; omega
  have hcs' : (cs.take (i * e.n) ++ new ++ cs.drop ((i + ws.length) * e.n)).length = zs.length * e.n := by
    rw [← hlen]
    simp only [List.length_append, List.length_take, List.length_drop, hcl, hnew, Nat.add_mul]
    have a1 := Nat.mul_le_mul_right e.n hi
    have a2 := Nat.mul_le_mul_right e.n (show i ≤ zs.length by omega)
    rw [Nat.add_mul] at a1
    rw [Nat.min_eq_left a2, Nat.min_eq_left (show i ≤ zs.length by omega), Nat.sub_mul, Nat.add_mul]
  have hrow : w'.ownsRow 0 E e.n (.slice (some ⟨g, 0, none⟩) zs.length cap) (zs.take i ++ ws ++ zs.drop (i + ws.length)).length (cs.take (i * e.n) ++ new ++ cs.drop ((i + ws.length) * e.n)) := by
    rw [hlen]
    refine ⟨hcs', .inr ⟨g, cap, _, rfl, Nat.zero_le _, hheap, hle, hmx, ?_, ?_⟩⟩
    · simp only [List.size_toArray, List.length_append, List.length_take, List.length_drop, Array.length_toList]
      omega
    · have a1 : i * e.n ≤ zs.length * e.n := Nat.mul_le_mul_right _ (by omega)
      have a2 : (i + ws.length) * e.n ≤ zs.length * e.n := Nat.mul_le_mul_right _ hi
      have a4 := Nat.mul_le_mul_right e.n hle
      have e1 : cs.take (i * e.n) = cur.toList.take (i * e.n) := by rw [← htk, List.take_take, Nat.min_eq_left a1]
      have e2 : cs.drop ((i + ws.length) * e.n) = (cur.toList.drop (i * e.n + new.length)).take (zs.length * e.n - (i + ws.length) * e.n) := by
        rw [← htk, List.drop_take, hnew, ← Nat.add_mul]
      have e3 : ((cur.toList.take (i * e.n) ++ new).length) = (i + ws.length) * e.n := by
        rw [List.length_append, List.length_take, Array.length_toList, hnew, Nat.add_mul, Nat.min_eq_left (by omega)]
      rw [e1, e2, List.take_append, e3, List.take_of_length_le (by rw [e3]; exact a2)]
  have m1 : ∀ b, min (P2 b) 1 ≠ 0 → b ≠ g := fun b hb h => by subst h; rw [hP2g] at hb; exact hb rfl
  have m2 : ∀ b, min (max (P2 b) (R1 b)) 1 ≠ 0 → b ≠ g := fun b hb h => by subst h; rw [hR1g, hP2g] at hb; exact hb rfl
  have r1 : Rows e w' (fun b => max (min (P2 b) 1) (min (R1 b) 1)) cs zs := (g3.dup.loc fun b hb => hoth b (m1 b hb)).mono fun b => Nat.le_max_left _ _
  have r2 : Rows e w' (fun b => max (min (P2 b) 1) (min (R1 b) 1)) new ws := (hr.dup.loc fun b hb => hoth b (m2 b hb)).mono fun b => by show min (max (P2 b) (R1 b)) 1 ≤ max (min (P2 b) 1) (min (R1 b) 1); omega
  have hown : (Own e E (.slice (some ⟨g, 0, none⟩) zs.length cap) (zs.take i ++ ws ++ zs.drop (i + ws.length))).h w' (fun b => max (O1 b) (min (R1 b) 1)) := by
    refine Own.of_row hrow (((r1.take i).append r2).append (r1.drop (i + ws.length))) (fun b hb => ?_) (fun b => ?_) (fun b => ?_) (fun b hb => ?_)
    · simp only [Value.ownBlock, Option.some.injEq] at hb
      subst hb
      show max _ _ = 0; rw [hP2g, hR1g]; rfl
    · exact Nat.max_le.2 ⟨Nat.min_le_right _ _, Nat.min_le_right _ _⟩
    · have := t1.r b; show max _ _ ≤ max _ _; omega
    · simp only [Value.ownBlock, Option.some.injEq] at hb
      subst hb
      show 2 ≤ max _ _; omega
  refine ⟨O, ⟨fun b => max (O1 b) (min (R1 b) 1), R2, ⟨fun b => ?_, fun b => ?_, fun b hb => ?_, fun b hb => ?_⟩, hown, hL.loc fun b hb => hoth b (fun h => hb (by rw [h]; exact hR2g))⟩, ?_⟩
  · have := s.l b; have := s.r b; have := s2.l b; show max _ _ ≤ _; omega
  · have := s.r b; have := s2.r b; omega
  · have h2 : 2 ≤ O1 b := by have h' : 2 ≤ max (O1 b) (min (R1 b) 1) := hb; omega
    have := s.lr b h2; have := s2.r b; omega
  · have h3 := s2.rl b hb
    have h4 := s.rl b (by have := s2.r b; omega)
    show max _ _ = 0; omega
  · rw [← hw']; exact setRow_rel hOg hdom
/-- An element of a row of one's own is written. -/
theorem s_store_elem {t : TypeId} {i : Nat} {z : α} {new : List Value} {z0 : Value} {nb : Nat} (ht : TI X.P t z0 e.n nb) (hx : env.eval x = some (.pointer (some (elemAddr v i e.n)))) (hy : env.eval y = some u) (hc : CellsV L u new)
    (hp : Pick (Own e E v zs) L L1) (hz : Beside (Rd e new z) L1) (hi : i < zs.length) (k : Kont X env (Own e E v (zs.set i z) :: L1) K) : StepK X kk ⟨none, .store t x y, T, pos, af, none⟩ env L K := by
  refine s_skip (γ := Unit) (pu := fun _ => True) (L' := fun _ => Own e E v (zs.set i z) :: L1) ?_ (fun _ _ => k)
  intro a w O ha hst hdom
  obtain ⟨O1, O2, s, hO, hs2⟩ := hp w O hst
  obtain ⟨R1, R2, s2, hr, hL⟩ := hz w O2 hs2
  have hcl := hc w O hst
  have hnl : new.length = e.n := e.len hr
  obtain ⟨P1, P2, cs, t1, g1, g2, g3⟩ := hO
  have hr' : Rows e w (fun b => max (P2 b) (R1 b)) new [z] := ⟨new, [], by simp, e.mono hr fun b => Nat.le_max_right _ _, rfl⟩
  obtain ⟨g, cap, cur, rfl, hg, hfit, P, hP, hrel⟩ := own_put hdom s t1 g1 g2 g3 s2 hr' hL (i := i) (by simp; omega) (by omega)
  have hrun := run_storeCells_at X.P g (i * e.n) E new 0 cur w hg (by simpa using hfit) (e.one hr)
  have hset : zs.take i ++ [z] ++ zs.drop (i + 1) = zs.set i z := by
    rw [List.set_eq_take_append_cons_drop, if_pos hi]; simp
  simp only [List.length_singleton, hset] at hP
  refine ⟨(), _, P, ?_, trivial, hP, hrel⟩
  obtain ⟨ti, hti, _, hsz, _⟩ := ht
  have hsize : u.cells.size = e.n := by rw [← hnl, ← hcl]; simp
  have hea : elemAddr (.slice (some ⟨g, 0, none⟩) zs.length cap) i e.n = ⟨g, i * e.n, none⟩ := by simp [elemAddr]
  rw [hea] at hx
  simp only [Nat.add_zero] at hrun
  simp [execOp, ha.eval hx, ha.eval hy, Instr.storeAt, Instr.sureAddr, storeVar, sizeOf, typeInfo, hti, hsz, hsize, hcl, hrun]
/-- clear(v[k:]). -/
theorem s_clear_tail {t : TypeId} {g l cap k0 : Nat} {z : Value} {z0 : α} {nb : Nat} {ts : Array TypeId} (hts : ts[0]? = some t) (hu : X.P.underlying t = some (.slice E)) (hE : TI X.P E z e.n nb) (hzc : z.cells.size = e.n) (hz0 : ∀ w O, e.rd w O z.cells.toList z0) (hn : 0 < e.n)
    (hl : l = zs.length) (hx : env.eval x = some (cutV (some ⟨g, 0, none⟩) k0 l cap e.n)) (hk : k0 ≤ zs.length) (hcap : zs.length ≤ cap)
    (hp : Pick (Own e E (.slice (some ⟨g, 0, none⟩) zs.length cap) zs) L L1) (k : ∀ ws : List α, ws.length = zs.length - k0 → Kont X env (Own e E (.slice (some ⟨g, 0, none⟩) zs.length cap) (zs.take k0 ++ ws) :: L1) K) :
    StepK X kk ⟨none, .call ⟨.builtin .clear, #[x], ts⟩, T, pos, af, none⟩ env L K := by
  subst hl
  refine s_main0 (γ := List α) (V := fun _ => .tuple #[]) (pu := fun ws => ws.length = zs.length - k0) (L' := fun ws => Own e E (.slice (some ⟨g, 0, none⟩) zs.length cap) (zs.take k0 ++ ws) :: L1) ?_ (fun ws h => k ws h)
  intro a w O ha hst hdom
  obtain ⟨O1, O2, s, hO, hs2⟩ := hp w O hst
  obtain ⟨ti, hti, hz1, hsz, _⟩ := hE
  by_cases hlt : k0 < zs.length
  · have hrows : ∀ m : Nat, Rows e w (fun _ => 0) (List.replicate m z.cells.toList).flatten (List.replicate m z0) := by
      intro m
      induction m with
      | zero => rfl
      | succ m ih => exact ⟨z.cells.toList, _, by simp [List.replicate_succ], hz0 _ _, ih⟩
    obtain ⟨P1, P2, cs, t1, g1, g2, g3⟩ := hO
    obtain ⟨g', cap', cur, hv, hg, hfit, P, hP, hrel⟩ := own_put (L1 := L1) hdom s t1 g1 g2 g3 (R1 := fun _ => 0) (R2 := O2) ⟨fun _ => Nat.zero_le _, fun _ => Nat.le_refl _, fun _ h => by omega, fun _ _ => rfl⟩ ((hrows (zs.length - k0)).mono fun b => Nat.zero_le _) hs2 (i := k0) (by simp; omega) (by omega)
    simp only [Value.slice.injEq, Option.some.injEq, Addr.mk.injEq, and_true, true_and] at hv
    obtain ⟨rfl, rfl⟩ := hv
    have hzone : ∀ u ∈ (List.replicate (zs.length - k0) z.cells.toList).flatten, u.oneCell' = true := (hrows _).one
    have hrun := run_storeCells_at X.P g (k0 * e.n) E _ 0 cur w hg (by simpa using hfit) hzone
    have hzero : (Builtin.zeroCells z.cells (zs.length - k0)).toList = (List.replicate (zs.length - k0) z.cells.toList).flatten := by
      simp only [Builtin.zeroCells]
      apply List.ext_getElem
      · simp
      · intro i h1 h2
        simp only [Array.getElem_toList, Array.getElem_map, Array.getElem_range]
        have hlen : i < (zs.length - k0) * z.cells.size := by simpa using h1
        have hpos : 0 < z.cells.size := by omega
        have hmod : i % z.cells.size < z.cells.size := Nat.mod_lt _ hpos
        rw [getElem!_pos z.cells (i % z.cells.size) hmod]
        have key : ∀ (m i : Nat) (h : i < (List.replicate m z.cells.toList).flatten.length), (List.replicate m z.cells.toList).flatten[i] = z.cells[i % z.cells.size]'(Nat.mod_lt _ hpos) := by
          intro m
          induction m with
          | zero => intro i h; simp at h
          | succ m ih =>
            intro i h
            simp only [List.replicate_succ, List.flatten_cons] at h ⊢
            by_cases hi : i < z.cells.size
            · rw [List.getElem_append_left (by simpa using hi)]
              simp [Nat.mod_eq_of_lt hi]
            · rw [List.getElem_append_right (by simp; omega)]
              rw [ih]
              congr 1
              simp only [Array.length_toList]
              rw [← Nat.mod_eq_sub_mod (by omega)]
        exact (key _ i h2).symm
    refine ⟨List.replicate (zs.length - k0) z0, _, P, ?_, by simp, ?_, hrel⟩
    · have hx' : a.eval x = .slice (some ⟨g, k0 * e.n, none⟩) (zs.length - k0) (cap - k0) := by
        rw [ha.eval hx]
        simp only [Go.SL.cutV]
        rw [if_neg (by omega)]
        simp [add_off]
      obtain ⟨m, hm⟩ : ∃ m, zs.length - k0 = m + 1 := ⟨zs.length - k0 - 1, by omega⟩
      simp only [Nat.add_zero] at hrun
      rw [hm] at hrun hzero hx' ⊢
      simp [execOp, resolve, invoke, builtin, hx', Builtin.clear_, hts, run_underlying hu, zeroValue, typeInfo, hti, hz1, hzero, hrun]
    · have : zs.drop (k0 + (List.replicate (zs.length - k0) z0).length) = [] := List.drop_eq_nil_of_le (by simp; omega)
      rw [this, List.append_nil] at hP
      exact hP
  · have hk0 : k0 = zs.length := by omega
    subst hk0
    refine ⟨[], w, O, ?_, by simp, ⟨O1, O2, s, by simpa using hO, hs2⟩, Rel.refl hdom⟩
    have hx' : ∃ a0, a.eval x = .slice (some a0) 0 (cap - zs.length) := by
      rw [ha.eval hx]
      simp only [Go.SL.cutV, Nat.sub_self]
      split
      · exact ⟨_, rfl⟩
      · exact ⟨_, rfl⟩
    obtain ⟨a0, hx'⟩ := hx'
    simp [execOp, resolve, invoke, builtin, hx', Builtin.clear_, hts, run_underlying hu]
/-- The head of a row of one's own. -/
theorem Own.cut {w : World} {O : Perm} {g cap k0 : Nat} (h : (Own e E (.slice (some ⟨g, 0, none⟩) zs.length cap) zs).h w O) (hk : k0 ≤ zs.length) : (Own e E (.slice (some ⟨g, 0, none⟩) k0 cap) (zs.take k0)).h w O := by
  obtain ⟨P1, P2, cs, t1, g1, g2, g3⟩ := h
  rcases g1.2 with ⟨h, _⟩ | ⟨g', cap', cur, hv, _, hg, hle, hmx, hsz, htk⟩
  · cases h
  · cases hv
    refine ⟨P1, P2, cs.take (k0 * e.n), t1, ⟨?_, .inr ⟨g, cap, cur, ?_, Nat.zero_le _, hg, ?_, hmx, hsz, ?_⟩⟩, fun k hk => g2 k (by simpa [Value.ownBlock] using hk), g3.take k0⟩
    · have := Nat.mul_le_mul_right e.n hk
      rw [List.length_take, g1.1, List.length_take, Nat.min_eq_left this, Nat.min_eq_left hk]
    · simp [Nat.min_eq_left hk]
    · simp; omega
    · have := Nat.mul_le_mul_right e.n hk
      rw [← htk, List.take_take, List.length_take, Nat.min_eq_left hk, Nat.min_eq_left this]

/-! ### calls that keep what is there -/
inductive Reads (L : List A) : List A → Prop
  | nil : Reads L []
  | cons {a : A} {l : List A} (hd : a.Dup) (hh : Has L a) (t : Reads L l) : Reads L (a :: l)
theorem Reads.stars {Lp : List A} (h : Reads L Lp) {w : World} {O : Perm} (hs : Stars L w O) : Stars Lp w fun b => min (O b) 1 := by
  induction h with
  | nil => trivial
  | cons hd hh _ ih =>
    exact ⟨fun b => min (O b) 1, fun b => min (O b) 1, ⟨fun _ => Nat.le_refl _, fun _ => Nat.le_refl _, fun b hb => absurd (Nat.le_trans hb (Nat.min_le_right _ _)) (by omega), fun b hb => absurd (Nat.le_trans hb (Nat.min_le_right _ _)) (by omega)⟩, hd w O (hh w O hs), ih⟩
def A.Sep (a : A) : Prop := ∀ w O, a.h w O → a.h w fun b => if 2 ≤ O b then O b else 0
inductive Seps : List A → Prop
  | nil : Seps []
  | cons {a : A} {l : List A} (h : a.Sep) (t : Seps l) : Seps (a :: l)
theorem Seps.stars {l : List A} (h : Seps l) : ∀ {w : World} {O : Perm}, Stars l w O → Stars l w fun b => if 2 ≤ O b then O b else 0 := by
  induction h with
  | nil => exact fun _ => trivial
  | cons hd _ ih =>
    intro w O ⟨O1, O2, s, h1, h2⟩
    refine ⟨fun b => if 2 ≤ O1 b then O1 b else 0, fun b => if 2 ≤ O2 b then O2 b else 0, ⟨fun b => ?_, fun b => ?_, fun b hb => ?_, fun b hb => ?_⟩, hd w O1 h1, ih h2⟩ <;> try simp only at *
    · have := s.l b; split <;> split <;> omega
    · have := s.r b; split <;> split <;> omega
    · split at hb
      · have := s.lr b hb; simp [this]
      · omega
    · split at hb
      · have := s.rl b hb; simp [this]
      · omega
/-- Behind a call that only reads: what it hands out lies beside all that was there. -/
theorem keep_frame {w w' : World} {O O' : Perm} {l : List A} (hdom : ∀ b, O b ≠ 0 → b < w.heap.size) (hs : Stars L w O) (hr : Rel w (fun b => min (O b) 1) w' O') (hl : Stars l w' O') (hsep : Seps l) :
    ∃ P, Stars (l ++ L) w' P ∧ Rel w O w' P := by
  have hl' := hsep.stars hl
  have hz : ∀ b, b < w.heap.size → ¬ 2 ≤ O' b := fun b hb h => by
    have := hr.perm b hb; have := Nat.min_le_right (O b) 1; omega
  refine ⟨fun b => max (if 2 ≤ O' b then O' b else 0) (O b), Stars.app ⟨fun b => Nat.le_max_left _ _, fun b => Nat.le_max_right _ _, fun b hb => ?_, fun b hb => ?_⟩ hl' (hs.loc fun b hb => hr.old b (hdom b hb) ?_), ⟨hr.os, hr.tape, hr.output, hr.size, fun b hb _ => hr.old b hb ?_, fun b hb => ?_, fun b hb => ?_⟩⟩
  · split at hb
    · rename_i h
      rcases Nat.eq_zero_or_pos (O b) with h0 | h0
      · exact h0
      · exact absurd h (hz b (hdom b (by omega)))
    · omega
  · show (if _ then _ else _) = 0
    rw [if_neg (hz b (hdom b (by omega)))]
  · exact Nat.lt_of_le_of_lt (Nat.min_le_right _ _) (by omega)
  · exact Nat.lt_of_le_of_lt (Nat.min_le_right _ _) (by omega)
  · show max _ _ ≤ _
    rw [if_neg (hz b hb)]; omega
  · have hb' : max (if 2 ≤ O' b then O' b else 0) (O b) ≠ 0 := hb
    by_cases h : 2 ≤ O' b
    · exact hr.dom b (by omega)
    · rw [if_neg h] at hb'
      have := hdom b (by omega); have := hr.size; omega
theorem s_call_keep {γ : Type} {ret : γ → Value} {pu : γ → Prop} {L' : γ → List A} {f : Operand} {g : FuncId} {first cap : List Value} {xs : List Operand} {args vs : List Value} {ts : Array TypeId} {Lp : List A}
    (hc : Callable X.P g) (spec : Con X.P g args Lp ret pu L')
    (hf : env.eval f = some (.func (.func g) first.toArray cap.toArray)) (hx : evalAll env xs = some vs) (hv : args = first ++ vs ++ cap) (hd : d < X.fn.ntmps) (hp : Reads L Lp) (hsep : ∀ g, Seps (L' g))
    (k : ∀ g, pu g → Kont X ((d, ret g) :: env) (L' g ++ L) K) :
    StepK X kk ⟨some d, .call ⟨.value f, xs.toArray, ts⟩, T, pos, af, none⟩ env L K := by
  intro a w O ha hs hr
  have hrun : (execOp a.eval ⟨some d, .call ⟨.value f, xs.toArray, ts⟩, T, pos, af, none⟩).run X.P w = .ok (.enter g args.toArray) w := by
    have h1 := ha.all hx
    have hargs : first.toArray ++ (xs.map a.eval).toArray ++ cap.toArray = args.toArray := by rw [h1, hv]; simp
    simp only [execOp, resolve, ha.eval hf, Deferred.ofValue, pure_bind, invoke, List.map_toArray]
    rw [hargs]
    exact hc _ _
  simp only [Oper.wp, hrun, Oper.upon]
  refine (spec w _ (hp.stars hs) (fun b hb => hr.dom b (by intro h; rw [h] at hb; exact hb rfl))).mono ?_
  rintro e w' ⟨g, O', rfl, hpu, hL, hrel⟩
  obtain ⟨P, hP, hR⟩ := keep_frame hr.dom hs hrel hL (hsep g)
  exact k g hpu _ w' P (ha.put hd _) hP (hr.trans hR)
theorem s_callf_keep {γ : Type} {ret : γ → Value} {pu : γ → Prop} {L' : γ → List A} {g : FuncId} {xs : List Operand} {args : List Value} {ts : Array TypeId} {Lp : List A}
    (hc : Callable X.P g) (spec : Con X.P g args Lp ret pu L') (hx : evalAll env xs = some args) (hd : d < X.fn.ntmps) (hp : Reads L Lp) (hsep : ∀ g, Seps (L' g))
    (k : ∀ g, pu g → Kont X ((d, ret g) :: env) (L' g ++ L) K) :
    StepK X kk ⟨some d, .call ⟨.value (.func g), xs.toArray, ts⟩, T, pos, af, none⟩ env L K :=
  s_call_keep hc spec (first := []) (cap := []) rfl hx (by simp) hd hp hsep k
theorem q_call_keep {γ : Type} {ret : γ → Value} {pu : γ → Prop} {f : Operand} {g : FuncId} {first cap : List Value} {xs : List Operand} {args vs : List Value} {ts : Array TypeId} {Lp : List A} {v : Value}
    (hc : Callable X.P g) (spec : Con X.P g args Lp ret pu fun _ => []) (hf : env.eval f = some (.func (.func g) first.toArray cap.toArray)) (hv : ∀ g, pu g → ret g = v) (hx : evalAll env xs = some vs) (ha : args = first ++ vs ++ cap) (hd : d < X.fn.ntmps) (hp : Reads L Lp)
    (k : Qops X ops rest kk ((d, v) :: env) L) :
    Qops X ops (⟨some d, .call ⟨.value f, xs.toArray, ts⟩, T, pos, af, none⟩ :: rest) kk env L := by
  intro a hac
  simp only [wpQuiet, Region.wanted, if_true]
  refine ⟨v, fun w ⟨O, hs, hr⟩ => ?_, k _ (hac.put hd v)⟩
  have hrun : (execOp a.eval ⟨some d, .call ⟨.value f, xs.toArray, ts⟩, T, pos, af, none⟩).run X.P w = .ok (.enter g args.toArray) w := by
    have h1 := hac.all hx
    have hargs : first.toArray ++ (xs.map a.eval).toArray ++ cap.toArray = args.toArray := by rw [h1, ha]; simp
    simp only [execOp, resolve, hac.eval hf, Deferred.ofValue, pure_bind, invoke, List.map_toArray]
    rw [hargs]
    exact hc _ _
  simp only [Oper.quietAt, hrun, Oper.quietUpon, true_and]
  refine (spec w _ (hp.stars hs) (fun b hb => hr.dom b (by intro h; rw [h] at hb; exact hb rfl))).mono ?_
  rintro e w' ⟨g, O', rfl, hpu, hL, hrel⟩
  obtain ⟨P, hP, hR⟩ := keep_frame (l := []) hr.dom hs hrel hL Seps.nil
  exact ⟨by rw [hv g hpu], P, hP, hr.trans hR⟩
end

/-! ### what may be read, what lies apart -/
theorem Pu.isDup (p : Prop) : (Pu p).Dup := fun _ _ h => h
/-- An encoding that leads nowhere. -/
def Enc.Pure {α : Type} (e : Enc α) : Prop := ∀ w O w' O' cs x, e.rd w O cs x → e.rd w' O' cs x
theorem eInt_pure (k : IntKind) : (eInt k).Pure := fun _ _ _ _ _ _ h => h
theorem eBool_pure : eBool.Pure := fun _ _ _ _ _ _ h => h
theorem eStr_pure : eStr.Pure := fun _ _ _ _ _ _ h => h
theorem eMap_pure {α β : Type} {g : α → β} {e : Enc β} (h : e.Pure) : (eMap g e).Pure := fun _ _ _ _ _ _ k => h _ _ _ _ _ _ k
theorem eByte_pure : eByte.Pure := eMap_pure (eInt_pure _)
theorem ePair_pure {α β : Type} {e : Enc α} {f : Enc β} (h : e.Pure) (k : f.Pure) : (ePair e f).Pure := fun _ _ _ _ _ _ ⟨c1, c2, h0, h1, h2⟩ => ⟨c1, c2, h0, h _ _ _ _ _ _ h1, k _ _ _ _ _ _ h2⟩
/-- A cell, as it is. -/
def eRaw : Enc Value where
  n := 1
  rd := fun _ _ cs x => cs = [x] ∧ x.oneCell' = true
  len := fun h => by rw [h.1]; rfl
  one := fun h u hu => by rw [h.1] at hu; simp at hu; rw [hu]; exact h.2
  mono := fun h _ => h
  loc := fun h _ => h
  dup := fun h => h
theorem eRaw_pure : eRaw.Pure := fun _ _ _ _ _ _ h => h
theorem rows_pure {α : Type} {e : Enc α} (he : e.Pure) {w w' : World} {O O' : Perm} : ∀ {cs : List Value} {xs : List α}, Rows e w O cs xs → Rows e w' O' cs xs
  | _, [], h => h
  | _, _ :: _, ⟨c1, c2, h0, h1, h2⟩ => ⟨c1, c2, h0, he _ _ _ _ _ _ h1, rows_pure he h2⟩
theorem Own.sep {α : Type} {e : Enc α} (he : e.Pure) {T : TypeId} {v : Value} {xs : List α} : (Own e T v xs).Sep := by
  rintro w O ⟨O1, O2, cs, s, h1, h2, h3⟩
  refine ⟨fun b => if 2 ≤ O1 b then O1 b else 0, fun _ => 0, cs, ⟨fun b => ?_, fun _ => Nat.zero_le _, fun _ _ => rfl, fun _ h => by omega⟩, h1, fun k hk => ?_, rows_pure he h3⟩
  · have := s.l b; show (if _ then _ else _) ≤ (if _ then _ else _); split <;> split <;> omega
  · have := h2 k hk; show 2 ≤ (if _ then _ else _); rw [if_pos this]; exact this
theorem Blk.sep {b : Nat} {T : TypeId} {cs : List Value} : (Blk b T cs).Sep := fun w O ⟨h1, h2⟩ => ⟨by show 2 ≤ (if _ then _ else _); rw [if_pos h1]; exact h1, h2⟩
theorem ObjA.sep {b : Nat} {o : Obj} : (ObjA b o).Sep := fun w O ⟨h1, h2⟩ => ⟨by show 2 ≤ (if _ then _ else _); rw [if_pos h1]; exact h1, h2⟩
theorem Pu.sep (p : Prop) : (Pu p).Sep := fun _ _ h => h
theorem MapA.sep {κ : Type} [DecidableEq κ] {ke : KeyEnc κ} {b : Nat} {m : List (κ × Value)} : (MapA ke b m).Sep := fun w O ⟨h1, h2⟩ => ⟨by show 2 ≤ (if _ then _ else _); rw [if_pos h1]; exact h1, h2⟩
theorem ExA.sep {γ : Type} {f : γ → A} (h : ∀ g, (f g).Sep) : (ExA f).Sep := fun w O ⟨g, k⟩ => ⟨g, h g w O k⟩
theorem AllA.sep {l : List A} (h : Seps l) : (AllA l).Sep := fun w O k => h.stars k

/-! ### maps that may be nil -/
section
variable {κ : Type} [DecidableEq κ] (ke : KeyEnc κ)
def MapO (o : Option Nat) (m : List (κ × Value)) : A := match o with
  | none => Pu (m = [])
  | some b => MapA ke b m
variable {K : Act → World → Prop} {X : Cx} {kk : List Item} {env : Env} {L L1 : List A} {d : Nat} {T : TypeId} {pos : String} {af : Array Edge} {x y : Operand}
theorem v_lookupO {t kt et : TypeId} {o : Option Nat} {m : List (κ × Value)} {k : κ} {z : Value} {n nb : Nat} (hu : X.P.underlying t = some (.map kt et)) (hk : X.P.underlying kt = some ke.desc) (hz : TI X.P et z n nb)
    (hx : env.eval x = some (.map o)) (hy : env.eval y = some (ke.val k)) (hm : Has L (MapO ke o m)) : Val X env L (.lookup t x y false) T ((look m k).getD z) := by
  cases o with
  | some b => exact v_lookup ke hu hk hz hx hy hm
  | none =>
    intro _ _ _ _ a w O ha hs
    have h0 : m = [] := hm w O hs
    subst h0
    obtain ⟨ti, hi, hz0, _⟩ := hz
    have hzero : (zeroValue et).run X.P w = .ok z w := by simp [zeroValue, typeInfo, hi, hz0]
    have hchk : (Instr.checkKey true 10000 kt (ke.val k)).run X.P w = .ok () w := ke.chk X.P w 9999 true kt k hk
    have hfind : (Instr.findKey kt (ke.val k) []).run X.P w = .ok none w := by simp [Instr.findKey, run_underlying hk, Instr.findNow]
    have hl : (Instr.lookup t (.map none) (ke.val k) false).run X.P w = .ok z w := by
      simp [Instr.lookup, run_underlying hu, hzero, hchk, hfind]
    simp [execOp, ha.eval hx, ha.eval hy, hl, look_nil]
/-- v, is := m[k] -/
theorem v_lookupO2 {t kt et : TypeId} {o : Option Nat} {m : List (κ × Value)} {k : κ} {z : Value} {n nb : Nat} (hu : X.P.underlying t = some (.map kt et)) (hk : X.P.underlying kt = some ke.desc) (hz : TI X.P et z n nb)
    (hx : env.eval x = some (.map o)) (hy : env.eval y = some (ke.val k)) (hm : Has L (MapO ke o m)) : Val X env L (.lookup t x y true) T (.tuple #[(look m k).getD z, .bool (look m k).isSome]) := by
  intro _ _ _ _ a w O ha hs
  obtain ⟨ti, hi, hz0, _⟩ := hz
  have hzero : (zeroValue et).run X.P w = .ok z w := by simp [zeroValue, typeInfo, hi, hz0]
  cases o with
  | none =>
    have h0 : m = [] := hm w O hs
    subst h0
    have hchk : (Instr.checkKey true 10000 kt (ke.val k)).run X.P w = .ok () w := ke.chk X.P w 9999 true kt k hk
    have hfind : (Instr.findKey kt (ke.val k) []).run X.P w = .ok none w := by simp [Instr.findKey, run_underlying hk, Instr.findNow]
    have hl : (Instr.lookup t (.map none) (ke.val k) true).run X.P w = .ok (.tuple #[z, .bool false]) w := by
      simp [Instr.lookup, run_underlying hu, hzero, hchk, hfind]
    simp [execOp, ha.eval hx, ha.eval hy, hl, look_nil]
  | some b =>
    obtain ⟨_, es, clock, hh, he, _⟩ := (show (MapA ke b m).h w O from hm w O hs)
    obtain ⟨r, g1, g2, _⟩ := findNow_of ke (k := k) 0 he
    have hget : (getObj b).run X.P w = .ok (.map es clock) w := by simp [getObj, Sem.run, hh]
    have hfind : (Instr.findKey kt (ke.val k) es.toList).run X.P w = .ok r w := by simp [Instr.findKey, run_underlying hk, g1]
    have hchk : (Instr.checkKey es.isEmpty 10000 kt (ke.val k)).run X.P w = .ok () w := ke.chk X.P w 9999 es.isEmpty kt k hk
    have hl : (Instr.lookup t (.map (some b)) (ke.val k) true).run X.P w = .ok (.tuple #[(look m k).getD z, .bool (look m k).isSome]) w := by
      cases r with
      | none => simp [Instr.lookup, run_underlying hu, hget, hchk, hfind, ← g2, hzero]
      | some p => obtain ⟨i, v⟩ := p; simp [Instr.lookup, run_underlying hu, hget, hchk, hfind, ← g2]
    simp [execOp, ha.eval hx, ha.eval hy, hl]
theorem v_len_mapO {t kt et : TypeId} {o : Option Nat} {m : List (κ × Value)} (hu : X.P.underlying t = some (.map kt et)) (hx : env.eval x = some (.map o)) (hm : Has L (MapO ke o m)) : Val X env L (.call ⟨.builtin .len, #[x], #[t]⟩) T (.int .i64 m.length) := by
  cases o with
  | some b => exact v_len_map ke hu hx hm
  | none =>
    intro _ _ _ _ a w O ha hs
    have h0 : m = [] := hm w O hs
    subst h0
    simp [execOp, resolve, invoke, builtin, Builtin.len_, ha.eval hx, run_underlying hu, goInt]
theorem s_deleteO {t kt et : TypeId} {o : Option Nat} {m : List (κ × Value)} {k : κ} {ts : Array TypeId} (hts : ts[0]? = some t) (hu : X.P.underlying t = some (.map kt et)) (hk : X.P.underlying kt = some ke.desc)
    (hx : env.eval x = some (.map o)) (hy : env.eval y = some (ke.val k)) (hp : Pick (MapO ke o m) L L1) (kk' : Kont X env (MapO ke o (del m k) :: L1) K) :
    StepK X kk ⟨none, .call ⟨.builtin .delete, #[x, y], ts⟩, T, pos, af, none⟩ env L K := by
  cases o with
  | some b => exact s_delete ke hts hu hk hx hy hp kk'
  | none =>
    refine s_main0 (γ := Unit) (V := fun _ => .tuple #[]) (pu := fun _ => True) (L' := fun _ => MapO ke none (del m k) :: L1) ?_ (fun _ _ => kk')
    intro a w O ha hst hdom
    obtain ⟨O1, O2, s, h0, hs2⟩ := hp w O hst
    have h0' : m = [] := h0
    subst h0'
    have hchk : (Instr.checkKey true 10000 kt (ke.val k)).run X.P w = .ok () w := ke.chk X.P w 9999 true kt k hk
    have hrun : (Builtin.delete_ ts T #[.map none, ke.val k]).run X.P w = .ok (.tuple #[]) w := by
      simp [Builtin.delete_, hts, run_underlying hu, hchk]
    exact ⟨(), w, O, by simp [execOp, resolve, invoke, builtin, ha.eval hx, ha.eval hy, hrun], trivial, ⟨O1, O2, s, rfl, hs2⟩, Rel.refl hdom⟩
/-- A map that may be nil and is being gone through. -/
def MapItO (it : Nat) (o : Option Nat) (m : List (κ × Value)) (pre : List κ) : A := match o with
  | none => AllA [ObjA it (.mapIter none 0 #[] 0), Pu (m = [] ∧ pre = [])]
  | some b => AllA [Pu (it ≠ b), MapIt ke it b m pre]
theorem s_range_mapO {t kt et : TypeId} {o : Option Nat} {m : List (κ × Value)} (hu : X.P.underlying t = some (.map kt et)) (hx : env.eval x = some (.map o)) (hd : d < X.fn.ntmps) (hp : Pick (MapO ke o m) L L1)
    (k : ∀ it, Kont X ((d, .pointer (some ⟨it, 0, none⟩)) :: env) (MapItO ke it o m [] :: L1) K) : StepK X kk ⟨some d, .range t x, T, pos, af, none⟩ env L K := by
  cases o with
  | some b =>
    refine s_range_map ke hu hx hd hp fun it hit a w O ha hs hr => k it a w O ha ?_ hr
    refine Ent.head (fun w O h => ?_) w O hs
    exact ⟨fun _ => 0, O, ⟨fun _ => Nat.zero_le _, fun _ => Nat.le_refl _, fun _ h => by omega, fun _ _ => rfl⟩, hit, O, fun _ => 0, ⟨fun _ => Nat.le_refl _, fun _ => Nat.zero_le _, fun _ _ => rfl, fun _ h => by omega⟩, h, trivial⟩
  | none =>
    refine s_main (γ := Nat) (V := fun it => .pointer (some ⟨it, 0, none⟩)) (pu := fun _ => True) (L' := fun it => MapItO ke it none m [] :: L1) ?_ hd (fun it _ => k it)
    intro a w O ha hst hdom
    obtain ⟨O1, O2, s, h0, hs2⟩ := hp w O hst
    have h0' : m = [] := h0
    have hrun : (Instr.range t (.map none)).run X.P w = .ok (.pointer (some ⟨w.heap.size, 0, none⟩)) (w.alloc (.mapIter none 0 #[] 0)) := by
      simp [Instr.range, run_underlying hu]
    refine ⟨w.heap.size, w.alloc (.mapIter none 0 #[] 0), fresh w O, by simp [execOp, ha.eval hx, hrun], trivial, ?_, rel_alloc _ hdom⟩
    refine stars_alloc _ hdom (hs2.mono s.r) ?_
    refine ⟨_, fun _ => 0, ⟨fun _ => Nat.le_refl _, fun _ => Nat.zero_le _, fun _ _ => rfl, fun _ h => by omega⟩, ⟨by simp, heap_alloc w _⟩, fun _ => 0, fun _ => 0, ⟨fun _ => Nat.le_refl _, fun _ => Nat.zero_le _, fun _ _ => rfl, fun _ h => by omega⟩, ⟨h0', rfl⟩, trivial⟩
theorem mapItO_some {it b : Nat} {m : List (κ × Value)} {pre : List κ} {w : World} {O : Perm} (h : (MapItO ke it (some b) m pre).h w O) : it ≠ b ∧ (MapIt ke it b m pre).h w O := by
  obtain ⟨O1, O2, s, h1, P1, P2, t, h2, _⟩ := h
  exact ⟨h1, (MapIt ke it b m pre).mono h2 fun c => Nat.le_trans (t.l c) (s.r c)⟩
theorem mapItO_mk {it b : Nat} {m : List (κ × Value)} {pre : List κ} {w : World} {O : Perm} (hne : it ≠ b) (h : (MapIt ke it b m pre).h w O) : (MapItO ke it (some b) m pre).h w O :=
  ⟨fun _ => 0, O, ⟨fun _ => Nat.zero_le _, fun _ => Nat.le_refl _, fun _ h => by omega, fun _ _ => rfl⟩, hne, O, fun _ => 0, ⟨fun _ => Nat.le_refl _, fun _ => Nat.zero_le _, fun _ _ => rfl, fun _ h => by omega⟩, h, trivial⟩
theorem v_entryO {it : Nat} {o : Option Nat} {m : List (κ × Value)} {pre : List κ} {k : κ} {v : Value} (hx : env.eval x = some (.pointer (some ⟨it, 0, none⟩))) (hkv : (k, v) ∈ m) (hm : Has L (MapItO ke it o m (pre ++ [k]))) : Val X env L (.entry x) T (.tuple #[ke.val k, v]) := by
  cases o with
  | some b => exact v_entry ke hx hkv (hm.imp fun w O h => (mapItO_some ke h).2)
  | none =>
    intro _ _ _ _ a w O ha hs
    obtain ⟨O1, O2, s, _, P1, P2, t, ⟨h2, _⟩, _⟩ := hm w O hs
    rw [h2] at hkv; cases hkv
theorem s_nextO {it : Nat} {o : Option Nat} {m : List (κ × Value)} {pre : List κ} (hx : env.eval x = some (.pointer (some ⟨it, 0, none⟩))) (hd : d < X.fn.ntmps) (hp : Pick (MapItO ke it o m pre) L L1)
    (kt : ∀ k v, (k, v) ∈ m → k ∉ pre → Kont X ((d, .tuple #[.bool true, ke.val k, v]) :: env) (MapItO ke it o m (pre ++ [k]) :: L1) K)
    (kf : (∀ k ∈ m.map (fun p : κ × Value => p.1), k ∈ pre) → Kont X ((d, .tuple #[.bool false]) :: env) (MapItO ke it o m pre :: L1) K) :
    StepK X kk ⟨some d, .next x false, T, pos, af, none⟩ env L K := by
  cases o with
  | some b =>
    intro a w O ha hst hrel
    have hst' : Stars (MapItO ke it (some b) m pre :: L1) w O := hp w O hst
    obtain ⟨O1, O2, s, h1, h2⟩ := id hst'
    obtain ⟨hne, h1'⟩ := mapItO_some ke h1
    refine s_next ke (L := MapIt ke it b m pre :: L1) hx hne hd Pick.here (fun k v hk hn a w O ha hs hr => kt k v hk hn a w O ha (Ent.head (fun w O h => mapItO_mk ke hne h) w O hs) hr)
      (fun h a w O ha hs hr => kf h a w O ha (Ent.head (fun w O h => mapItO_mk ke hne h) w O hs) hr) a w O ha ⟨O1, O2, s, h1', h2⟩ hrel
  | none =>
    refine s_main (γ := Unit) (V := fun _ => .tuple #[.bool false]) (pu := fun _ => m = []) (L' := fun _ => MapItO ke it none m pre :: L1) ?_ hd (fun _ h => kf (by rw [h]; simp))
    intro a w O ha hst hdom
    obtain ⟨O1, O2, s, h1, hs2⟩ := hp w O hst
    obtain ⟨P1, P2, t, ⟨h2, hh⟩, Q1, Q2, t2, ⟨h3, h4⟩, _⟩ := id h1
    have hrun : (Instr.next (.pointer (some ⟨it, 0, none⟩)) false T).run X.P w = .ok (.tuple #[.bool false]) w := by
      simp [Instr.next, getObj, Sem.run, hh]
    exact ⟨(), w, O, by simp [execOp, ha.eval hx, hrun], h3, ⟨O1, O2, s, h1, hs2⟩, Rel.refl hdom⟩
theorem Pick.map_itO {it : Nat} {o : Option Nat} {m : List (κ × Value)} {pre : List κ} {L : List A} : Pick (MapO ke o m) (MapItO ke it o m pre :: L) L :=
  Pick.of Pick.here fun w O h => by
    cases o with
    | some b =>
      obtain ⟨_, h2⟩ := mapItO_some ke h
      obtain ⟨_, h2, es, clock, _, h3, _, h4, h5, h6, h7, _⟩ := h2
      exact ⟨h2, es, clock, h3, h4, h5, h6, h7⟩
    | none =>
      obtain ⟨P1, P2, t, _, Q1, Q2, t2, ⟨h3, _⟩, _⟩ := h
      exact h3
theorem v_eq_map_nil {xT yT kt et : TypeId} {o : Option Nat} (hu : X.P.underlying xT = some (.map kt et)) (hx : env.eval x = some (.map o)) (hy : env.eval y = some (.map none)) : Val X env L (.binOp .eql xT x y yT) T (.bool o.isNone) :=
  v_eql_any hx hy (fun op => by cases op <;> cases o <;> rfl) (fun op => by cases op <;> rfl) fun w O _ => by
    rw [equal_succ hu, Op.equalIn]
    simp only [Sem.run_bind, run_underlying hu, Result.andThen_ok]
    cases o <;> rfl
theorem v_ne_map_nil {xT yT kt et : TypeId} {o : Option Nat} (hu : X.P.underlying xT = some (.map kt et)) (hx : env.eval x = some (.map o)) (hy : env.eval y = some (.map none)) : Val X env L (.binOp .neq xT x y yT) T (.bool (!o.isNone)) :=
  v_neq_any hx hy (fun op => by cases op <;> cases o <;> rfl) (fun op => by cases op <;> rfl) fun w O _ => by
    rw [equal_succ hu, Op.equalIn]
    simp only [Sem.run_bind, run_underlying hu, Result.andThen_ok]
    cases o <;> rfl
end

/-! ### results in cells -/
theorem results_cell {fn : Func} {t : Nat} {ty : TypeId} {tmps : Array Value} {P : Program} {w : World} {v : Value} {p : Addr} (h : fn.results = #[.cell t ty]) (hv : tmps[t]? = some (.pointer (some p))) (hl : (loadVar ty p).run P w = .ok v w) : (results fn tmps).run P w = .ok v w := by
  have h1 : tmps[t]?.getD undef = .pointer (some p) := by rw [hv]; rfl
  simp [results, h, asAddr, hl, h1]
theorem c_ret_cell {X : Cx} {k : List Item} {env : Env} {L : List A} {t b : Nat} {ty bt : TypeId} {cs : List Value} {z : Value} {nb : Nat} (hf : X.P.funcs[X.f]? = some X.fn) (h : X.fn.results = #[.cell t ty]) (hu : ∃ fs, X.P.underlying ty = some (.struct fs)) (ht : TI X.P ty z cs.length nb)
    (hv : env.look t = some (.pointer (some ⟨b, 0, none⟩))) (hb : Has L (BlkR b bt cs)) (fin : ∀ w O, Stars L w O → X.R (.agg cs.toArray) w O) (hrd : X.rd = none := by rfl) (hdf : X.defs = [] := by rfl) : Cfg X (.code .ret :: k) env L :=
  c_ret_any (fun a w O ha hs _ => by
    obtain ⟨_, fz, hh⟩ := hb w O hs
    obtain ⟨ti, hi, _, hsz, _⟩ := ht
    exact ⟨_, results_cell h (ha.look t _ hv) (run_loadAgg hu hi hsz fun j u hj => by rw [add_off, blk_cell hh]; simpa using hj), fin w O hs⟩) hf hrd hdf fun _ _ _ _ _ hb => steps_ret hb
end Go.SL
namespace Go.SL
open Go
theorem Beside.rd {α : Type} {e : Enc α} {cs : List Value} {z : α} {L : List A} (h : ∀ w O, e.rd w O cs z) : Beside (Rd e cs z) L := Beside.pure fun w => h w _
/-! ### encodings of known cells -/
def PEnc {α : Type} (e : Enc α) (f : α → List Value) : Prop := ∀ w O cs x, e.rd w O cs x → cs = f x
theorem PEnc.int (k : IntKind) : PEnc (eInt k) fun x => [.int k x] := fun _ _ _ _ h => h
theorem PEnc.bool : PEnc eBool fun x => [.bool x] := fun _ _ _ _ h => h
theorem PEnc.str : PEnc eStr fun x => [.string x] := fun _ _ _ _ h => h
theorem PEnc.byte : PEnc eByte fun x => [.int .u8 x.toNat] := fun _ _ _ _ h => h
theorem PEnc.raw : PEnc eRaw fun x => [x] := fun _ _ _ _ h => h.1
theorem PEnc.pair {α β : Type} {e : Enc α} {f : Enc β} {g : α → List Value} {k : β → List Value} (h1 : PEnc e g) (h2 : PEnc f k) : PEnc (ePair e f) fun x => g x.1 ++ k x.2 := fun _ _ _ _ ⟨_, _, h0, a, b⟩ => by rw [h0, h1 _ _ _ _ a, h2 _ _ _ _ b]
theorem PEnc.map {α β : Type} {g : α → β} {e : Enc β} {f : β → List Value} (h : PEnc e f) : PEnc (eMap g e) fun x => f (g x) := fun _ _ _ _ k => h _ _ _ _ k
theorem kInt_sc : ∀ a : Int, (∃ n j, kInt.val a = .int j n) ∨ ∃ s, kInt.val a = .string s := fun a => .inl ⟨a, .i64, rfl⟩
theorem kStr_sc : ∀ a : ByteArray, (∃ n j, kStr.val a = .int j n) ∨ ∃ s, kStr.val a = .string s := fun a => .inr ⟨a, rfl⟩
section
variable {K : Act → World → Prop} {X : Cx} {kk : List Item} {env : Env} {L L1 : List A} {d : Nat} {T : TypeId} {pos : String} {af : Array Edge} {x y : Operand} {α : Type} {e : Enc α} {v u : Value} {zs : List α} {E : TypeId}
/-- An element that is a struct of known cells. -/
theorem v_load_p {i : Nat} {z : α} {t : TypeId} {f : α → List Value} {z0 : Value} {bt : Nat} (hf : PEnc e f) (ht : ∃ fs, X.P.underlying t = some (.struct fs)) (hE : TI X.P t z0 e.n bt) (hx : env.eval x = some (.pointer (some (elemAddr v i e.n))))
    (he : Elem L e v i z) : Val X env L (.load t x) T (.agg (f z).toArray) := by
  intro _ _ _ _ a w O ha hst
  obtain ⟨c, hs, _, hc⟩ := he w O hst
  obtain ⟨O1, O2, s, h, _⟩ := hs
  have hl : c.length = e.n := e.len h
  have hcf : c = f z := hf _ _ _ _ h
  obtain ⟨ti, hi, _, hsz, _⟩ := hE
  have hca : CellsAt w (elemAddr v i e.n) c := fun j u hj => by
    have := hc j u hj
    have hsp : (elemAddr v i e.n).spot = none := by unfold elemAddr; split <;> rfl
    unfold Addr.add
    split
    · rename_i h0
      subst h0
      cases hh : elemAddr v i e.n
      rw [hh] at hsp this
      simp only at hsp this
      rw [hsp]; simpa using this
    · exact this
  have := run_loadAgg ht hi (by rw [hsz, hl]) hca
  simp [execOp, ha.eval hx, Instr.loadAt, Instr.sureAddr, this, hcf]
/-- A struct in a block of its own is read. -/
theorem v_load_all {t : TypeId} {b n : Nat} {bt : TypeId} {cs : List Value} {z0 : Value} {nb : Nat} (ht : ∃ fs, X.P.underlying t = some (.struct fs)) (hE : TI X.P t z0 n nb) (hx : env.eval x = some (.pointer (some ⟨b, 0, none⟩)))
    (hb : Has L (BlkR b bt cs)) (hn : cs.length = n) : Val X env L (.load t x) T (.agg cs.toArray) := by
  have := v_load_blk_agg (X := X) (env := env) (L := L) (T := T) (off := 0) ht hE hx hb (by omega)
  rw [List.drop_zero, List.take_of_length_le (by omega)] at this
  exact this
/-- A struct in a block of its own is written. -/
theorem s_store_all {t : TypeId} {b n : Nat} {bt : TypeId} {cs new : List Value} {z : Value} {nb : Nat} (ht : TI X.P t z n nb) (hx : env.eval x = some (.pointer (some ⟨b, 0, none⟩))) (hy : env.eval y = some u) (hc : CellsV L u new) (h1 : OneAll L new) (hn : new.length = n)
    (hp : Pick (Blk b bt cs) L L1) (hl : cs.length = n) (k : Kont X env (Blk b bt new :: L1) K) : StepK X kk ⟨none, .store t x y, T, pos, af, none⟩ env L K :=
  s_store_cells ht hx hy hc h1 hn hp (by omega) (by rw [List.take_zero, List.nil_append, List.drop_of_length_le (by omega), List.append_nil]) k
/-- A cell of a block is written. -/
theorem s_store1 {t : TypeId} {b off : Nat} {bt : TypeId} {cs cs' : List Value} {z : Value} {nb : Nat} (ht : TI X.P t z 1 nb) (hx : env.eval x = some (.pointer (some ⟨b, off, none⟩))) (hy : env.eval y = some u) (h1 : OneC L u)
    (hp : Pick (Blk b bt cs) L L1) (hlt : off < cs.length) (hset : cs.set off u = cs') (k : Kont X env (Blk b bt cs' :: L1) K) : StepK X kk ⟨none, .store t x y, T, pos, af, none⟩ env L K := by
  intro a w O ha hst hrel
  exact s_store ht hx hy (h1 w O hst) hp hlt hset k a w O ha hst hrel
theorem v_buildS {t : TypeId} {fs : Array Field} {ps : List (Nat × Operand)} {vs : List (Nat × Value)} {css : List (Nat × List Value)} {cells : List Value} {places : List (Nat × Nat)} {z : Value} {n nb : Nat} (hu : X.P.underlying t = some (.struct fs)) (hz : TI X.P t z n nb)
    (hpl : fs.toList.mapM (fun f => (X.P.info? f.type).map fun i => (f.offset, i.size)) = some places) (hp : evalP env ps = some vs) (hc : PartsC L vs css) (hb : fillC (places.toArray[·]?) z.cells.toList css = some cells) : Val X env L (.build t ps.toArray) T (.agg cells.toArray) := by
  refine v_build hp hc ?_
  obtain ⟨i, hi, hz0, _⟩ := hz
  unfold builtC
  rw [hi, hu]
  simp only [hz0, hpl]
  exact hb
end
end Go.SL
namespace Go.SL
open Go
/-! ### fields of elements -/
/-- Cell j of what reads as x is g x. -/
def FldS {α : Type} (e : Enc α) (j : Nat) (g : α → Value) : Prop := ∀ w O cs x, e.rd w O cs x → cs[j]? = some (g x)
theorem FldS.int (k : IntKind) : FldS (eInt k) 0 (.int k) := fun _ _ _ _ h => by rw [show _ = _ from h]; rfl
theorem FldS.bool : FldS eBool 0 .bool := fun _ _ _ _ h => by rw [show _ = _ from h]; rfl
theorem FldS.str : FldS eStr 0 .string := fun _ _ _ _ h => by rw [show _ = _ from h]; rfl
theorem FldS.raw : FldS eRaw 0 fun x => x := fun _ _ _ _ h => by rw [h.1]; rfl
theorem FldS.map {α β : Type} {f : α → β} {e : Enc β} {j : Nat} {g : β → Value} (h : FldS e j g) : FldS (eMap f e) j fun x => g (f x) := fun _ _ _ _ k => h _ _ _ _ k
theorem FldS.fst {α β : Type} {e : Enc α} {f : Enc β} {j : Nat} {g : α → Value} (h : FldS e j g) : FldS (ePair e f) j fun x => g x.1 := fun w O cs x ⟨c1, c2, h0, h1, h2⟩ => by
  have := h w O c1 x.1 h1
  rw [h0, List.getElem?_append_left (cell_in this), this]
theorem FldS.snd {α β : Type} {e : Enc α} {f : Enc β} {j k : Nat} {g : β → Value} (hj : k = e.n + j) (h : FldS f j g) : FldS (ePair e f) k fun x => g x.2 := fun w O cs x ⟨c1, c2, h0, h1, h2⟩ => by
  have := h w O c2 x.2 h2
  rw [hj, h0, ← e.len h1, List.getElem?_append_right (by omega), Nat.add_sub_cancel_left, this]
/-- Cell j of what reads as x is a slice that reads as g x. -/
def FldL {α β : Type} (e : Enc α) (j : Nat) (e' : Enc β) (g : α → List β) : Prop := ∀ w O cs x, e.rd w O cs x → ∃ v, cs[j]? = some v ∧ SlP e' w O v (g x)
theorem FldL.sl {β : Type} {e' : Enc β} : FldL (eSl e') 0 e' fun x => x := fun _ _ _ _ ⟨v, h, h1⟩ => ⟨v, by rw [h]; rfl, h1⟩
theorem FldL.map {α β γ : Type} {f : α → β} {e : Enc β} {e' : Enc γ} {j : Nat} {g : β → List γ} (h : FldL e j e' g) : FldL (eMap f e) j e' fun x => g (f x) := fun _ _ _ _ k => h _ _ _ _ k
theorem FldL.fst {α β γ : Type} {e : Enc α} {f : Enc β} {e' : Enc γ} {j : Nat} {g : α → List γ} (h : FldL e j e' g) : FldL (ePair e f) j e' fun x => g x.1 := fun w O cs x ⟨c1, c2, h0, h1, h2⟩ => by
  obtain ⟨v, hv, hs⟩ := h w O c1 x.1 h1
  exact ⟨v, by rw [h0, List.getElem?_append_left (cell_in hv), hv], hs⟩
theorem FldL.snd {α β γ : Type} {e : Enc α} {f : Enc β} {e' : Enc γ} {j k : Nat} {g : β → List γ} (hj : k = e.n + j) (h : FldL f j e' g) : FldL (ePair e f) k e' fun x => g x.2 := fun w O cs x ⟨c1, c2, h0, h1, h2⟩ => by
  obtain ⟨v, hv, hs⟩ := h w O c2 x.2 h2
  exact ⟨v, by rw [hj, h0, ← e.len h1, List.getElem?_append_right (by omega), Nat.add_sub_cancel_left, hv], hs⟩
section
variable {K : Act → World → Prop} {X : Cx} {ops : Array Oper} {rest : List Oper} {k kk : List Item} {env : Env} {L L1 : List A} {d : Nat} {T : TypeId} {pos : String} {af : Array Edge} {x y : Operand} {α β : Type} {e : Enc α} {e' : Enc β} {v u : Value} {zs : List α} {E : TypeId}
theorem elem_add (v : Value) (i n off : Nat) : (elemAddr v i n).add off = ⟨(elemAddr v i n).block, (elemAddr v i n).off + off, none⟩ := by
  have hsp : (elemAddr v i n).spot = none := by unfold elemAddr; split <;> rfl
  unfold Addr.add
  split
  · rename_i h0
    subst h0
    cases hh : elemAddr v i n
    rw [hh] at hsp; simp only at hsp; rw [hsp]; simp
  · rfl
theorem v_load_fld {i off : Nat} {z : α} {t : TypeId} {g : α → Value} (ht : Lone X.P t) (hx : env.eval x = some (.pointer (some ((elemAddr v i e.n).add off)))) (he : Elem L e v i z) (hf : FldS e off g) : Val X env L (.load t x) T (g z) := by
  intro _ _ _ _ a w O ha hst
  obtain ⟨c, hs, _, hc⟩ := he w O hst
  obtain ⟨O1, O2, s, h, _⟩ := hs
  have hcell := hc off _ (hf _ _ _ _ h)
  rw [elem_add] at hx
  simp [execOp, ha.eval hx, Instr.loadAt, Instr.sureAddr, run_loadLone ht hcell]
/-- A field of an element that is a slice. -/
theorem s_load_fldl {i off : Nat} {z : α} {t : TypeId} {g : α → List β} (ht : Lone X.P t) (hx : env.eval x = some (.pointer (some ((elemAddr v i e.n).add off)))) (hd : d < X.fn.ntmps) (he : Elem L e v i z) (hf : FldL e off e' g)
    (k : ∀ u, Kont X ((d, u) :: env) (Sl e' u (g z) :: L) K) : StepK X kk ⟨some d, .load t x, T, pos, af, none⟩ env L K := by
  refine s_main (γ := Value) (V := fun u => u) (pu := fun _ => True) (L' := fun u => Sl e' u (g z) :: L) ?_ hd (fun u _ => k u)
  intro a w O ha hst hdom
  obtain ⟨c, hs, _, hc⟩ := he w O hst
  obtain ⟨O1, O2, s, h, h2⟩ := hs
  obtain ⟨u, hu, hsl⟩ := hf _ _ _ _ h
  have hcell := hc off u hu
  rw [elem_add] at hx
  exact ⟨u, w, O, by simp [execOp, ha.eval hx, Instr.loadAt, Instr.sureAddr, run_loadLone ht hcell], trivial, ⟨O1, O2, s, hsl, h2⟩, Rel.refl hdom⟩
/-- An element that is read as cells, which read as it. -/
theorem s_load_rd {i : Nat} {z : α} {t : TypeId} {z0 : Value} {bt : Nat} (ht : ∃ fs, X.P.underlying t = some (.struct fs)) (hE : TI X.P t z0 e.n bt) (hx : env.eval x = some (.pointer (some (elemAddr v i e.n)))) (hd : d < X.fn.ntmps)
    (he : Elem L e v i z) (k : ∀ c : List Value, c.length = e.n → Kont X ((d, .agg c.toArray) :: env) (Rd e c z :: L) K) : StepK X kk ⟨some d, .load t x, T, pos, af, none⟩ env L K :=
  s_load_agg ht hE hx hd he fun c a w O ha hs hr => k c (e.len (show e.rd w O c z from Has.here w O hs)) a w O ha hs hr

/-- A cell that may be read. -/
def FldCell (p : Addr) (u : Value) : A where
  h := fun w O => 1 ≤ O p.block ∧ w.cell? p = some u
  mono := fun ⟨h1, h2⟩ hO => ⟨Nat.le_trans h1 (hO _), h2⟩
  loc := fun {w w' O} ⟨h1, h2⟩ hw => ⟨h1, by
    have := hw p.block (by omega)
    obtain ⟨b, off, sp⟩ := p
    simp only [World.cell?] at h2 ⊢
    simp only at this
    rw [this]; exact h2⟩
theorem FldCell.isDup (p : Addr) (u : Value) : (FldCell p u).Dup := fun _ _ ⟨h1, h2⟩ => ⟨by show 1 ≤ min _ 1; omega, h2⟩
theorem open_fldl {i off : Nat} {z : α} {g : α → List β} (hp : Pick (Sl e v zs) L L1) (hf : FldL e off e' g) (hz : zs[i]? = some z) : Ent L ((ExA fun u => AllA [FldCell ((elemAddr v i e.n).add off) u, Sl e' u (g z)]) :: Sl e v zs :: L1) := by
  intro w O hs
  obtain ⟨O1, O2, s, h1, h2⟩ := hp w O hs
  have hd := SlP.dup h1
  obtain ⟨c, hc, hb, hcell⟩ := SlP.elem hd hz
  obtain ⟨u, hu, hsl⟩ := hf _ _ _ _ hc
  refine Lend.pick (L' := L1) Pick.here (b := ExA fun u => AllA [FldCell ((elemAddr v i e.n).add off) u, Sl e' u (g z)]) (fun w0 O0 h0 => ?_) w O ⟨O1, O2, s, h1, h2⟩
  have hd := SlP.dup h0
  obtain ⟨c, hc, hb, hcell⟩ := SlP.elem hd hz
  obtain ⟨u, hu, hsl⟩ := hf _ _ _ _ hc
  have nn : ∀ b, ¬ 2 ≤ min (O0 b) 1 := fun b h => by have := Nat.min_le_right (O0 b) 1; omega
  refine ⟨fun b => min (O0 b) 1, fun b => min (O0 b) 1, ⟨fun b => Nat.min_le_left _ _, fun b => Nat.min_le_left _ _, fun b h => absurd h (nn b), fun b h => absurd h (nn b)⟩, hd, ⟨u, fun b => min (O0 b) 1, fun b => min (O0 b) 1, ⟨fun _ => Nat.le_refl _, fun _ => Nat.le_refl _, fun b h => absurd h (nn b), fun b h => absurd h (nn b)⟩, ?_, fun b => min (O0 b) 1, fun _ => 0, ⟨fun _ => Nat.le_refl _, fun _ => Nat.zero_le _, fun _ _ => rfl, fun _ h => by omega⟩, hsl, trivial⟩, fun b => Nat.min_le_right _ _⟩
  rw [elem_add]
  exact ⟨hb, hcell off u hu⟩
theorem c_open_fldl {i off : Nat} {z : α} {g : α → List β} (hp : Pick (Sl e v zs) L L1) (hz : zs[i]? = some z) (hf : FldL e off e' g) (h : ∀ u, Cfg X k env (FldCell ((elemAddr v i e.n).add off) u :: Sl e' u (g z) :: Sl e v zs :: L1)) : Cfg X k env L := by
  refine c_ent (open_fldl hp hf hz) (c_ex fun u => c_ent ?_ (h u))
  intro w O hs
  exact stars_join hs
theorem v_load_cell {t : TypeId} {p : Addr} (ht : Lone X.P t) (hx : env.eval x = some (.pointer (some p))) (hh : Has L (FldCell p u)) : Val X env L (.load t x) T u := by
  intro _ _ _ _ a w O ha hst
  simp [execOp, ha.eval hx, Instr.loadAt, Instr.sureAddr, run_loadLone ht (hh w O hst).2]

/-- An element whose cells have a known shape. -/
theorem s_load_shape {i : Nat} {z : α} {t : TypeId} {z0 : Value} {bt : Nat} {γ : Type} {cf : γ → List Value} {Lf : γ → List A} (ht : ∃ fs, X.P.underlying t = some (.struct fs)) (hE : TI X.P t z0 e.n bt) (hx : env.eval x = some (.pointer (some (elemAddr v i e.n)))) (hd : d < X.fn.ntmps)
    (he : Elem L e v i z) (ho : ∀ w O c, e.rd w O c z → ∃ g, c = cf g ∧ Stars (Lf g) w O) (k : ∀ g, Kont X ((d, .agg (cf g).toArray) :: env) (Lf g ++ L) K) : StepK X kk ⟨some d, .load t x, T, pos, af, none⟩ env L K := by
  refine s_main (γ := γ) (V := fun g => .agg (cf g).toArray) (pu := fun _ => True) (L' := fun g => Lf g ++ L) ?_ hd (fun u _ => k u)
  intro a w O ha hst hdom
  obtain ⟨c, hs, _, hc⟩ := he w O hst
  obtain ⟨O1, O2, s, h, h2⟩ := hs
  have hl : c.length = e.n := e.len h
  obtain ⟨g, rfl, hg⟩ := ho _ _ _ h
  obtain ⟨ti, hi, _, hsz, _⟩ := hE
  have hca : CellsAt w (elemAddr v i e.n) (cf g) := fun j u hj => by
    have := hc j u hj
    rw [elem_add]
    exact this
  have := run_loadAgg ht hi (by rw [hsz, hl]) hca
  exact ⟨g, w, O, by simp [execOp, ha.eval hx, Instr.loadAt, Instr.sureAddr, this], trivial, Stars.app s hg h2, Rel.refl hdom⟩
theorem beside_of {Lp : List A} {cs : List Value} {z : α} (hp : Picks Lp L L) (h : ∀ w O, Stars Lp w O → e.rd w O cs z) : Beside (Rd e cs z) L := fun w O hs => by
  obtain ⟨O1, O2, s, h1, h2⟩ := hp.split w O hs
  exact ⟨O1, O2, s, h w O1 h1, h2⟩
theorem beside_agg1 {cs : List Value} {z : α} (h : Beside (Rd e cs z) L) : Beside (RowsA e [.agg cs.toArray] [z]) L := fun w O hs => by
  obtain ⟨O1, O2, s, h1, h2⟩ := h w O hs
  have h1' : e.rd w O1 cs z := h1
  refine ⟨O1, O2, s, ⟨⟨cs, [], by simp [Value.cells], h1', rfl⟩, fun v hv => ?_⟩, h2⟩
  rw [List.mem_singleton.1 hv]
  simpa [Value.cells] using e.len h1'

theorem v_fieldAddrC {t ft : TypeId} {fs : Array Field} {i : Nat} {p : Addr} {z : Value} {n bt : Nat} (off : Nat) (hu : X.P.underlying t = some (.struct fs)) (hf : (fs[i]?).map (fun f => (f.offset, f.type)) = some (off, ft)) (ht : TI X.P ft z n bt) (hn : n ≠ 0)
    (hx : env.eval x = some (.pointer (some p))) : Val X env L (.fieldAddr t x i) T (.pointer (some (p.add off))) := by
  cases hfi : fs[i]? with
  | none => rw [hfi] at hf; cases hf
  | some f =>
    rw [hfi] at hf
    simp only [Option.map_some, Option.some.injEq, Prod.mk.injEq] at hf
    rw [← hf.1]
    exact v_fieldAddr hu hfi (by rw [hf.2]; exact ht) hn hx

/-- A guard that was itself passed over. -/
theorem o_offu {j s : Nat} {want : Bool} {d : Nat} {op : Op} {af : Array Edge} (hj : (ops[j]?).bind (·.dst) = some s) (ht : env.look s = some undef) (hd : d < X.fn.ntmps)
    (h : Ops X ops rest kk ((d, undef) :: env) L) : Ops X ops (⟨some d, op, T, pos, af, some (j, want)⟩ :: rest) kk env L := by
  intro a w O ha hs hr
  have hy1 : yielded ops a.tmps j = none := by simp [yielded, hj, ha.look s _ ht, undef]
  have hw : ((none : Option Bool) == some want) = false := rfl
  simp only [wpl, Region.wanted, hy1, hw, Bool.false_eq_true, if_false]
  exact h _ w O (ha.put hd _) hs hr
theorem q_offu {j s : Nat} {want : Bool} {d : Nat} {op : Op} {af : Array Edge} (hj : (ops[j]?).bind (·.dst) = some s) (ht : env.look s = some undef) (hd : d < X.fn.ntmps)
    (h : Qops X ops rest kk ((d, undef) :: env) L) : Qops X ops (⟨some d, op, T, pos, af, some (j, want)⟩ :: rest) kk env L := by
  intro a ha
  have hy1 : yielded ops a.tmps j = none := by simp [yielded, hj, ha.look s _ ht, undef]
  have hw : ((none : Option Bool) == some want) = false := rfl
  simp only [wpQuiet, Region.wanted, hy1, hw, Bool.false_eq_true, if_false]
  exact h _ (ha.put hd _)

theorem Con.post {P : Program} {f : FuncId} {args : List Value} {L : List A} {γ : Type} {ret : γ → Value} {pu : γ → Prop} {L' L'' : γ → List A} (h : Con P f args L ret pu L') (he : ∀ g, Ent (L' g) (L'' g)) : Con P f args L ret pu L'' := fun w O hs hd =>
  (h w O hs hd).mono fun _ _ ⟨g, O', h1, h2, h3, h4⟩ => ⟨g, O', h1, h2, he g _ _ h3, h4⟩
theorem ent_own_sl {T : TypeId} : Ent (Own e T v zs :: L) (Sl e v zs :: L) := Ent.head fun _ _ h => Own.sl h

theorem list_set_mid {β : Type} (l : List β) (a n off : Nat) (u : β) (hoff : off < n) (hl : a + n ≤ l.length) : l.take a ++ ((l.drop a).take n).set off u ++ l.drop (a + n) = l.set (a + off) u := by
  have e1 : l = l.take a ++ ((l.drop a).take n ++ l.drop (a + n)) := by
    rw [← List.drop_drop, List.take_append_drop, List.take_append_drop]
  have h1 : (l.take a).length = a := by simp; omega
  have h2 : ((l.drop a).take n).length = n := by simp; omega
  conv => rhs; rw [e1]
  rw [List.set_append_right _ _ (by omega), h1, Nat.add_sub_cancel_left, List.set_append_left _ _ (by omega), List.append_assoc]
/-- A field of an element of a row of one's own is written. -/
theorem s_store_fld {t : TypeId} {i off : Nat} {z' : α} {Lu : List A} {z0 : Value} {nb : Nat} (ht : TI X.P t z0 1 nb) (hx : env.eval x = some (.pointer (some ((elemAddr v i e.n).add off)))) (hy : env.eval y = some u) (h1 : OneC L u)
    (hp : Pick (Own e E v zs) L L1) (hq : Picks Lu L1 L1) (hi : i < zs.length) (hoff : off < e.n) (hz : ∀ w O c, e.rd w O c (zs[i]'hi) → Stars Lu w O → e.rd w O (c.set off u) z')
    (k : Kont X env (Own e E v (zs.set i z') :: L1) K) : StepK X kk ⟨none, .store t x y, T, pos, af, none⟩ env L K := by
  refine s_skip (γ := Unit) (pu := fun _ => True) (L' := fun _ => Own e E v (zs.set i z') :: L1) ?_ (fun _ _ => k)
  intro a w O ha hst hdom
  obtain ⟨O1, O2, s, hO, hs2⟩ := hp w O hst
  obtain ⟨R1, R2, s2, hu, hL⟩ := hq.split w O2 hs2
  have h1' := h1 w O hst
  obtain ⟨P1, P2, cs, t1, g1, g2, g3⟩ := hO
  obtain ⟨c, hc, hcj⟩ := g3.get (List.getElem?_eq_getElem hi)
  have hcl : c.length = e.n := e.len hc
  have hnew := hz w (fun b => max (P2 b) (R1 b)) c (e.mono hc fun b => Nat.le_max_left _ _) (hu.mono fun b => Nat.le_max_right _ _)
  have hr' : Rows e w (fun b => max (P2 b) (R1 b)) (c.set off u) [z'] := ⟨_, [], by simp, hnew, rfl⟩
  obtain ⟨g, cap, cur, rfl, hg, hfit, P, hP, hrel⟩ := own_put hdom s t1 g1 g2 g3 s2 hr' hL (i := i) (by simp; omega) (by omega)
  have hset : zs.take i ++ [z'] ++ zs.drop (i + 1) = zs.set i z' := by
    rw [List.set_eq_take_append_cons_drop, if_pos hi]; simp
  simp only [List.length_singleton, hset, List.length_set, hcl] at hP hrel hfit
  have hcc : c = (cur.toList.drop (i * e.n)).take e.n := by
    rcases g1.2 with ⟨h, _⟩ | ⟨g', cap', cur', hv, _, hg', hle, hmx, hsz, htk⟩
    · cases h
    · cases hv
      rw [hg] at hg'; cases hg'
      apply List.ext_getElem?
      intro j
      by_cases hj : j < e.n
      · have h2 := hcj j (c[j]'(by omega)) (List.getElem?_eq_getElem (by omega))
        rw [List.getElem?_eq_getElem (show j < c.length by omega), ← h2, ← htk]
        have h3 : i * e.n + j < zs.length * e.n := by
          have := Nat.mul_le_mul_right e.n (show i + 1 ≤ zs.length by omega)
          rw [Nat.add_mul] at this; omega
        rw [List.getElem?_take_of_lt h3, List.getElem?_take_of_lt hj, List.getElem?_drop]
      · rw [List.getElem?_eq_none (by omega), List.getElem?_take_eq_none (by omega)]
  have hmid := list_set_mid cur.toList (i * e.n) e.n off u hoff (by simpa using hfit)
  rw [← hcc] at hmid
  rw [hmid] at hP hrel
  have hrun := run_storeCells_at X.P g (i * e.n + off) E [u] 0 cur w hg (by simp only [List.length_singleton]; omega) (by intro v hv; rw [List.mem_singleton.1 hv]; exact h1')
  have hmid2 : cur.toList.take (i * e.n + off + 0) ++ [u] ++ cur.toList.drop (i * e.n + off + 0 + [u].length) = cur.toList.set (i * e.n + off) u := by
    rw [List.set_eq_take_append_cons_drop, if_pos (by simp; omega)]; simp
  rw [hmid2] at hrun
  refine ⟨(), _, P, ?_, trivial, hP, hrel⟩
  obtain ⟨ti, hti, _, hsz, _⟩ := ht
  rw [elem_add] at hx
  have hea : (elemAddr (.slice (some ⟨g, 0, none⟩) zs.length cap) i e.n).block = g ∧ (elemAddr (.slice (some ⟨g, 0, none⟩) zs.length cap) i e.n).off = i * e.n := by simp [elemAddr]
  rw [hea.1, hea.2] at hx
  have hcu : u.cells = #[u] := cells_one h1'
  simp [execOp, ha.eval hx, ha.eval hy, Instr.storeAt, Instr.sureAddr, storeVar, sizeOf, typeInfo, hti, hsz, hcu, hrun]

/-- append to an empty row. -/
theorem s_append_nil {L2 : List A} {ys : List α} {t : TypeId} {z : Value} {nb sz : Nat} (hu : X.P.underlying t = some (.slice E)) (hE : TI X.P E z sz nb) (hzs : z.cells.size = sz) (hn : 0 < sz)
    (hx : env.eval x = some v) (hy : env.eval y = some u) (hd : d < X.fn.ntmps) (hp : Pick (Own e E v []) L L1) (hq : Pick (Sl e u ys) L1 L2) (hsz0 : e.n = sz) (hb : ys.length * nb ≤ 140737488355328)
    (hb2 : ys.length ≤ maxLen)
    (k : ∀ v', Kont X ((d, v') :: env) (Own e E v' ys :: Sl e u ys :: L2) K) :
    StepK X kk ⟨some d, .call ⟨.builtin .append, #[x, y], #[t, t]⟩, T, pos, af, none⟩ env L K :=
  s_append hu hE hzs hn hx hy hd hp hq hsz0 (by simpa using hb) (by simpa using hb2) k

theorem c_pu {p : Prop} (ha : Has L (Pu p)) (h : p → Cfg X k env L) : Cfg X k env L := c_fact ha (fun _ _ h => h) h
theorem c_swap {a b : A} (h : Cfg X k env (b :: a :: L)) : Cfg X k env (a :: b :: L) := c_ent (Ent.perm (List.Perm.swap _ _ _)) h
theorem c_perm {L' : List A} (hp : L.Perm L') (h : Cfg X k env L') : Cfg X k env L := c_ent (Ent.perm hp) h
theorem Ent.pu {p : Prop} (h : p) : Ent L (Pu p :: L) := Ent.beside fun _ _ _ => h
theorem pu_has {p : Prop} {w : World} {O : Perm} (h : (Pu p).h w O) : p := h

theorem ent_all {l : List A} : Ent (l ++ L) (AllA l :: L) := fun _ _ hs => stars_split hs

theorem beside_pure {a : A} {cs : List Value} {z : α} (he : e.Pure) (hh : Has L a) (h : ∀ w O, a.h w O → e.rd w O cs z) : Beside (Rd e cs z) L := fun w O hs =>
  ⟨fun _ => 0, O, ⟨fun _ => Nat.zero_le _, fun _ => Nat.le_refl _, fun _ h => by omega, fun _ _ => rfl⟩, he _ _ _ _ _ _ (h w O (hh w O hs)), hs⟩

theorem Pick.of_ent {a : A} {az L' : List A} (h : Ent az [a]) (hp : Picks az L L') : Pick a L L' := fun w O hs => by
  obtain ⟨O1, O2, s, h1, h2⟩ := hp.split w O hs
  obtain ⟨P1, P2, t, g1, _⟩ := h w O1 h1
  exact ⟨O1, O2, s, a.mono g1 t.l, h2⟩
theorem c_mk {a : A} {az L' : List A} (h : Ent az [a]) (hp : Picks az L L') (hc : Cfg X k env (a :: L')) : Cfg X k env L := c_ent (Pick.of_ent h hp).ent hc
theorem o_mk {a : A} {az L' : List A} (h : Ent az [a]) (hp : Picks az L L') (hc : Ops X ops rest kk env (a :: L')) : Ops X ops rest kk env L := o_ent (Pick.of_ent h hp).ent hc
theorem stars_mk {a : A} {az L' : List A} {w : World} {O : Perm} (h : Ent az [a]) (hp : Picks az L L') (hs : Stars L w O) : Stars (a :: L') w O := (Pick.of_ent h hp).ent w O hs

theorem all_mk {l : List A} : Ent l [AllA l] := fun w O hs => by
  have := ent_all (l := l) (L := []) w O (by rw [List.append_nil]; exact hs)
  exact this
theorem o_all {As : List A} (h : Ops X ops rest kk env (As ++ L)) : Ops X ops rest kk env (AllA As :: L) := o_ent (fun _ _ hs => stars_join hs) h

/-! ### ways that meet again -/
theorem c_joinb {i : Item} {d : Nat} (b : Bool) (hk : Cfg X k ((d, .bool b) :: env) L) (h : Cfg X k ((d, .bool b) :: env) L → Cfg X (i :: k) env L) : Cfg X (i :: k) env L := h hk
theorem c_joinv {i : Item} {d : Nat} (v : Value) (hk : Cfg X k ((d, v) :: env) L) (h : Cfg X k ((d, v) :: env) L → Cfg X (i :: k) env L) : Cfg X (i :: k) env L := h hk
/-- Where ways meet again: V tells the slots that turn. -/
theorem c_joinR {γ : Type} {i : Item} (rest : Env) (J : γ → Prop) (V : γ → Env) (LL : γ → List A) (hE : Env.Le rest env) (hj : ∀ g, J g → Cfg X k (V g ++ rest) (LL g)) (h : (∀ g, J g → Cfg X k (V g ++ rest) (LL g)) → Cfg X (i :: k) env L) : Cfg X (i :: k) env L := h hj
theorem c_joinR2 {γ : Type} {i j : Item} (rest : Env) (J : γ → Prop) (V : γ → Env) (LL : γ → List A) (hE : Env.Le rest env) (hj : ∀ g, J g → Cfg X k (V g ++ rest) (LL g)) (h : (∀ g, J g → Cfg X k (V g ++ rest) (LL g)) → Cfg X (i :: j :: k) env L) : Cfg X (i :: j :: k) env L := h hj
/-- A loop: V tells the slots that turn; the others stay. -/
theorem c_loopV {c : Code} {γ : Type} (μ : γ → Nat) (J : γ → Prop) (V : γ → Env) (LL : γ → List A) (g : γ) (hJ : J g) (hE : Env.Le (V g ++ env) env) (hL : Ent L (LL g))
    (round : ∀ g, J g → (∀ g', μ g' < μ g → J g' → Cfg X (.inLoop c :: k) (V g' ++ env) (LL g')) → Cfg X (.code c :: .inLoop c :: k) (V g ++ env) (LL g)) : Cfg X (.code (.loop c) :: k) env L :=
  c_loop μ J (fun g => V g ++ env) LL g hJ hE hL round
theorem c_loopR {c : Code} {γ : Type} (rest : Env) (μ : γ → Nat) (J : γ → Prop) (V : γ → Env) (LL : γ → List A) (g : γ) (hJ : J g) (hE : Env.Le (V g ++ rest) env) (hL : Ent L (LL g))
    (round : ∀ g, J g → (∀ g', μ g' < μ g → J g' → Cfg X (.inLoop c :: k) (V g' ++ rest) (LL g')) → Cfg X (.code c :: .inLoop c :: k) (V g ++ rest) (LL g)) : Cfg X (.code (.loop c) :: k) env L :=
  c_loop μ J (fun g => V g ++ rest) LL g hJ hE hL round
theorem c_loopQ {c : Code} {γ : Type} (rest : Env) (μ : γ → Nat) (J : γ → Prop) (V : γ → Env) (g : γ) (hJ : J g) (hE : Env.Le (V g ++ rest) env)
    (round : ∀ g, J g → (∀ g', μ g' < μ g → J g' → Cfg X (.inLoop c :: k) (V g' ++ rest) L) → Cfg X (.code c :: .inLoop c :: k) (V g ++ rest) L) : Cfg X (.code (.loop c) :: k) env L :=
  c_loop μ J (fun g => V g ++ rest) (fun _ => L) g hJ hE (Ent.refl _) round
theorem c_loopS {c : Code} {γ : Type} (μ : γ → Nat) (J : γ → Prop) (V : γ → Env) (g : γ) (hJ : J g) (hE : Env.Le (V g ++ env) env)
    (round : ∀ g, J g → (∀ g', μ g' < μ g → J g' → Cfg X (.inLoop c :: k) (V g' ++ env) L) → Cfg X (.code c :: .inLoop c :: k) (V g ++ env) L) : Cfg X (.code (.loop c) :: k) env L :=
  c_loop μ J (fun g => V g ++ env) (fun _ => L) g hJ hE (Ent.refl _) round
end
end Go.SL
/- All of the engine. -/

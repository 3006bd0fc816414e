/- LockAlone: for every input it returns true, and its arguments read behind the call as before. -/
import Derived.Test.YtnamhhmfnokfiaaZZ7
import Derived.Test.YtnamhhmfnokfiaaRows
set_option linter.unusedVariables false
set_option linter.unusedSimpArgs false
/- LockAlone: one owner alone. -/
namespace Go.Proofs.Ytnamhhmfnokfiaa
open Go Go.SL
def stepM (n : ByteArray) (acc : Option Int) (o : Op12) : Option Int := if o.2.2.1 = n ∧ isM o.2.2.2 then some (match acc with | some x => bothL x o.2.2.2 | none => o.2.2.2) else acc
def wantR (l : List Op12) (n : ByteArray) : Option Int := l.foldl (stepM n) none
theorem step_pos {n : ByteArray} {o : Op12} (h : o.2.2.1 = n ∧ isM o.2.2.2) : stepM n none o = some o.2.2.2 ∧ ∀ x, stepM n (some x) o = some (bothL x o.2.2.2) := ⟨if_pos h, fun _ => if_pos h⟩
theorem want_next {l : List Op12} {k : Nat} (hk : k < l.length) (n : ByteArray) : wantR (l.take (k + 1)) n = stepM n (wantR (l.take k) n) l[k] := by
  unfold wantR
  rw [List.take_succ_eq_append_getElem hk, List.foldl_append]; rfl
theorem alone_ask {L : List Hs} (hL : ∀ x ∈ L, x.1 = 7) (n : ByteArray) (m : Int) :
    (∀ x ∈ (askR L [] 7 n m).1, x.1 = 7) ∧ (askR L [] 7 n m).2.1 = [] ∧ (askR L [] 7 n m).2.2.1 = decide (isM m) ∧ (askR L [] 7 n m).2.2.2 = (if isM m then 0 else 1)
      ∧ ∀ p, getR (askR L [] 7 n m).1 7 p = if n = p ∧ isM m then some (wishR L 7 n m).2.2 else getR L 7 p := by
  by_cases hm : isM m
  · have h1 : ¬ ((7 : Int) < 0 ∨ ¬ isM m) := fun h => h.elim (by decide) fun h => h hm
    unfold askR
    rw [if_neg h1, if_neg (by simp [waitR]), if_pos hm, decide_eq_true hm]
    split
    · rename_i hg
      refine ⟨hL, rfl, rfl, rfl, fun p => ?_⟩
      dsimp only
      split
      · rename_i hp; rw [← hp.1, hg]
      · rfl
    · have hmay : mayR L (wishR L 7 n m) = true := by
        cases hh : mayR L (wishR L 7 n m) with
        | true => rfl
        | false =>
          obtain ⟨x, hx, _, h2, _⟩ := mayR_false.1 hh
          exact absurd (hL x hx) h2
      rw [if_pos ⟨hmay, Or.inr rfl⟩]
      refine ⟨fun x hx => ?_, rfl, rfl, rfl, fun p => ?_⟩
      · rcases mem_gets.1 hx with h | h
        · exact hL x h.1
        · rw [h]; rfl
      · dsimp only
        rw [getR_gets]
        by_cases hp : n = p
        · rw [if_pos ⟨rfl, hp⟩, if_pos ⟨hp, hm⟩]
        · rw [if_neg fun h => hp h.2, if_neg fun h => hp h.1]
  · unfold askR
    rw [if_pos (Or.inr hm), if_neg hm, decide_eq_false hm]
    exact ⟨hL, rfl, rfl, rfl, fun p => by rw [if_neg fun h => hm h.2]⟩
theorem alone_step {L : List Hs} {l : List Op12} {k : Nat} (hk : k < l.length) (hg : ∀ n, getR L 7 n = wantR (l.take k) n) (hL : ∀ x ∈ L, x.1 = 7) (n : ByteArray) :
    getR (askR L [] 7 l[k].2.2.1 l[k].2.2.2).1 7 n = wantR (l.take (k + 1)) n := by
  rw [(alone_ask hL _ _).2.2.2.2 n, want_next hk]
  unfold stepM
  split
  · rename_i h
    rw [← hg n]
    unfold wishR
    rw [h.1]
    rfl
  · exact hg n
theorem alone_free {L : List Hs} (hL : ∀ x ∈ L, x.1 = 7) : freeR L [] 7 = ([], [], []) := by
  have : withoutR L 7 = [] := List.filter_eq_nil_iff.2 fun x hx => by simp [hL x hx]
  unfold freeR
  rw [this]; rfl
attribute [local irreducible] Cfg Kont StepK Val Con Qops Any Sl Own Blk BlkR Rd Pu ExA AllA Has Pick Ent Elem Beside Callable TI Lone OwnO AndA
set_option maxRecDepth 100000 in
theorem lockAlone_con (v : Value) (ss : List Op12) (hss : ss.length ≤ 8796093022207) :
    Con Try.prog 14 [v] [Sl eOp12 v ss] (γ := Unit) (fun _ => .bool true) (fun _ => True) (fun _ => []) := by
  refine con_of Try.func14 rfl (dd rfl) fun w0 O0 => ?_
  refine c_seq ?_
  refine c_region ?_
  refine o_val (v_assign rfl) (dd rfl) ?_
  refine o_nil ?_
  refine c_seq ?_
  refine c_seq ?_
  refine c_region ?_
  refine o_val (v_move rfl) (dd rfl) ?_
  refine o_step (s_callf_keep cl36 (few12_con v ss hss) rfl (dd rfl) (rX (by repeat constructor)) (fun _ => sX) (fun fw hfw => ?_))
  refine o_val (v_not rfl) (dd rfl) ?_
  refine o_nil ?_
  refine c_cond rfl (fun hf => ?_) (fun hf => ?_)
  · refine c_seq ?_
    refine c_region ?_
    refine o_step (s_callf_keep cl35 (alive12_con) rfl (dd rfl) (rX (by repeat constructor)) (fun _ => sX) (fun _ _ => ?_))
    refine o_val (v_assign rfl) (dd rfl) ?_
    refine o_nil ?_
    refine c_ret1 Try.func14 rfl rfl fun w O hS => ?_
    exact ⟨(), rfl, trivial, trivial⟩
  · have hs : ss.length ≤ 40 := hfw (by simpa using hf)
    refine c_skip ?_
    refine c_seq ?_
    refine c_region ?_
    refine o_step (s_alloc ti75 (dd rfl) (fun b3 => ?_))
    refine o_nil ?_
    refine c_seq ?_
    refine c_seq ?_
    refine c_region ?_
    refine o_val (v_move rfl) (dd rfl) ?_
    refine o_val ((by first | exact v_len_form Try.underlying69 rfl | exact v_len_sl Try.underlying69 rfl (hX (by repeat constructor)))) (dd rfl) ?_
    refine o_val (v_move rfl) (dd rfl) ?_
    refine o_nil ?_
    refine c_block ?_
    refine c_ent (L' := [Blk b3 75 [.map none, .map none], Sl eOp12 v ss]) (eX (by repeat constructor)) ?_
    refine c_ent tabR_new ?_
    refine c_loopR (γ := Nat × List Hs) [(0, _), (2, _), (3, _), (24, _), (25, _)] (fun g => ss.length - g.1) (fun g => g.1 ≤ ss.length ∧ (∀ x ∈ g.2, x.1 = 7) ∧ ∀ n, getR g.2 7 n = wantR (ss.take g.1) n) (fun g => [(26, .int .i64 g.1)]) (fun g => [TabR (2 * g.1) b3 g.2 [], Sl eOp12 v ss]) ((0, [])) (⟨Nat.zero_le _, (fun _ h => by cases h), fun _ => rfl⟩) (by repeat (first | exact trivial | refine ⟨rfl, ?_⟩)) (eX (by repeat constructor)) ?_
    rintro ⟨i, L⟩ ⟨hi, hL, hg⟩ IH
    dsimp only at hi hL hg ⊢
    try dsimp only [List.cons_append, List.nil_append]
    refine c_seq ?_
    refine c_region ?_
    refine o_val (v_lt rfl rfl) (dd rfl) ?_
    refine o_nil ?_
    refine c_seq ?_
    refine c_cond_p rfl (fun hlt => ?_) (fun hlt => ?_)
    · have hi' : i < ss.length := by omega
      obtain ⟨a1, a2, a3, a4, -⟩ := alone_ask hL (ss[i]'hi').2.2.1 (ss[i]'hi').2.2.2
      have a5 := alone_step hi' hg hL
      refine c_skip ?_
      refine c_seq ?_
      refine c_block ?_
      refine c_seq ?_
      refine c_region ?_
      refine o_val (v_move rfl) (dd rfl) ?_
      refine o_val ((by first | exact v_indexAddrN Try.underlying69 ti80 rfl rfl (hX (by repeat constructor)) (by omega) | exact v_indexAddr Try.underlying69 ti80 rfl rfl (hX (by repeat constructor)) (by omega))) (dd rfl) ?_
      refine o_val (v_load_p (by repeat (first | exact PEnc.int _ | exact PEnc.str | exact PEnc.bool | exact PEnc.byte | exact PEnc.raw | apply PEnc.pair | apply PEnc.map)) ⟨_, Try.underlying80⟩ ti80 rfl (by repeat (first|exact el1 (by omega)|exact el2 (by omega)|exact el3 (by omega)|apply Elem.there))) (dd rfl) ?_
      refine o_step (s_alloc ti80 (dd rfl) (fun b5 => ?_))
      refine o_val (v_assign rfl) (dd rfl) ?_
      refine o_step (s_store_all ti80 rfl rfl (by first | exact CellsV.lit rfl | exact CellsV.one (by first | exact OneC.lit rfl | exact OneC.sl (hX (by repeat constructor)) )) (by repeat (first | exact OneAll.nil | (refine OneAll.cons ?_ ?_; · first | exact OneC.lit rfl | exact OneC.sl (hX (by repeat constructor)) ) | exact OneAll.rd (hX (by repeat constructor)))) rfl (pB (by repeat constructor)) rfl (?_))
      refine o_nil ?_
      refine c_seq ?_
      refine c_region ?_
      refine o_val (v_fieldAddrC 2 Try.underlying80 rfl ti9 (by decide) rfl) (dd rfl) ?_
      refine o_val (v_load lone9 rfl (hX (by repeat constructor)) rfl) (dd rfl) ?_
      refine o_val (v_fieldAddrC 3 Try.underlying80 rfl ti3 (by decide) rfl) (dd rfl) ?_
      refine o_val (v_load lone3 rfl (hX (by repeat constructor)) rfl) (dd rfl) ?_
      refine o_step (s_callf cl46 (askRt_con (2 * i) b3 L [] 7 (ss[i]'hi').2.2.1 (ss[i]'hi').2.2.2 (by omega)) rfl (dd rfl) (pXs (by repeat constructor)) fun _ _ => ?_)
      refine o_val (v_move rfl) (dd rfl) ?_
      refine o_val (v_extract rfl rfl) (dd rfl) ?_
      refine o_val (v_extract rfl rfl) (dd rfl) ?_
      refine o_val (v_assign rfl) (dd rfl) ?_
      refine o_val (v_assign rfl) (dd rfl) ?_
      refine o_nil ?_
      refine c_seq ?_
      rw [a2, a3, a4]
      have hnx : ∀ n, getR (askR L [] 7 (ss[i]'hi').2.2.1 (ss[i]'hi').2.2.2).1 7 n = wantR (ss.take (i + 1)) n := a5
      generalize (askR L [] 7 (ss[i]'hi').2.2.1 (ss[i]'hi').2.2.2).1 = L1 at a1 hnx ⊢
      refine c_joinR (γ := Bool) [(0, _), (2, _), (3, _), (4, _), (5, _), (6, _), (7, _), (24, _), (25, _), (26, _), (27, _), (28, _), (29, _), (30, _), (31, _), (32, _), (33, _), (34, _), (35, _), (36, _), (37, _), (38, _)] (fun b => b = decide (isM (ss[i]'hi').2.2.2)) (fun b => [(8, .bool b)]) (fun _ => [Blk b5 80 [.int .i64 (ss[i]'hi').1, .int .i64 (ss[i]'hi').2.1, .string (ss[i]'hi').2.2.1, .int .i64 (ss[i]'hi').2.2.2], TabR (2 * i + 2) b3 L1 [], Sl eOp12 v ss]) (by repeat (first | exact trivial | refine ⟨rfl, ?_⟩)) ?_ ?_
      · rintro b rfl
        dsimp only [List.cons_append, List.nil_append]
        refine c_seq ?_
        refine c_seq ?_
        refine c_env (env' := [(0, _), (2, _), (3, _), (4, _), (5, _), (6, _), (7, _), (8, _), (24, _), (25, _), (26, _), (27, _), (28, _), (29, _), (30, _), (31, _), (32, _), (33, _), (34, _), (35, _), (36, _), (37, _), (38, _)]) (by repeat (first | exact trivial | refine ⟨rfl, ?_⟩)) ?_
        refine c_joinb (d := 55) (decide (False)) ?_ ?_
        rotate_left
        · intro J
          refine c_region ?_
          refine o_val (v_move rfl) (dd rfl) ?_
          refine o_val (v_move rfl) (dd rfl) ?_
          refine o_val (v_bne Try.underlying4 rfl rfl) (dd rfl) ?_
          refine o_val (v_move rfl) (dd rfl) ?_
          first | refine o_guard_f rfl rfl (fun g50 => ?_) (fun g50 => ?_) | refine o_guard rfl rfl (fun g50 => ?_) (fun g50 => ?_)
          · refine o_val (v_move rfl) (dd rfl) ?_
            refine o_on rfl rfl ?_
            refine o_val (v_move rfl) (dd rfl) ?_
            refine o_on rfl rfl ?_
            refine o_val (v_eq rfl rfl) (dd rfl) ?_
            refine o_on rfl rfl ?_
            refine o_val (v_bne Try.underlying4 rfl rfl) (dd rfl) ?_
            refine o_val (v_pick_f rfl rfl) (dd rfl) ?_
            refine o_nil ?_
            exact c_use J ⟨Env.as rfl (congrArg Value.bool (by by_cases hm : isM (ss[i]'hi').2.2.2 <;> first | rfl | (simp_all; done) | (simp_all; omega))), (by repeat (first | exact trivial | refine ⟨rfl, ?_⟩))⟩ (by first | exact Ent.refl _ | exact eX (by repeat constructor))
          · refine o_off rfl rfl rfl (dd rfl) ?_
            refine o_off rfl rfl rfl (dd rfl) ?_
            refine o_off rfl rfl rfl (dd rfl) ?_
            refine o_off rfl rfl rfl (dd rfl) ?_
            refine o_val (v_pick_t rfl rfl) (dd rfl) ?_
            refine o_nil ?_
            exact c_use J ⟨Env.as rfl (congrArg Value.bool (by by_cases hm : isM (ss[i]'hi').2.2.2 <;> first | rfl | (simp_all; done) | (simp_all; omega))), (by repeat (first | exact trivial | refine ⟨rfl, ?_⟩))⟩ (by first | exact Ent.refl _ | exact eX (by repeat constructor))
        refine c_cond_p rfl (fun hno => ?_) (fun hno => ?_)
        · exact hno.elim
        · skip
          refine c_skip ?_
          refine c_seq ?_
          refine c_region ?_
          refine o_val (v_assign rfl) (dd rfl) ?_
          refine o_val (v_assign rfl) (dd rfl) ?_
          refine o_nil ?_
          refine c_seq ?_
          refine c_seq ?_
          refine c_region ?_
          refine o_val (v_move rfl) (dd rfl) ?_
          refine o_val (v_move rfl) (dd rfl) ?_
          refine o_val ((by first | exact v_add64 rfl rfl (by omega) | exact v_add rfl rfl)) (dd rfl) ?_
          refine o_step (s_slice Try.underlying69 ti80 rfl (pX (by repeat constructor)) rfl (.inl ⟨rfl, rfl⟩) (.inr ⟨_, _, _, rfl, rfl, by omega, rfl⟩) (by omega) (by omega) (dd rfl) fun z => ?_)
          refine o_val ((by first | exact v_len_form Try.underlying69 rfl | exact v_len_sl Try.underlying69 rfl (hX (by repeat constructor)))) (dd rfl) ?_
          refine o_val (v_move rfl) (dd rfl) ?_
          refine o_nil ?_
          refine c_block ?_
          have hzl : (ss.take (i + 1)).length = i + 1 := by simp; omega
          have hzk : (List.drop 0 (List.take ((i : Int) + 1).toNat ss)).length = i + 1 := hzl
          refine c_loopR (γ := Nat × Option Int) [(0, _), (2, _), (3, _), (4, _), (5, _), (6, _), (7, _), (8, _), (24, _), (25, _), (26, _), (27, _), (28, _), (29, _), (30, _), (31, _), (32, _), (33, _), (34, _), (35, _), (36, _), (37, _), (38, _), (55, _), (56, _), (57, _), (58, _), (59, _), (60, _)] (fun g => i + 1 - g.1) (fun g => g.1 ≤ i + 1 ∧ g.2 = wantR (ss.take g.1) (ss[i]'hi').2.2.1) (fun g => [(61, .int .i64 g.1), (9, .int .i64 (g.2.getD 0)), (10, .bool g.2.isSome)]) (fun _ => [Sl eOp12 z (ss.take (i + 1)), Blk b5 80 [.int .i64 (ss[i]'hi').1, .int .i64 (ss[i]'hi').2.1, .string (ss[i]'hi').2.2.1, .int .i64 (ss[i]'hi').2.2.2], TabR (2 * i + 2) b3 L1 [], Sl eOp12 v ss]) ((0, none)) (⟨Nat.zero_le _, rfl⟩) (by repeat (first | exact trivial | refine ⟨rfl, ?_⟩)) (eX (by repeat constructor)) ?_
          rintro ⟨j, a⟩ ⟨hj, ha⟩ IH3
          dsimp only at hj ha ⊢
          try dsimp only [List.cons_append, List.nil_append]
          refine c_seq ?_
          refine c_region ?_
          refine o_val (v_lt rfl rfl) (dd rfl) ?_
          refine o_nil ?_
          refine c_seq ?_
          refine c_cond_p rfl (fun hlj => ?_) (fun hlj => ?_)
          · have hj' : j < (ss.take (i + 1)).length := by omega
            have hjs : j < ss.length := by omega
            have he : (ss.take (i + 1))[j]'hj' = ss[j]'hjs := List.getElem_take
            have hws := want_next hjs (ss[i]'hi').2.2.1
            rw [← ha] at hws
            refine c_skip ?_
            refine c_seq ?_
            refine c_block ?_
            refine c_seq ?_
            refine c_region ?_
            refine o_val ((by first | exact v_indexAddrN Try.underlying69 ti80 rfl rfl (hX (by repeat constructor)) (by omega) | exact v_indexAddr Try.underlying69 ti80 rfl rfl (hX (by repeat constructor)) (by omega))) (dd rfl) ?_
            refine o_val (v_load_p (by repeat (first | exact PEnc.int _ | exact PEnc.str | exact PEnc.bool | exact PEnc.byte | exact PEnc.raw | apply PEnc.pair | apply PEnc.map)) ⟨_, Try.underlying80⟩ ti80 rfl (by repeat (first|exact el1 (by omega)|exact el2 (by omega)|exact el3 (by omega)|apply Elem.there))) (dd rfl) ?_
            refine o_step (s_alloc ti80 (dd rfl) (fun b12 => ?_))
            refine o_step (s_store_all ti80 rfl rfl (by first | exact CellsV.lit rfl | exact CellsV.one (by first | exact OneC.lit rfl | exact OneC.sl (hX (by repeat constructor)) )) (by repeat (first | exact OneAll.nil | (refine OneAll.cons ?_ ?_; · first | exact OneC.lit rfl | exact OneC.sl (hX (by repeat constructor)) ) | exact OneAll.rd (hX (by repeat constructor)))) rfl (pB (by repeat constructor)) rfl (?_))
            refine o_nil ?_
            refine c_seq ?_
            rw [he]
            refine c_env (env' := [(0, _), (2, _), (3, _), (4, _), (5, _), (6, _), (7, _), (8, _), (9, _), (10, _), (12, _), (24, _), (25, _), (26, _), (27, _), (28, _), (29, _), (30, _), (31, _), (32, _), (33, _), (34, _), (35, _), (36, _), (37, _), (38, _), (55, _), (56, _), (57, _), (58, _), (59, _), (60, _), (61, _), (62, _), (63, _), (64, _)]) (by repeat (first | exact trivial | refine ⟨rfl, ?_⟩)) ?_
            refine c_joinb (d := 79) (decide ((ss[j]'hjs).2.2.1 = (ss[i]'hi').2.2.1 ∧ isM (ss[j]'hjs).2.2.2)) ?_ ?_
            rotate_left
            · intro J
              refine c_region ?_
              refine o_val (v_fieldAddrC 2 Try.underlying80 rfl ti9 (by decide) rfl) (dd rfl) ?_
              refine o_val (v_load lone9 rfl (hX (by repeat constructor)) rfl) (dd rfl) ?_
              refine o_val (v_fieldAddrC 2 Try.underlying80 rfl ti9 (by decide) rfl) (dd rfl) ?_
              refine o_val (v_load lone9 rfl (hX (by repeat constructor)) rfl) (dd rfl) ?_
              refine o_val (v_seq rfl rfl) (dd rfl) ?_
              refine o_val (v_move rfl) (dd rfl) ?_
              first | refine o_guard_t rfl rfl (fun g70 => ?_) (fun g70 => ?_) | refine o_guard rfl rfl (fun g70 => ?_) (fun g70 => ?_)
              · refine o_val (v_fieldAddrC 3 Try.underlying80 rfl ti3 (by decide) rfl) (dd rfl) ?_
                refine o_on rfl rfl ?_
                refine o_val (v_load lone3 rfl (hX (by repeat constructor)) rfl) (dd rfl) ?_
                refine o_on rfl rfl ?_
                refine o_val (v_ge rfl rfl) (dd rfl) ?_
                refine o_val (v_pick_t rfl rfl) (dd rfl) ?_
                refine o_val (v_move rfl) (dd rfl) ?_
                first | refine o_guard_t rfl rfl (fun g75 => ?_) (fun g75 => ?_) | refine o_guard rfl rfl (fun g75 => ?_) (fun g75 => ?_)
                · refine o_val (v_fieldAddrC 3 Try.underlying80 rfl ti3 (by decide) rfl) (dd rfl) ?_
                  refine o_on rfl rfl ?_
                  refine o_val (v_load lone3 rfl (hX (by repeat constructor)) rfl) (dd rfl) ?_
                  refine o_on rfl rfl ?_
                  refine o_val (v_le rfl rfl) (dd rfl) ?_
                  refine o_val (v_pick_t rfl rfl) (dd rfl) ?_
                  refine o_nil ?_
                  exact c_use J ⟨Env.as rfl (congrArg Value.bool (by clear IH IH3 hg hnx a5 hws ha a2 a3 a4 a1 hL hzl hzk; unfold isM; first | rfl | (simp_all; done) | (simp_all; omega))), (by repeat (first | exact trivial | refine ⟨rfl, ?_⟩))⟩ (by first | exact Ent.refl _ | exact eX (by repeat constructor))
                · refine o_off rfl rfl rfl (dd rfl) ?_
                  refine o_off rfl rfl rfl (dd rfl) ?_
                  refine o_off rfl rfl rfl (dd rfl) ?_
                  refine o_val (v_pick_f rfl rfl) (dd rfl) ?_
                  refine o_nil ?_
                  exact c_use J ⟨Env.as rfl (congrArg Value.bool (by clear IH IH3 hg hnx a5 hws ha a2 a3 a4 a1 hL hzl hzk; unfold isM; first | rfl | (simp_all; done) | (simp_all; omega))), (by repeat (first | exact trivial | refine ⟨rfl, ?_⟩))⟩ (by first | exact Ent.refl _ | exact eX (by repeat constructor))
              · refine o_off rfl rfl rfl (dd rfl) ?_
                refine o_off rfl rfl rfl (dd rfl) ?_
                refine o_off rfl rfl rfl (dd rfl) ?_
                refine o_val (v_pick_f rfl rfl) (dd rfl) ?_
                refine o_val (v_move rfl) (dd rfl) ?_
                refine o_off rfl rfl rfl (dd rfl) ?_
                refine o_off rfl rfl rfl (dd rfl) ?_
                refine o_off rfl rfl rfl (dd rfl) ?_
                refine o_val (v_pick_f rfl rfl) (dd rfl) ?_
                refine o_nil ?_
                exact c_use J ⟨Env.as rfl (congrArg Value.bool (by clear IH IH3 hg hnx a5 hws ha a2 a3 a4 a1 hL hzl hzk; unfold isM; first | rfl | (simp_all; done) | (simp_all; omega))), (by repeat (first | exact trivial | refine ⟨rfl, ?_⟩))⟩ (by first | exact Ent.refl _ | exact eX (by repeat constructor))
            refine c_cond_p rfl (fun hw => ?_) (fun hw => ?_)
            · have hsp := step_pos hw
              rcases a with _ | x
              · skip
                refine c_seq ?_
                refine c_region ?_
                refine o_val (v_move rfl) (dd rfl) ?_
                refine o_nil ?_
                refine c_cond_f rfl ?_
                refine c_region ?_
                refine o_val (v_fieldAddrC 3 Try.underlying80 rfl ti3 (by decide) rfl) (dd rfl) ?_
                refine o_val (v_load lone3 rfl (hX (by repeat constructor)) rfl) (dd rfl) ?_
                refine o_val (v_assign rfl) (dd rfl) ?_
                refine o_val (v_assign rfl) (dd rfl) ?_
                refine o_nil ?_
                refine c_inBlock ?_
                refine c_region ?_
                refine o_val ((by first | exact v_add64 rfl rfl (by omega) | exact v_add rfl rfl)) (dd rfl) ?_
                refine o_val (v_move rfl) (dd rfl) ?_
                refine o_nil ?_
                refine c_use (IH3 ((j + 1, some (ss[j]'hjs).2.2.2)) (by first | omega | (dsimp only; omega)) (⟨by dsimp only; omega, (hws.trans hsp.1).symm⟩)) (by repeat (first | exact trivial | refine ⟨rfl, ?_⟩)) (eX (by repeat constructor))
              · refine c_seq ?_
                refine c_region ?_
                refine o_val (v_move rfl) (dd rfl) ?_
                refine o_nil ?_
                refine c_cond_t rfl ?_
                refine c_region ?_
                refine o_val (v_move rfl) (dd rfl) ?_
                refine o_val (v_fieldAddrC 3 Try.underlying80 rfl ti3 (by decide) rfl) (dd rfl) ?_
                refine o_val (v_load lone3 rfl (hX (by repeat constructor)) rfl) (dd rfl) ?_
                refine o_step (s_callf_keep cl34 (refBoth_con _ _) rfl (dd rfl) (rX (by repeat constructor)) (fun _ => sX) (fun _ _ => ?_))
                refine o_val (v_assign rfl) (dd rfl) ?_
                refine o_nil ?_
                refine c_inBlock ?_
                refine c_region ?_
                refine o_val ((by first | exact v_add64 rfl rfl (by omega) | exact v_add rfl rfl)) (dd rfl) ?_
                refine o_val (v_move rfl) (dd rfl) ?_
                refine o_nil ?_
                refine c_use (IH3 ((j + 1, some (bothL x (ss[j]'hjs).2.2.2))) (by first | omega | (dsimp only; omega)) (⟨by dsimp only; omega, (hws.trans (hsp.2 x)).symm⟩)) (by repeat (first | exact trivial | refine ⟨rfl, ?_⟩)) (eX (by repeat constructor))
            · refine c_skip ?_
              refine c_inBlock ?_
              refine c_region ?_
              refine o_val ((by first | exact v_add64 rfl rfl (by omega) | exact v_add rfl rfl)) (dd rfl) ?_
              refine o_val (v_move rfl) (dd rfl) ?_
              refine o_nil ?_
              refine c_use (IH3 ((j + 1, a)) (by first | omega | (dsimp only; omega)) (⟨by dsimp only; omega, by dsimp only; rw [hws]; exact (if_neg hw).symm⟩)) (by repeat (first | exact trivial | refine ⟨rfl, ?_⟩)) (eX (by repeat constructor))
          · have hje : j = i + 1 := by omega
            refine c_exit rfl ?_
            refine c_seq ?_
            refine c_region ?_
            refine o_val (v_fieldAddrC 2 Try.underlying80 rfl ti9 (by decide) rfl) (dd rfl) ?_
            refine o_val (v_load lone9 rfl (hX (by repeat constructor)) rfl) (dd rfl) ?_
            refine o_step (s_callf cl40 (hasR_con (2 * i + 2) b3 L1 [] 7 (ss[i]'hi').2.2.1) rfl (dd rfl) (pXs (by repeat constructor)) fun _ _ => ?_)
            refine o_val (v_move rfl) (dd rfl) ?_
            refine o_val (v_extract rfl rfl) (dd rfl) ?_
            refine o_val (v_extract rfl rfl) (dd rfl) ?_
            refine o_val (v_assign rfl) (dd rfl) ?_
            refine o_val (v_assign rfl) (dd rfl) ?_
            refine o_nil ?_
            refine c_seq ?_
            rw [hnx, ← hje, ← ha]
            refine c_env (env' := [(0, _), (2, _), (3, _), (4, _), (5, _), (6, _), (7, _), (8, _), (9, _), (10, _), (13, _), (14, _), (24, _), (25, _), (26, _), (27, _), (28, _), (29, _), (30, _), (31, _), (32, _), (33, _), (34, _), (35, _), (36, _), (37, _), (38, _), (55, _), (56, _), (57, _), (58, _), (59, _), (60, _), (61, _), (62, _), (88, _), (89, _), (90, _), (91, _), (92, _), (93, _)]) (by repeat (first | exact trivial | refine ⟨rfl, ?_⟩)) ?_
            refine c_joinb (d := 104) (decide (False)) ?_ ?_
            rotate_left
            · intro J
              refine c_region ?_
              refine o_val (v_move rfl) (dd rfl) ?_
              refine o_val (v_move rfl) (dd rfl) ?_
              refine o_val (v_bne Try.underlying4 rfl rfl) (dd rfl) ?_
              refine o_val (v_move rfl) (dd rfl) ?_
              first | refine o_guard_f rfl rfl (fun g97 => ?_) (fun g97 => ?_) | refine o_guard rfl rfl (fun g97 => ?_) (fun g97 => ?_)
              · refine o_val (v_move rfl) (dd rfl) ?_
                refine o_on rfl rfl ?_
                refine o_val (v_move rfl) (dd rfl) ?_
                first | refine o_guard_t rfl rfl (fun g99 => ?_) (fun g99 => ?_) | refine o_guard rfl rfl (fun g99 => ?_) (fun g99 => ?_)
                · refine o_val (v_move rfl) (dd rfl) ?_
                  refine o_on rfl rfl ?_
                  refine o_val (v_move rfl) (dd rfl) ?_
                  refine o_on rfl rfl ?_
                  refine o_val (v_ne rfl rfl) (dd rfl) ?_
                  refine o_on rfl rfl ?_
                  refine o_val (v_pick_t rfl rfl) (dd rfl) ?_
                  refine o_val (v_pick_f rfl rfl) (dd rfl) ?_
                  refine o_nil ?_
                  exact c_use J ⟨Env.as rfl (congrArg Value.bool (by clear IH IH3 hg hnx a5 a2 a3 a4 a1 hL hzl hzk; cases a <;> first | rfl | (simp_all; done))), (by repeat (first | exact trivial | refine ⟨rfl, ?_⟩))⟩ (by first | exact Ent.refl _ | exact eX (by repeat constructor))
                · refine o_off rfl rfl rfl (dd rfl) ?_
                  refine o_off rfl rfl rfl (dd rfl) ?_
                  refine o_off rfl rfl rfl (dd rfl) ?_
                  refine o_on rfl rfl ?_
                  refine o_val (v_pick_f rfl rfl) (dd rfl) ?_
                  refine o_val (v_pick_f rfl rfl) (dd rfl) ?_
                  refine o_nil ?_
                  exact c_use J ⟨Env.as rfl (congrArg Value.bool (by clear IH IH3 hg hnx a5 a2 a3 a4 a1 hL hzl hzk; cases a <;> first | rfl | (simp_all; done))), (by repeat (first | exact trivial | refine ⟨rfl, ?_⟩))⟩ (by first | exact Ent.refl _ | exact eX (by repeat constructor))
              · refine o_off rfl rfl rfl (dd rfl) ?_
                refine o_off rfl rfl rfl (dd rfl) ?_
                refine o_offu rfl rfl (dd rfl) ?_
                refine o_offu rfl rfl (dd rfl) ?_
                refine o_offu rfl rfl (dd rfl) ?_
                refine o_off rfl rfl rfl (dd rfl) ?_
                refine o_val (v_pick_t rfl rfl) (dd rfl) ?_
                refine o_nil ?_
                exact c_use J ⟨Env.as rfl (congrArg Value.bool (by clear IH IH3 hg hnx a5 a2 a3 a4 a1 hL hzl hzk; cases a <;> first | rfl | (simp_all; done))), (by repeat (first | exact trivial | refine ⟨rfl, ?_⟩))⟩ (by first | exact Ent.refl _ | exact eX (by repeat constructor))
            refine c_cond_p rfl (fun hno => ?_) (fun hno => ?_)
            · exact hno.elim
            · skip
              refine c_skip ?_
              refine c_inBlock ?_
              refine c_region ?_
              refine o_val ((by first | exact v_add64 rfl rfl (by omega) | exact v_add rfl rfl)) (dd rfl) ?_
              refine o_val (v_move rfl) (dd rfl) ?_
              refine o_nil ?_
              refine c_use (IH ((i + 1, L1)) (by first | omega | (dsimp only; omega)) (⟨by dsimp only; omega, a1, hnx⟩)) (by repeat (first | exact trivial | refine ⟨rfl, ?_⟩)) (eX (by repeat constructor))
      · intro MEET
        skip
        refine c_region ?_
        refine o_val (v_fieldAddrC 3 Try.underlying80 rfl ti3 (by decide) rfl) (dd rfl) ?_
        refine o_val (v_load lone3 rfl (hX (by repeat constructor)) rfl) (dd rfl) ?_
        refine o_val (v_ge rfl rfl) (dd rfl) ?_
        refine o_val (v_move rfl) (dd rfl) ?_
        refine o_guard rfl rfl (fun g1 => ?_) (fun g1 => ?_)
        · refine o_val (v_fieldAddrC 3 Try.underlying80 rfl ti3 (by decide) rfl) (dd rfl) ?_
          refine o_on rfl rfl ?_
          refine o_val (v_load lone3 rfl (hX (by repeat constructor)) rfl) (dd rfl) ?_
          refine o_on rfl rfl ?_
          refine o_val (v_le rfl rfl) (dd rfl) ?_
          refine o_val (v_pick_t rfl rfl) (dd rfl) ?_
          refine o_val (v_assign rfl) (dd rfl) ?_
          refine o_nil ?_
          refine c_use (MEET (decide ((ss[i]'hi').2.2.2 ≤ 3)) (decide_eq_decide.2 ⟨fun h => ⟨of_decide_eq_true g1, h⟩, fun h => h.2⟩)) (by repeat (first | exact trivial | refine ⟨rfl, ?_⟩)) (eX (by repeat constructor))
        · refine o_off rfl rfl rfl (dd rfl) ?_
          refine o_off rfl rfl rfl (dd rfl) ?_
          refine o_off rfl rfl rfl (dd rfl) ?_
          refine o_val (v_pick_f rfl rfl) (dd rfl) ?_
          refine o_val (v_assign rfl) (dd rfl) ?_
          refine o_nil ?_
          refine c_use (MEET (false) ((decide_eq_false fun h => absurd h.1 (of_decide_eq_false g1)).symm)) (by repeat (first | exact trivial | refine ⟨rfl, ?_⟩)) (eX (by repeat constructor))
    · refine c_exit rfl ?_
      refine c_seq ?_
      refine c_region ?_
      refine o_step (s_callf cl45 (freeRt_con (2 * i) b3 L [] 7 (by omega)) rfl (dd rfl) (pXs (by repeat constructor)) fun fv _ => ?_)
      refine o_val (v_assign rfl) (dd rfl) ?_
      refine o_nil ?_
      refine c_seq ?_
      refine c_seq ?_
      refine c_region ?_
      refine o_val (v_move rfl) (dd rfl) ?_
      refine o_val ((by first | exact v_len_form Try.underlying69 rfl | exact v_len_sl Try.underlying69 rfl (hX (by repeat constructor)))) (dd rfl) ?_
      refine o_val (v_move rfl) (dd rfl) ?_
      refine o_nil ?_
      refine c_block ?_
      rw [alone_free hL]
      refine c_loopR (γ := Nat) [(2, _), (3, _), (15, _), (107, _), (108, _)] (fun j => ss.length - j) (fun j => j ≤ ss.length) (fun j => [(109, .int .i64 j)]) (fun _ => [Own (eInt .i64) 3 fv [], TabR (2 * i) b3 [] [], Sl eOp12 v ss]) (0) (Nat.zero_le _) (by repeat (first | exact trivial | refine ⟨rfl, ?_⟩)) (eX (by repeat constructor)) ?_
      rintro j hj IH2
      try dsimp only [List.cons_append, List.nil_append]
      refine c_seq ?_
      refine c_region ?_
      refine o_val (v_lt rfl rfl) (dd rfl) ?_
      refine o_nil ?_
      refine c_seq ?_
      refine c_cond_p rfl (fun hlj => ?_) (fun hlj => ?_)
      · have hj' : j < ss.length := by omega
        refine c_skip ?_
        refine c_seq ?_
        refine c_block ?_
        refine c_seq ?_
        refine c_region ?_
        refine o_val ((by first | exact v_indexAddrN Try.underlying69 ti80 rfl rfl (hX (by repeat constructor)) (by omega) | exact v_indexAddr Try.underlying69 ti80 rfl rfl (hX (by repeat constructor)) (by omega))) (dd rfl) ?_
        refine o_val (v_load_p (by repeat (first | exact PEnc.int _ | exact PEnc.str | exact PEnc.bool | exact PEnc.byte | exact PEnc.raw | apply PEnc.pair | apply PEnc.map)) ⟨_, Try.underlying80⟩ ti80 rfl (by repeat (first|exact el1 (by omega)|exact el2 (by omega)|exact el3 (by omega)|apply Elem.there))) (dd rfl) ?_
        refine o_step (s_alloc ti80 (dd rfl) (fun b17 => ?_))
        refine o_step (s_store_all ti80 rfl rfl (by first | exact CellsV.lit rfl | exact CellsV.one (by first | exact OneC.lit rfl | exact OneC.sl (hX (by repeat constructor)) )) (by repeat (first | exact OneAll.nil | (refine OneAll.cons ?_ ?_; · first | exact OneC.lit rfl | exact OneC.sl (hX (by repeat constructor)) ) | exact OneAll.rd (hX (by repeat constructor)))) rfl (pB (by repeat constructor)) rfl (?_))
        refine o_nil ?_
        refine c_seq ?_
        refine c_region ?_
        refine o_val (v_fieldAddrC 2 Try.underlying80 rfl ti9 (by decide) rfl) (dd rfl) ?_
        refine o_val (v_load lone9 rfl (hX (by repeat constructor)) rfl) (dd rfl) ?_
        refine o_step (s_callf cl40 (hasR_con (2 * i) b3 [] [] 7 (ss[j]'hj').2.2.1) rfl (dd rfl) (pXs (by repeat constructor)) fun _ _ => ?_)
        refine o_val (v_move rfl) (dd rfl) ?_
        refine o_val (v_extract rfl rfl) (dd rfl) ?_
        refine o_val (v_extract rfl rfl) (dd rfl) ?_
        refine o_val (v_assign rfl) (dd rfl) ?_
        refine o_val (v_assign rfl) (dd rfl) ?_
        refine o_nil ?_
        refine c_seq ?_
        refine c_region ?_
        refine o_val (v_move rfl) (dd rfl) ?_
        refine o_nil ?_
        refine c_cond_f rfl ?_
        refine c_skip ?_
        refine c_inBlock ?_
        refine c_region ?_
        refine o_val ((by first | exact v_add64 rfl rfl (by omega) | exact v_add rfl rfl)) (dd rfl) ?_
        refine o_val (v_move rfl) (dd rfl) ?_
        refine o_nil ?_
        refine c_use (IH2 (j + 1) (by first | omega | (dsimp only; omega)) (by omega)) (by repeat (first | exact trivial | refine ⟨rfl, ?_⟩)) (eX (by repeat constructor))
      · refine c_exit rfl ?_
        refine c_seq ?_
        refine c_region ?_
        refine o_step (s_callf_keep cl35 (alive12_con) rfl (dd rfl) (rX (by repeat constructor)) (fun _ => sX) (fun _ _ => ?_))
        refine o_val (v_move rfl) (dd rfl) ?_
        refine o_guard rfl rfl (fun _ => ?_) (fun h_ => absurd ((show _ = true from rfl).symm.trans h_) (by decide))
        refine o_val (v_move rfl) (dd rfl) ?_
        refine o_on rfl rfl ?_
        refine o_val ((by first | exact v_len_form Try.underlying35 rfl | exact v_len_sl Try.underlying35 rfl (hX (by repeat constructor)))) (dd rfl) ?_
        refine o_on rfl rfl ?_
        refine o_val (v_eq rfl rfl) (dd rfl) ?_
        refine o_val (v_pick_t rfl rfl) (dd rfl) ?_
        refine o_val (v_assign rfl) (dd rfl) ?_
        refine o_nil ?_
        refine c_ret1 Try.func14 rfl rfl fun w O hS => ?_
        exact ⟨(), rfl, trivial, trivial⟩
end Go.Proofs.Ytnamhhmfnokfiaa
namespace Go.Proofs.Ytnamhhmfnokfiaa
open Go Go.SL Go.RowKit Go.ChangeShapes Go.WideShapes Go.ChangeAt 
set_option linter.unusedVariables false
set_option maxRecDepth 100000 in
theorem lockAlone_lifted (os : Os) (started : os.Started) (H : Type) (enc : TypeId × Value → H) :
    ReturnsInHanded {} Try.checked os 14 .any (fun w args => (Rows.lockAloneSpec.pre enc Try.prog Try.f14 [] false w args ∧ True) ∧ sizedMet enc Try.prog Try.f14 (OpenSpec.ofChange Rows.lockAloneSpec) false w args)
      (Rows.lockAloneSpec.post enc Try.prog Try.f14 false true false false) := by
  refine lift_true (C := Try.checked) (X := fun w _ => True) (t := 4) (fun _ _ _ _ h => h) own started (by kernel_rfl) Try.func14 rfl (fun ds h => ?_) rfl Try.underlying4 laidOut (by kernel_rfl)
    (ChangeSpec.witness_shaped (enc := enc) (C := Try.checked) (os := os) (X := fun w _ => True) false (World.laidAll Try.prog os laidL) #[.slice none 0 0] 8 (World.laidAll_os _ _ _) (start_shaped os _) (by kernel_rfl) (by kernel_rfl) (by kernel_rfl) (trivial)) ?_
  · match ds, h with
    | [d0], _ => rfl
  · intro W base args ds ps hsh _ hval0 hA0 hwt0
    have hval : ∀ (j : Nat) t v, Try.f14.params[j]? = some t → args[j]? = some v → Value.okWide Try.prog W .any base t v := hval0
    have hA : DataW.TrodAll enc Try.prog W 0 (fun _ => true) true Try.f14.params.toList args.toList ds ps := hA0
    have hwt : ∀ (j : Nat) t d, Try.f14.params.toList[j]? = some t → ds[j]? = some d → ∀ n ∈ d.weights Try.prog t, n ≤ reachBytes := hwt0
    clear hval0 hA0 hwt0
    rw [Try.params14] at hA hval hwt
    obtain ⟨v0, vs0, d0, ds0, p0, q0, hargs, rfl, rfl, h0, r0⟩ := trodAll_cons hA
    obtain ⟨rfl, rfl, rfl⟩ := trodAll_nil r0
    obtain rfl : args = #[v0] := by cases args; simp_all
    obtain ⟨x0, e0, g0⟩ := open_arg opOps12 h0 (hwt 0 69 d0 rfl rfl)
    have a0 := arg_slice Try.underlying69 (hval 0 69 v0 rfl rfl) e0
    exact calls_of_con (lockAlone_con v0 x0 g0.1) (List.forall_mem_cons.2 ⟨a0, fun _ h => by cases h⟩)
theorem lockAlone_row : Rows.LockAloneSaid :=
  OpenClaim.holds_of_wide 14 Try.f14 rfl rfl rfl rfl rfl rfl rfl ⟨rfl, rfl, rfl, rfl, rfl⟩ rfl rfl rfl rfl rfl (by kernel_rfl) Try.func14 (by kernel_rfl)
    (of_decide_eq_true (by kernel_rfl)) (by unfold Func.isWrapper; first | (rw [if_pos (by decide +kernel)]; kernel_rfl) | (rw [if_neg (by decide +kernel)]; exact ⟨rfl, rfl⟩))
    (fun os started H enc _ => by have h_ := lockAlone_lifted os started H enc; simp only [and_true] at h_; exact h_)
#print axioms lockAlone_row
end Go.Proofs.Ytnamhhmfnokfiaa

/- CodeOne: for every input it returns true, and its arguments read behind the call as before. Conditions: the listed variables are laid as the card ties them. -/
import Derived.Test.YtmgkeippepeggaaGreatDoorZZ8
import Derived.Test.YtmgkeippepeggaaGreatDoorRows
import Derived.Test.YtmgkeippepeggaaGreatDoorCards
import Derived.Test.YtmgkeippepeggaaGreatDoorTie
set_option linter.unusedVariables false
set_option linter.unusedSimpArgs false
/- Chapter 09: what is read can be written: sizes, bounds; bytes that are read to the end are those that are written. -/
namespace Go.Proofs.YtmgkeippepeggaaGreatDoor
open Go Go.Lib
theorem takeFlag_back {s s' : St9} {b : Bool} (h : takeFlag s = (s', b)) (hb : s'.2 = false) : s.2 = false ∧ s.1 = flagB b ++ s'.1 := by
  unfold takeFlag num9 at h
  by_cases hs : s.2 = true
  · rw [if_pos hs] at h
    cases h; cases hb
  · rw [if_neg hs] at h
    cases hn : numberR 59 s.1 with
    | none => rw [hn] at h; cases h; cases hb
    | some p =>
      obtain ⟨n', m⟩ := p
      rw [hn] at h
      dsimp only at h
      split at h
      · rename_i hf
        cases h
        obtain ⟨r, h1, h2, _⟩ := number_some hn
        refine ⟨by simpa using hs, ?_⟩
        have e : flagB (decide (n' = 1)) = itoa n' ++ [59] := by
          rcases hf with q | q <;> subst q <;> decide +kernel
        rw [e, h1, h2, show (itoa n').length + 1 = (itoa n' ++ [59]).length by simp, show itoa n' ++ 59 :: r = (itoa n' ++ [59]) ++ r by simp, List.drop_left]
      · cases h; cases hb
/-- What is written of what was read: no longer than what was there, or little. -/
theorem num_len {s : St9} : (numB (takeNum s).2).length ≤ s.1.length + 40 := by have := numB_len (takeNum s).2; omega
theorem flag_len (b : Bool) : (flagB b).length ≤ 40 := by cases b <;> decide +kernel
theorem text_zero {m : Int} {s : St9} (h : (takeText m s).1.2 = true) : (takeText m s).2 = ⟨#[]⟩ := by
  revert h
  unfold takeText
  split
  · split
    · intro h; cases h
    · intro _; rfl
  · intro _; rfl
theorem some_zero {α : Type} {take : St9 → St9 × α} {m : Int} {s : St9} (h : (takeSome take m s).1.2 = true) : (takeSome take m s).2 = [] := by
  revert h
  unfold takeSome
  split
  · intro _; rfl
  · split
    · intro _; rfl
    · intro h; rename_i q; exact absurd h q
theorem prim_zero {s : St9} (h : (takePrim s).1.2 = true) : (takePrim s).2 = pr0 := by
  revert h
  unfold takePrim
  split
  · intro _; rfl
  · intro h; rename_i q; exact absurd (.inl h) q
theorem patch_zero {s : St9} (h : (takePatch s).1.2 = true) : (takePatch s).2 = pt0 := by
  revert h
  unfold takePatch
  split
  · intro _; rfl
  · intro h; rename_i q; exact absurd (.inl h) q
theorem le_or {s s' : St9} {X : List UInt8} (h0 : s'.2 = true → X.length ≤ 40) (h1 : s'.2 = false → s.1 = X ++ s'.1) : X.length ≤ s.1.length + 40 := by
  cases h : s'.2 with
  | true => have := h0 h; omega
  | false => rw [h1 h, List.length_append]; omega
theorem text_len9 {m : Int} {s : St9} : (textB (takeText m s).2).length ≤ s.1.length + 40 :=
  le_or (s' := (takeText m s).1) (fun h => by rw [text_zero h]; decide +kernel) fun h => (takeText_back rfl h).2.1
theorem some_back {α : Type} {take : St9 → St9 × α} {put : α → List UInt8} (hh : ∀ s s' x, take s = (s', x) → s'.2 = false → s.2 = false ∧ s.1 = put x ++ s'.1 ∧ True) {m : Int} {s : St9} (h : (takeSome take m s).1.2 = false) : s.1 = manyB put (takeSome take m s).2 ++ (takeSome take m s).1.1 :=
  (takeSome_back (ok := fun _ => True) hh rfl h).2.1
theorem some_len9 {α : Type} {take : St9 → St9 × α} {put : α → List UInt8} (hh : ∀ s s' x, take s = (s', x) → s'.2 = false → s.2 = false ∧ s.1 = put x ++ s'.1 ∧ True) {m : Int} {s : St9} : (manyB put (takeSome take m s).2).length ≤ s.1.length + 40 :=
  le_or (s' := (takeSome take m s).1) (fun h => by rw [some_zero h]; unfold manyB; have := numB_len (([] : List α).length); simp at this ⊢; omega) fun h => some_back hh h
theorem back_text (m : Int) : ∀ s s' x, takeText m s = (s', x) → s'.2 = false → s.2 = false ∧ s.1 = textB x ++ s'.1 ∧ True := fun _ _ _ e hb => ⟨(takeText_back e hb).1, (takeText_back e hb).2.1, trivial⟩
theorem back_prim : ∀ s s' x, takePrim s = (s', x) → s'.2 = false → s.2 = false ∧ s.1 = primB x ++ s'.1 ∧ True := fun _ _ _ e hb => ⟨(takePrim_back e hb).1, (takePrim_back e hb).2.1, trivial⟩
theorem prim_len9 {s : St9} : (primB (takePrim s).2).length ≤ s.1.length + 40 :=
  le_or (s' := (takePrim s).1) (fun h => by rw [prim_zero h]; decide +kernel) fun h => (takePrim_back rfl h).2.1
theorem patch_len9 {s : St9} : (patchB (takePatch s).2).length ≤ s.1.length + 40 :=
  le_or (s' := (takePatch s).1) (fun h => by rw [patch_zero h]; decide +kernel) fun h => (takePatch_back rfl h).2.1
theorem far_int {n : Int} (h : -far9 ≤ n ∧ n ≤ far9) : -9223372036854775808 ≤ n ∧ n ≤ 9223372036854775807 := by unfold far9 at h; omega
theorem prim_count {s : St9} (h : s.1.length ≤ big9) : CountP (takePrim s).2 := by
  have hs := prim_ok h
  refine ⟨?_, ?_, Nat.le_trans hs.2.2.1.1 (by decide), Nat.le_trans hs.2.2.2.1 (by decide)⟩
  · unfold takePrim
    split
    · exact ⟨show (-9223372036854775808 : Int) ≤ 0 by decide, show (0 : Int) ≤ 9223372036854775807 by decide⟩
    · exact far_int num_far
  · unfold takePrim
    split
    · exact ⟨show (-9223372036854775808 : Int) ≤ 0 by decide, show (0 : Int) ≤ 9223372036854775807 by decide⟩
    · exact far_int num_far
theorem prims_count {m : Int} {s : St9} (h : s.1.length ≤ big9) : ∀ p ∈ (takePrims m s).2, CountP p := fun p hp => some_ok (most := m) goes_prim (fun s hs => prim_count hs) h p hp
theorem patch_count {s : St9} (h : s.1.length ≤ big9) : CountT (takePatch s).2 := by
  have hs := patch_size h
  have h1 := Nat.le_trans (goes_len goes_num s) h
  have h2 := Nat.le_trans (goes_len (goes_text 60) (takeNum s).1) h1
  have h3 := Nat.le_trans (goes_len (goes_some goes_num 8) (takeText 60 (takeNum s).1).1) h2
  refine ⟨?_, ⟨Nat.le_trans hs.2.1 (by decide), ?_⟩, Nat.le_trans hs.2.2.1 (by decide), ?_⟩
  · unfold takePatch
    split
    · exact ⟨show (-9223372036854775808 : Int) ≤ 0 by decide, show (0 : Int) ≤ 9223372036854775807 by decide⟩
    · exact far_int num_far
  · unfold takePatch
    split
    · exact fun _ h => by cases h
    · exact fun n hn => some_ok (most := 8) (ok := fun n : Int => -9223372036854775808 ≤ n ∧ n ≤ 9223372036854775807) goes_num (fun s _ => far_int num_far) h2 n hn
  · unfold takePatch
    split
    · exact fun _ h => by cases h
    · exact prims_count h3
end Go.Proofs.YtmgkeippepeggaaGreatDoor
/- Chapter 09: CodeOne. -/
namespace Go.Proofs.YtmgkeippepeggaaGreatDoor
open Go Go.SL Go.Lib
theorem byte_eq {X l : List UInt8} (h : X = l) : decide ((⟨X.toArray⟩ : ByteArray) = ⟨l.toArray⟩) = true := decide_eq_true (by rw [h])
theorem end_all {s2 : St9} {X l : List UInt8} (hbk : s2.2 = false → l = X ++ s2.1) (h : s2 = ([], false)) : X = l := by
  have := hbk (by rw [h])
  rw [h, List.append_nil] at this
  exact this.symm
theorem back_texts {m e : Int} {s s' : St9} {x : List ByteArray} (hx : takeSome (takeText e) m s = (s', x)) (h : s'.2 = false) : s.1 = textsB x ++ s'.1 := (takeSome_back (ok := fun _ => True) (back_text e) hx h).2.1
theorem back_prims {m : Int} {s s' : St9} {x : List Pr9} (hx : takeSome takePrim m s = (s', x)) (h : s'.2 = false) : s.1 = primsB x ++ s'.1 := (takeSome_back (ok := fun _ => True) back_prim hx h).2.1
attribute [local irreducible] Cfg Kont StepK Val Con Qops Any Sl Own Blk BlkR Rd Pu ExA AllA Has Pick Ent Elem Beside Callable TI Lone OwnO AndA
set_option maxRecDepth 100000 in
theorem one_con (v : Value) (l : List UInt8) (a : Ask9) (te : TypeId) (pe : Value) (hl : l.length ≤ 140737488355328) : Con Tryz.prog 7 [v, .agg #[.int .i64 a.1, .int .i64 a.2.1, .int .i64 a.2.2]] [Sl eByte v l, G1 te pe, G3] (γ := Unit) (fun _ => .bool true) (fun _ => True) (fun _ => []) := by
  have hal := alive_con te pe
  obtain ⟨k, m, e⟩ := a
  dsimp only
  refine con_of Tryz.func7 rfl (dd rfl) fun w0 O0 => ?_
  refine c_seq ?_
  refine c_region ?_
  refine o_step (s_box rfl (dd rfl) (fun b3 => ?_))
  refine o_val (v_assign rfl) (dd rfl) ?_
  refine o_nil ?_
  refine c_seq ?_
  refine c_seq ?_
  refine c_env (env' := [(0, _), (3, _), (4, _)]) (by repeat (first | exact trivial | refine ⟨rfl, ?_⟩)) ?_
  refine c_joinb (d := 19) (decide (3000 < l.length ∨ k < 0 ∨ 6 < k)) ?_ ?_
  rotate_left
  · intro J
    refine c_region ?_
    refine o_val (v_move rfl) (dd rfl) ?_
    refine o_val ((by first | exact v_len_form Tryz.underlying25 rfl | exact v_len_sl Tryz.underlying25 rfl (hX (by repeat constructor)))) (dd rfl) ?_
    refine o_val (v_gt rfl rfl) (dd rfl) ?_
    refine o_val (v_move rfl) (dd rfl) ?_
    first | refine o_guard_f rfl rfl (fun g10 => ?_) (fun g10 => ?_) | refine o_guard rfl rfl (fun g10 => ?_) (fun g10 => ?_)
    · refine o_val (v_fieldAddrC 0 Tryz.underlying50 rfl ti3 (by decide) rfl) (dd rfl) ?_
      refine o_on rfl rfl ?_
      refine o_val (v_load lone3 rfl (hX (by repeat constructor)) rfl) (dd rfl) ?_
      refine o_on rfl rfl ?_
      refine o_val (v_lt rfl rfl) (dd rfl) ?_
      refine o_val (v_pick_f rfl rfl) (dd rfl) ?_
      refine o_val (v_move rfl) (dd rfl) ?_
      first | refine o_guard_f rfl rfl (fun g15 => ?_) (fun g15 => ?_) | refine o_guard rfl rfl (fun g15 => ?_) (fun g15 => ?_)
      · refine o_val (v_fieldAddrC 0 Tryz.underlying50 rfl ti3 (by decide) rfl) (dd rfl) ?_
        refine o_on rfl rfl ?_
        refine o_val (v_load lone3 rfl (hX (by repeat constructor)) rfl) (dd rfl) ?_
        refine o_on rfl rfl ?_
        refine o_val (v_gt rfl rfl) (dd rfl) ?_
        refine o_val (v_pick_f rfl rfl) (dd rfl) ?_
        refine o_nil ?_
        exact c_use J ⟨Env.as rfl (congrArg Value.bool (by first | rfl | (simp_all; done) | (simp_all; omega) | exact decide_eq_decide.2 (by omega) | exact (decide_eq_true (by omega)).symm)), (by repeat (first | exact trivial | refine ⟨rfl, ?_⟩))⟩ (by first | exact Ent.refl _ | exact eX (by repeat constructor))
      · refine o_off rfl rfl rfl (dd rfl) ?_
        refine o_off rfl rfl rfl (dd rfl) ?_
        refine o_off rfl rfl rfl (dd rfl) ?_
        refine o_val (v_pick_t rfl rfl) (dd rfl) ?_
        refine o_nil ?_
        exact c_use J ⟨Env.as rfl (congrArg Value.bool (by first | rfl | (simp_all; done) | (simp_all; omega) | exact decide_eq_decide.2 (by omega) | exact (decide_eq_true (by omega)).symm)), (by repeat (first | exact trivial | refine ⟨rfl, ?_⟩))⟩ (by first | exact Ent.refl _ | exact eX (by repeat constructor))
    · refine o_off rfl rfl rfl (dd rfl) ?_
      refine o_off rfl rfl rfl (dd rfl) ?_
      refine o_off rfl rfl rfl (dd rfl) ?_
      refine o_val (v_pick_t rfl rfl) (dd rfl) ?_
      refine o_val (v_move rfl) (dd rfl) ?_
      refine o_off rfl rfl rfl (dd rfl) ?_
      refine o_off rfl rfl rfl (dd rfl) ?_
      refine o_off rfl rfl rfl (dd rfl) ?_
      refine o_val (v_pick_t rfl rfl) (dd rfl) ?_
      refine o_nil ?_
      exact c_use J ⟨Env.as rfl (congrArg Value.bool (by first | rfl | (simp_all; done) | (simp_all; omega) | exact decide_eq_decide.2 (by omega) | exact (decide_eq_true (by omega)).symm)), (by repeat (first | exact trivial | refine ⟨rfl, ?_⟩))⟩ (by first | exact Ent.refl _ | exact eX (by repeat constructor))
  refine c_cond_p rfl (fun h0 => ?_) (fun h0 => ?_)
  · refine c_seq ?_
    refine c_region ?_
    refine o_step (s_callf cl10 (hal) rfl (dd rfl) (pXs (by repeat constructor)) fun _ _ => ?_)
    refine o_val (v_assign rfl) (dd rfl) ?_
    refine o_nil ?_
    refine c_ret1 Tryz.func7 rfl rfl fun w O hS => ?_
    exact ⟨(), rfl, trivial, trivial⟩
  · have hof := of_con v l (by omega)
    have hs9 : (l, false).1.length ≤ big9 := by unfold big9; dsimp only; omega
    have hs0 : ((l, false) : St9).1.length = l.length := rfl
    refine c_skip ?_
    refine c_seq ?_
    refine c_region ?_
    refine o_val (v_move rfl) (dd rfl) ?_
    refine o_step (s_callf cl13 (hof) rfl (dd rfl) (pXs (by repeat constructor)) fun g _ => ?_)
    refine o_val (v_assign rfl) (dd rfl) ?_
    refine o_nil ?_
    refine c_seq ?_
    refine c_seq ?_
    refine c_region ?_
    refine o_val (v_move rfl) (dd rfl) ?_
    refine o_val (v_eq_ptr_nil Tryz.underlying40 rfl rfl) (dd rfl) ?_
    refine o_nil ?_
    obtain ⟨i, bv⟩ := g
    dsimp only
    refine c_cond_f rfl ?_
    refine c_skip ?_
    refine c_seq ?_
    refine c_region ?_
    refine o_step (s_alloc ti27 (dd rfl) (fun b6 => ?_))
    refine o_nil ?_
    refine c_seq ?_
    refine c_seq ?_
    refine c_region ?_
    refine o_val (v_fieldAddrC 0 Tryz.underlying50 rfl ti3 (by decide) rfl) (dd rfl) ?_
    refine o_val (v_load lone3 rfl (hX (by repeat constructor)) rfl) (dd rfl) ?_
    refine o_nil ?_
    refine c_block ?_
    refine c_joinR (γ := St9 × Value × Value × List UInt8) [(0, _), (4, _), (5, _), (6, _)] (fun g => (g.1 = ([], false) → g.2.2.2 = l) ∧ g.2.2.2.length ≤ l.length + 40) (fun _ => []) (fun g => [Blk i 92 [g.2.1, .bool g.1.2], Sl eByte g.2.1 g.1.1, Blk b6 27 [g.2.2.1], Own eByte 5 g.2.2.1 g.2.2.2, Sl eByte v l, G1 te pe, G3]) (by repeat (first | exact trivial | refine ⟨rfl, ?_⟩)) ?_ ?_
    rotate_left
    · intro MEET
      refine c_seq ?_
      refine c_region ?_
      refine o_val (v_eq rfl rfl) (dd rfl) ?_
      refine o_val (v_assign rfl) (dd rfl) ?_
      refine o_nil ?_
      refine c_cond_p rfl (fun k0 => ?_) (fun k0 => ?_)
      · have r := inNum_con i bv (l, false) te pe
        have hlen := num_len (s := (l, false))
        have hfar := num_far (s := (l, false))
        obtain ⟨s2, x, hx⟩ : ∃ s2 x, takeNum (l, false) = (s2, x) := ⟨_, _, rfl⟩
        have hbk : s2.2 = false → l = numB x ++ s2.1 := fun h => (takeNum_back hx h).2.1
        rw [hx] at r hlen hfar
        dsimp only at r hlen hfar
        have c := fun b => num_con b (.slice none 0 0) [] x (far_int hfar) (by simp; omega)
        simp only [List.nil_append] at c
        refine c_region ?_
        refine o_val (v_move rfl) (dd rfl) ?_
        refine o_step (s_callf cl14 (r) rfl (dd rfl) (pXs (by repeat constructor)) fun w _ => ?_)
        refine o_step (s_callf cl32 (c b6) rfl (dd rfl) (pXs (by repeat constructor)) fun o _ => ?_)
        refine o_nil ?_
        refine c_use (MEET ((s2, w, o, numB x)) (⟨end_all hbk, by dsimp only; omega⟩)) (by repeat (first | exact trivial | refine ⟨rfl, ?_⟩)) (eX (by repeat constructor))
      · skip
        refine c_seq ?_
        refine c_region ?_
        refine o_val (v_eq rfl rfl) (dd rfl) ?_
        refine o_val (v_assign rfl) (dd rfl) ?_
        refine o_nil ?_
        refine c_cond_p rfl (fun k1 => ?_) (fun k1 => ?_)
        · have r := inFlag_con i bv (l, false) te pe
          have hlen := flag_len (takeFlag (l, false)).2
          obtain ⟨s2, x, hx⟩ : ∃ s2 x, takeFlag (l, false) = (s2, x) := ⟨_, _, rfl⟩
          have hbk : s2.2 = false → l = flagB x ++ s2.1 := fun h => (takeFlag_back hx h).2
          rw [hx] at r hlen 
          dsimp only at r hlen 
          have c := fun b => flag_con b (.slice none 0 0) [] x (by simp; omega)
          simp only [List.nil_append] at c
          refine c_region ?_
          refine o_val (v_move rfl) (dd rfl) ?_
          refine o_step (s_callf cl15 (r) rfl (dd rfl) (pXs (by repeat constructor)) fun w _ => ?_)
          refine o_step (s_callf cl33 (c b6) rfl (dd rfl) (pXs (by repeat constructor)) fun o _ => ?_)
          refine o_nil ?_
          refine c_use (MEET ((s2, w, o, flagB x)) (⟨end_all hbk, by dsimp only; omega⟩)) (by repeat (first | exact trivial | refine ⟨rfl, ?_⟩)) (eX (by repeat constructor))
        · skip
          refine c_seq ?_
          refine c_region ?_
          refine o_val (v_eq rfl rfl) (dd rfl) ?_
          refine o_val (v_assign rfl) (dd rfl) ?_
          refine o_nil ?_
          refine c_cond_p rfl (fun k2 => ?_) (fun k2 => ?_)
          · have r := inText_con i bv (l, false) m te pe
            have hlen := text_len9 (m := m) (s := (l, false))
            obtain ⟨s2, x, hx⟩ : ∃ s2 x, takeText m (l, false) = (s2, x) := ⟨_, _, rfl⟩
            have hbk : s2.2 = false → l = textB x ++ s2.1 := fun h => (takeText_back hx h).2.1
            rw [hx] at r hlen 
            dsimp only at r hlen 
            have c := fun b => text_con b (.slice none 0 0) [] x (by simp; omega)
            simp only [List.nil_append] at c
            refine c_region ?_
            refine o_val (v_move rfl) (dd rfl) ?_
            refine o_val (v_fieldAddrC 1 Tryz.underlying50 rfl ti3 (by decide) rfl) (dd rfl) ?_
            refine o_val (v_load lone3 rfl (hX (by repeat constructor)) rfl) (dd rfl) ?_
            refine o_step (s_callf cl16 (r) rfl (dd rfl) (pXs (by repeat constructor)) fun w _ => ?_)
            refine o_step (s_callf cl34 (c b6) rfl (dd rfl) (pXs (by repeat constructor)) fun o _ => ?_)
            refine o_nil ?_
            refine c_use (MEET ((s2, w, o, textB x)) (⟨end_all hbk, by dsimp only; omega⟩)) (by repeat (first | exact trivial | refine ⟨rfl, ?_⟩)) (eX (by repeat constructor))
          · skip
            refine c_seq ?_
            refine c_region ?_
            refine o_val (v_eq rfl rfl) (dd rfl) ?_
            refine o_val (v_assign rfl) (dd rfl) ?_
            refine o_nil ?_
            refine c_cond_p rfl (fun k3 => ?_) (fun k3 => ?_)
            · have r := inTexts_con i bv (l, false) m e te pe
              have hlen := some_len9 (put := textB) (back_text e) (m := m) (s := (l, false))
              have hsh := Nat.le_trans (some_short (less_text e) (most := m) (s := (l, false))) hs9
              unfold takeTexts at r
              obtain ⟨s2, x, hx⟩ : ∃ s2 x, takeSome (takeText e) m (l, false) = (s2, x) := ⟨_, _, rfl⟩
              have hbk : s2.2 = false → l = textsB x ++ s2.1 := fun h => (back_texts hx h)
              rw [hx] at r hlen hsh
              dsimp only at r hlen hsh
              rw [show manyB textB x = textsB x from rfl] at hlen
              have hxl : x.length ≤ 1000000 := hsh
              have c := fun b => fun u => texts_con b (.slice none 0 0) u [] x (by omega) (by simp; omega)
              simp only [List.nil_append] at c
              refine c_region ?_
              refine o_val (v_move rfl) (dd rfl) ?_
              refine o_val (v_fieldAddrC 1 Tryz.underlying50 rfl ti3 (by decide) rfl) (dd rfl) ?_
              refine o_val (v_load lone3 rfl (hX (by repeat constructor)) rfl) (dd rfl) ?_
              refine o_val (v_fieldAddrC 2 Tryz.underlying50 rfl ti3 (by decide) rfl) (dd rfl) ?_
              refine o_val (v_load lone3 rfl (hX (by repeat constructor)) rfl) (dd rfl) ?_
              refine o_step (s_callf cl17 (r) rfl (dd rfl) (pXs (by repeat constructor)) fun g _ => ?_)
              refine o_step (s_callf cl35 (c b6 g.2) rfl (dd rfl) (pXs (by repeat constructor)) fun o _ => ?_)
              refine o_nil ?_
              refine c_use (MEET ((s2, g.1, o, textsB x)) (⟨end_all hbk, by dsimp only; omega⟩)) (by repeat (first | exact trivial | refine ⟨rfl, ?_⟩)) (eX (by repeat constructor))
            · skip
              refine c_seq ?_
              refine c_region ?_
              refine o_val (v_eq rfl rfl) (dd rfl) ?_
              refine o_val (v_assign rfl) (dd rfl) ?_
              refine o_nil ?_
              refine c_cond_p rfl (fun k4 => ?_) (fun k4 => ?_)
              · have r := inPrim_con i bv (l, false) hs9 te pe
                have hlen := prim_len9 (s := (l, false))
                have hct := prim_count hs9
                obtain ⟨s2, x, hx⟩ : ∃ s2 x, takePrim (l, false) = (s2, x) := ⟨_, _, rfl⟩
                have hbk : s2.2 = false → l = primB x ++ s2.1 := fun h => (takePrim_back hx h).2.1
                rw [hx] at r hlen hct
                dsimp only at r hlen hct
                have c := fun b => fun u t => prim_con b (.slice none 0 0) u t [] x hct (by simp; omega)
                simp only [List.nil_append] at c
                refine c_region ?_
                refine o_val (v_move rfl) (dd rfl) ?_
                refine o_step (s_callf cl25 (r) rfl (dd rfl) (pXs (by repeat constructor)) fun g _ => ?_)
                refine o_step (s_callf cl36 (c b6 g.2.1 g.2.2) rfl (dd rfl) (pXs (by repeat constructor)) fun o _ => ?_)
                refine o_nil ?_
                refine c_use (MEET ((s2, g.1, o, primB x)) (⟨end_all hbk, by dsimp only; omega⟩)) (by repeat (first | exact trivial | refine ⟨rfl, ?_⟩)) (eX (by repeat constructor))
              · skip
                refine c_seq ?_
                refine c_region ?_
                refine o_val (v_eq rfl rfl) (dd rfl) ?_
                refine o_val (v_assign rfl) (dd rfl) ?_
                refine o_nil ?_
                refine c_cond_p rfl (fun k5 => ?_) (fun k5 => ?_)
                · have r := inPrims_con i bv (l, false) m hs9 te pe
                  have hlen := some_len9 (put := primB) back_prim (m := m) (s := (l, false))
                  have hct := prims_count (m := m) hs9
                  have hsh := Nat.le_trans (some_short less_prim (most := m) (s := (l, false))) hs9
                  unfold takePrims at r hct
                  obtain ⟨s2, x, hx⟩ : ∃ s2 x, takeSome takePrim m (l, false) = (s2, x) := ⟨_, _, rfl⟩
                  have hbk : s2.2 = false → l = primsB x ++ s2.1 := fun h => (back_prims hx h)
                  rw [hx] at r hlen hct hsh
                  dsimp only at r hlen hct hsh
                  rw [show manyB primB x = primsB x from rfl] at hlen
                  have hxl : x.length ≤ 1000000 := hsh
                  have c := fun b => fun u => prims_con b (.slice none 0 0) u [] x (by omega) hct (by simp; omega)
                  simp only [List.nil_append] at c
                  refine c_region ?_
                  refine o_val (v_move rfl) (dd rfl) ?_
                  refine o_val (v_fieldAddrC 1 Tryz.underlying50 rfl ti3 (by decide) rfl) (dd rfl) ?_
                  refine o_val (v_load lone3 rfl (hX (by repeat constructor)) rfl) (dd rfl) ?_
                  refine o_step (s_callf cl28 (r) rfl (dd rfl) (pXs (by repeat constructor)) fun g _ => ?_)
                  refine o_step (s_callf cl37 (c b6 g.2) rfl (dd rfl) (pXs (by repeat constructor)) fun o _ => ?_)
                  refine o_nil ?_
                  refine c_use (MEET ((s2, g.1, o, primsB x)) (⟨end_all hbk, by dsimp only; omega⟩)) (by repeat (first | exact trivial | refine ⟨rfl, ?_⟩)) (eX (by repeat constructor))
                · skip
                  refine c_seq ?_
                  refine c_region ?_
                  refine o_val (v_eq rfl rfl) (dd rfl) ?_
                  refine o_val (v_assign rfl) (dd rfl) ?_
                  refine o_nil ?_
                  refine c_cond_p rfl (fun k6 => ?_) (fun k6 => ?_)
                  · have r := inPatch_con i bv (l, false) hs9 te pe
                    have hlen := patch_len9 (s := (l, false))
                    have hct := patch_count hs9
                    obtain ⟨s2, x, hx⟩ : ∃ s2 x, takePatch (l, false) = (s2, x) := ⟨_, _, rfl⟩
                    have hbk : s2.2 = false → l = patchB x ++ s2.1 := fun h => (takePatch_back hx h).2.1
                    rw [hx] at r hlen hct
                    dsimp only at r hlen hct
                    have c := fun b => fun u t => patch_con b (.slice none 0 0) u t [] x hct (by simp; omega)
                    simp only [List.nil_append] at c
                    refine c_region ?_
                    refine o_val (v_move rfl) (dd rfl) ?_
                    refine o_step (s_callf cl31 (r) rfl (dd rfl) (pXs (by repeat constructor)) fun g _ => ?_)
                    refine o_step (s_callf cl38 (c b6 g.2.1 g.2.2) rfl (dd rfl) (pXs (by repeat constructor)) fun o _ => ?_)
                    refine o_nil ?_
                    refine c_use (MEET ((s2, g.1, o, patchB x)) (⟨end_all hbk, by dsimp only; omega⟩)) (by repeat (first | exact trivial | refine ⟨rfl, ?_⟩)) (eX (by repeat constructor))
                  · skip
                    refine c_skip ?_
                    exact absurd h0 (by omega)
    rintro ⟨s2, w, o, X⟩ ⟨hWe, hWl⟩
    dsimp only [List.cons_append, List.nil_append]
    dsimp only at hWe hWl
    have hdn := done_con i w s2
    have hby := bytes_con b6 o X (by omega)
    refine c_inBlock ?_
    refine c_seq ?_
    by_cases hd : s2 = ([], false)
    · rw [decide_eq_true hd] at hdn
      refine c_held [Sl eByte v l] rfl ?_
      refine a_one 0 rfl (by kernel_rfl) (s_callf_keep cl10 (hal) rfl (dd rfl) (rX (by repeat constructor)) (fun _ => sX) (fun _ _ => a_on (eX (by repeat constructor)) ?_))
      refine a_take 1 rfl (by kernel_rfl) (by kernel_rfl) (by kernel_rfl) (v_move rfl) (eX (by repeat constructor)) (dd rfl) ?_
      refine a_know (s := 71) rfl (show _ = Value.bool true from rfl) ?_
      refine a_take_on 2 rfl rfl rfl (by kernel_rfl) (by kernel_rfl) (by kernel_rfl) (v_move rfl) (eX (by repeat constructor)) (dd rfl) ?_
      refine a_one_on 3 rfl rfl rfl (by kernel_rfl) (s_callf_keep cl20 (hdn) rfl (dd rfl) (rX (by repeat constructor)) (fun _ => sX) (fun _ _ => a_on (eX (by repeat constructor)) ?_))
      refine a_take_on 4 rfl rfl rfl (by kernel_rfl) (by kernel_rfl) (by kernel_rfl) (v_not rfl) (eX (by repeat constructor)) (dd rfl) ?_
      refine a_take_on 5 rfl rfl rfl (by kernel_rfl) (by kernel_rfl) (by kernel_rfl) (v_move rfl) (eX (by repeat constructor)) (dd rfl) ?_
      refine a_know (s := 75) rfl (show _ = Value.bool false from rfl) ?_
      refine a_take_on 8 rfl rfl rfl (by kernel_rfl) (by kernel_rfl) (by kernel_rfl) (v_move rfl) (eX (by repeat constructor)) (dd rfl) ?_
      refine a_take_on 9 rfl rfl rfl (by kernel_rfl) (by kernel_rfl) (by kernel_rfl) (v_conv_bytes Tryz.underlying25 Tryz.underlying5 Tryz.underlying9 rfl (hX (by repeat constructor))) (eX (by repeat constructor)) (dd rfl) ?_
      refine a_one_on 6 rfl rfl rfl (by kernel_rfl) (s_callf_keep cl12 (hby) rfl (dd rfl) (rX (by repeat constructor)) (fun _ => sX) (fun r6 _ => a_on (eX (by repeat constructor)) ?_))
      refine a_one_on 7 rfl rfl rfl (by kernel_rfl) (s_val (v_conv_bytes Tryz.underlying25 Tryz.underlying5 Tryz.underlying9 rfl (hX (by repeat constructor))) (dd rfl) (a_on (eX (by repeat constructor)) ?_))
      refine a_take_on 10 rfl rfl rfl (by kernel_rfl) (by kernel_rfl) (by kernel_rfl) (v_seq rfl rfl) (eX (by repeat constructor)) (dd rfl) ?_
      refine a_take_on 11 rfl rfl rfl (by kernel_rfl) (by kernel_rfl) (by kernel_rfl) (v_pick_f rfl rfl) (eX (by repeat constructor)) (dd rfl) ?_
      refine a_take 12 rfl (by kernel_rfl) (by kernel_rfl) (by kernel_rfl) (v_pick_t rfl rfl) (eX (by repeat constructor)) (dd rfl) ?_
      refine a_take 13 rfl (by kernel_rfl) (by kernel_rfl) (by kernel_rfl) (v_assign rfl) (eX (by repeat constructor)) (dd rfl) ?_
      refine a_done (by kernel_rfl) ?_ _
      refine c_ret1 Tryz.func7 rfl rfl fun w O hS => ?_
      exact ⟨(), congrArg Value.bool (byte_eq (hWe hd)), trivial, trivial⟩
    · rw [decide_eq_false hd] at hdn
      refine c_held [Sl eByte v l] rfl ?_
      refine a_one 0 rfl (by kernel_rfl) (s_callf_keep cl10 (hal) rfl (dd rfl) (rX (by repeat constructor)) (fun _ => sX) (fun _ _ => a_on (eX (by repeat constructor)) ?_))
      refine a_take 1 rfl (by kernel_rfl) (by kernel_rfl) (by kernel_rfl) (v_move rfl) (eX (by repeat constructor)) (dd rfl) ?_
      refine a_know (s := 71) rfl (show _ = Value.bool true from rfl) ?_
      refine a_take_on 2 rfl rfl rfl (by kernel_rfl) (by kernel_rfl) (by kernel_rfl) (v_move rfl) (eX (by repeat constructor)) (dd rfl) ?_
      refine a_one_on 3 rfl rfl rfl (by kernel_rfl) (s_callf_keep cl20 (hdn) rfl (dd rfl) (rX (by repeat constructor)) (fun _ => sX) (fun _ _ => a_on (eX (by repeat constructor)) ?_))
      refine a_take_on 4 rfl rfl rfl (by kernel_rfl) (by kernel_rfl) (by kernel_rfl) (v_not rfl) (eX (by repeat constructor)) (dd rfl) ?_
      refine a_take_on 5 rfl rfl rfl (by kernel_rfl) (by kernel_rfl) (by kernel_rfl) (v_move rfl) (eX (by repeat constructor)) (dd rfl) ?_
      refine a_know (s := 75) rfl (show _ = Value.bool true from rfl) ?_
      refine a_take_off 6 rfl rfl rfl rfl (by kernel_rfl) (by kernel_rfl) (by kernel_rfl) (eX (by repeat constructor)) (dd rfl) ?_
      refine a_take_off 7 rfl rfl rfl rfl (by kernel_rfl) (by kernel_rfl) (by kernel_rfl) (eX (by repeat constructor)) (dd rfl) ?_
      refine a_take_off 8 rfl rfl rfl rfl (by kernel_rfl) (by kernel_rfl) (by kernel_rfl) (eX (by repeat constructor)) (dd rfl) ?_
      refine a_take_off 9 rfl rfl rfl rfl (by kernel_rfl) (by kernel_rfl) (by kernel_rfl) (eX (by repeat constructor)) (dd rfl) ?_
      refine a_take_off 10 rfl rfl rfl rfl (by kernel_rfl) (by kernel_rfl) (by kernel_rfl) (eX (by repeat constructor)) (dd rfl) ?_
      refine a_take_on 11 rfl rfl rfl (by kernel_rfl) (by kernel_rfl) (by kernel_rfl) (v_pick_t rfl rfl) (eX (by repeat constructor)) (dd rfl) ?_
      refine a_take 12 rfl (by kernel_rfl) (by kernel_rfl) (by kernel_rfl) (v_pick_t rfl rfl) (eX (by repeat constructor)) (dd rfl) ?_
      refine a_take 13 rfl (by kernel_rfl) (by kernel_rfl) (by kernel_rfl) (v_assign rfl) (eX (by repeat constructor)) (dd rfl) ?_
      refine a_done (by kernel_rfl) ?_ _
      refine c_ret1 Tryz.func7 rfl rfl fun w O hS => ?_
      exact ⟨(), rfl, trivial, trivial⟩
end Go.Proofs.YtmgkeippepeggaaGreatDoor
namespace Go.Proofs.YtmgkeippepeggaaGreatDoor
open Go Go.SL Go.RowKit Go.ChangeShapes Go.WideShapes Go.ChangeAt Go.Lib
set_option linter.unusedVariables false
set_option maxRecDepth 100000 in
theorem codeOne_lifted (os : Os) (started : os.Started) (H : Type) (enc : TypeId × Value → H) :
    ReturnsInHanded {} Tryz.checked os 7 .any (fun w args => (Rows.codeOneSpec.pre enc Tryz.prog Tryz.f7 [] false w args ∧ laidMetH Tryz.prog laidL w) ∧ sizedMet enc Tryz.prog Tryz.f7 (OpenSpec.ofChange Rows.codeOneSpec) false w args)
      (Rows.codeOneSpec.post enc Tryz.prog Tryz.f7 false true false false) := by
  refine lift_true (C := Tryz.checked) (X := fun w _ => laidMetH Tryz.prog laidL w) (t := 4) (fun _ _ _ hh h => h.of_heap hh) own started (by kernel_rfl) Tryz.func7 rfl (fun ds h => ?_) rfl Tryz.underlying4 laidOut (by kernel_rfl)
    (ChangeSpec.witness_shaped (enc := enc) (C := Tryz.checked) (os := os) (X := fun w _ => laidMetH Tryz.prog laidL w) false (World.laidAll Tryz.prog os laidL) #[.slice none 0 0, .agg #[.int .i64 0, .int .i64 0, .int .i64 0]] 8 (World.laidAll_os _ _ _) (start_shaped os _) (by kernel_rfl) (by kernel_rfl) (by kernel_rfl) (start_met os _)) ?_
  · match ds, h with
    | [d0, d1], _ => rfl
  · intro W base args ds ps hsh hlaid hval0 hA0 hwt0
    have hval : ∀ (j : Nat) t v, Tryz.f7.params[j]? = some t → args[j]? = some v → Value.okWide Tryz.prog W .any base t v := hval0
    have hA : DataW.TrodAll enc Tryz.prog W 0 (fun _ => true) true Tryz.f7.params.toList args.toList ds ps := hA0
    have hwt : ∀ (j : Nat) t d, Tryz.f7.params.toList[j]? = some t → ds[j]? = some d → ∀ n ∈ d.weights Tryz.prog t, n ≤ reachBytes := hwt0
    clear hval0 hA0 hwt0
    rw [Tryz.params7] at hA hval hwt
    obtain ⟨v0, vs0, d0, ds0, p0, q0, hargs, rfl, rfl, h0, r0⟩ := trodAll_cons hA
    obtain ⟨v1, vs1, d1, ds1, p1, q1, rfl, rfl, rfl, h1, r1⟩ := trodAll_cons r0
    obtain ⟨rfl, rfl, rfl⟩ := trodAll_nil r1
    obtain rfl : args = #[v0, v1] := by cases args; simp_all
    obtain ⟨x0, e0, g0⟩ := open_arg op25 h0 (hwt 0 25 d0 rfl rfl)
    have a0 := arg_slice Tryz.underlying25 (hval 0 25 v0 rfl rfl) e0
    obtain ⟨x1, e1, g1⟩ := open_arg op50 h1 (hwt 1 50 d1 rfl rfl)
    obtain ⟨c1, rfl, a1⟩ := arg_struct Tryz.underlying50 (hval 1 50 v1 rfl rfl) e1
    obtain ⟨te, pe, hg1, hg3⟩ := g13 hsh hlaid
    obtain rfl := ask_split a1
    exact calls_of_con (one_con v0 x0 x1 te pe (by omega)) (List.forall_mem_cons.2 ⟨a0, List.forall_mem_cons.2 ⟨hg1, List.forall_mem_cons.2 ⟨hg3, fun _ h => by cases h⟩⟩⟩)
theorem codeOne_row : Rows.CodeOneSaid :=
  OpenClaim.holds_of_wide 7 Tryz.f7 rfl rfl rfl rfl rfl rfl rfl ⟨rfl, rfl, rfl, rfl, rfl⟩ rfl rfl rfl rfl rfl (by kernel_rfl) Tryz.func7 (by kernel_rfl)
    (of_decide_eq_true (by kernel_rfl)) (by unfold Func.isWrapper; first | (rw [if_pos (by decide +kernel)]; kernel_rfl) | (rw [if_neg (by decide +kernel)]; exact ⟨rfl, rfl⟩))
    (fun os started H enc _ => codeOne_lifted os started H enc)
/-- CodeOne: for every input it returns true, and its arguments read behind the call as before; the listed variables tied to the program's text. -/
theorem codeOne_card : Rows.CodeOneCardSaid :=
  Claim7.holds_tied_plain_at .later [] [.data, .data, .data, .data, .sentinel, .sentinel, .pinned] true (true, "6d03a9e2d4cfed1b2d9285196519f58a923d9b52a2270e802c816d31694e04cb") true
    codeOne_row (fun _ h => by cases h) (by kernel_rfl) (fun _ h => by cases h) codeOne_row_tie rfl ⟨rfl, rfl⟩ (by kernel_rfl) rfl
    (fun f fn hf hfn => by
      obtain rfl : f = 7 := Option.some.inj ((show Tryz.prog.funcNamed Tryz.f7.name = some 7 by kernel_rfl).symm.trans hf) |>.symm
      obtain rfl : fn = Tryz.f7 := (Option.some.inj (Tryz.func7.symm.trans hfn)).symm
      exact ⟨by kernel_rfl, fun j t ht => by
        rw [Tryz.params7] at ht
        have hm : t ∈ [25, 50] := by simpa using Array.mem_of_getElem? ht
        have hall : ([25, 50].all fun u => !Tryz.prog.wantsStandIn u) = true := by kernel_rfl
        exact (show Tryz.prog.wantsStandIn t = false by simpa using List.all_eq_true.1 hall t hm)⟩)
    (by kernel_rfl)
#print axioms codeOne_card
end Go.Proofs.YtmgkeippepeggaaGreatDoor

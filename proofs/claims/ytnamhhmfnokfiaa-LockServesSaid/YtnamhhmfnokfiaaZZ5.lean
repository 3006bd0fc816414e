/- The texts K5, K6, K7, K8, K9, KA, KB, L4, KC, L5, PO, one behind the other. -/
import Derived.Test.YtnamhhmfnokfiaaZZ4
import Derived.Laws.StructEq
set_option linter.unusedVariables false
set_option linter.unusedSimpArgs false
namespace Go.Proofs.Ytnamhhmfnokfiaa
open Go Go.SL
def tooR (L : List Hs) (x : Hs) : Bool := (getR L x.1 x.2.1).isSome
def insR (L : List Hs) (n : ByteArray) (has : Bool) (w : Hs) : List Hs → List Hs
  | [] => [w]
  | x :: r => if has = true ∧ x.2.1 = n ∧ tooR L x = false then w :: x :: r else x :: insR L n has w r
def wishR (L : List Hs) (o : Int) (n : ByteArray) (m : Int) : Hs := (o, n, match getR L o n with | some had => bothL had m | none => m)
def askR (L W : List Hs) (o : Int) (n : ByteArray) (m : Int) : List Hs × List Hs × Bool × Int :=
  if o < 0 ∨ ¬ isM m then (L, W, false, 1)
  else if (waitR W o).isSome then (L, W, false, 120)
  else if getR L o n = some (wishR L o n m).2.2 then (L, W, true, 0)
  else if mayR L (wishR L o n m) = true ∧ ((getR L o n).isSome = true ∨ (queueR W n).length = 0) then (getsR L (wishR L o n m), W, true, 0)
  else (L, insR L n (getR L o n).isSome (wishR L o n m) W, false, 0)
/-- Behind i of those who wait. -/
def InsJ (L W : List Hs) (n : ByteArray) (has : Bool) (w : Hs) (i : Nat) (done : Bool) (out : List Hs) : Prop :=
  i ≤ W.length ∧ out.length ≤ i + 1 ∧ if done = true then insR L n has w W = out ++ W.drop i else out = W.take i ∧ insR L n has w W = W.take i ++ insR L n has w (W.drop i)
theorem insJ_0 (L W : List Hs) (n : ByteArray) (has : Bool) (w : Hs) : InsJ L W n has w 0 false [] := ⟨Nat.zero_le _, Nat.zero_le _, by simp⟩
theorem insJ_hit {L W : List Hs} {n : ByteArray} {has : Bool} {w : Hs} {i : Nat} {out : List Hs} (h : InsJ L W n has w i false out) (hi : i < W.length) (hc : has = true ∧ W[i].2.1 = n ∧ tooR L W[i] = false) : InsJ L W n has w (i + 1) true (out ++ [w] ++ [W[i]]) := by
  obtain ⟨h1, h2, h3, h4⟩ := h
  have h5 : out.length ≤ i := by rw [h3]; simp; omega
  refine ⟨hi, by simp; omega, ?_⟩
  rw [if_pos rfl, h4, List.drop_eq_getElem_cons hi, insR, if_pos hc, h3]
  simp
theorem insJ_miss {L W : List Hs} {n : ByteArray} {has : Bool} {w : Hs} {i : Nat} {done : Bool} {out : List Hs} (h : InsJ L W n has w i done out) (hi : i < W.length) (hc : ¬ (done = false ∧ has = true ∧ W[i].2.1 = n ∧ tooR L W[i] = false)) : InsJ L W n has w (i + 1) done (out ++ [W[i]]) := by
  obtain ⟨h1, h2, h3⟩ := h
  refine ⟨hi, by simp; omega, ?_⟩
  cases done with
  | true =>
    rw [if_pos rfl] at h3 ⊢
    rw [h3, List.drop_eq_getElem_cons hi]; simp
  | false =>
    rw [if_neg (by simp)] at h3 ⊢
    obtain ⟨h4, h5⟩ := h3
    refine ⟨by rw [h4, List.take_succ_eq_append_getElem hi], ?_⟩
    rw [h5, List.drop_eq_getElem_cons hi, insR, if_neg fun k => hc ⟨rfl, k⟩, List.take_succ_eq_append_getElem hi, List.append_assoc]
    rfl
theorem insJ_end {L W : List Hs} {n : ByteArray} {has : Bool} {w : Hs} {done : Bool} {out : List Hs} (h : InsJ L W n has w W.length done out) : (if done = true then out else out ++ [w]) = insR L n has w W := by
  obtain ⟨_, _, h3⟩ := h
  cases done with
  | true => rw [if_pos rfl] at h3 ⊢; rw [h3]; simp
  | false =>
    rw [if_neg (by simp)] at h3 ⊢
    obtain ⟨h4, h5⟩ := h3
    rw [h5, h4]; simp [insR]
attribute [local irreducible] Cfg Kont StepK Val Con Qops Any Sl Own Blk BlkR Rd Pu ExA AllA Has Pick Ent Elem Beside Callable TI Lone OwnO AndA
set_option maxRecDepth 100000 in
theorem askR_con (lv wv : Value) (L W : List Hs) (o : Int) (n : ByteArray) (m : Int) (hL : L.length ≤ 1000) (hW : W.length ≤ 1000) :
    Con Try.prog 61 [.agg #[lv, wv], .int .i64 o, .string n, .int .i64 m] [Sl eHs lv L, Sl eHs wv W] (γ := Value × Value) (fun r => .tuple #[.agg #[r.1, r.2], .bool (askR L W o n m).2.2.1, .int .i64 (askR L W o n m).2.2.2]) (fun _ => True) (fun r => [Sl eHs r.1 (askR L W o n m).1, Sl eHs r.2 (askR L W o n m).2.1]) := by
  refine con_of Try.func61 rfl (dd rfl) fun w0 O0 => ?_
  refine c_seq ?_
  refine c_region ?_
  refine o_step (s_box rfl (dd rfl) (fun b4 => ?_))
  refine o_step (s_alloc ti78 (dd rfl) (fun b8 => ?_))
  refine o_val (v_assign rfl) (dd rfl) ?_
  refine o_val (v_assign rfl) (dd rfl) ?_
  refine o_nil ?_
  refine c_seq ?_
  refine c_seq ?_
  refine c_env (env' := [(1, _), (2, _), (3, _), (4, _), (8, _), (9, _), (10, _)]) (by repeat (first | exact trivial | refine ⟨rfl, ?_⟩)) ?_
  refine c_joinb (d := 31) (decide (o < 0 ∨ ¬ isM m)) ?_ ?_
  rotate_left
  · intro J
    refine c_region ?_
    refine o_val (v_move rfl) (dd rfl) ?_
    refine o_val (v_lt rfl rfl) (dd rfl) ?_
    refine o_val (v_move rfl) (dd rfl) ?_
    first | refine o_guard_f rfl rfl (fun g24 => ?_) (fun g24 => ?_) | refine o_guard rfl rfl (fun g24 => ?_) (fun g24 => ?_)
    · refine o_val (v_move rfl) (dd rfl) ?_
      refine o_on rfl rfl ?_
      refine o_val (v_lt rfl rfl) (dd rfl) ?_
      refine o_val (v_pick_f rfl rfl) (dd rfl) ?_
      refine o_val (v_move rfl) (dd rfl) ?_
      first | refine o_guard_f rfl rfl (fun g28 => ?_) (fun g28 => ?_) | refine o_guard rfl rfl (fun g28 => ?_) (fun g28 => ?_)
      · refine o_val (v_move rfl) (dd rfl) ?_
        refine o_on rfl rfl ?_
        refine o_val (v_gt rfl rfl) (dd rfl) ?_
        refine o_val (v_pick_f rfl rfl) (dd rfl) ?_
        refine o_nil ?_
        exact c_use J ⟨Env.as rfl (congrArg Value.bool (by unfold isM; first | (simp; omega) | (simp_all; done) | (simp_all; omega))), (by repeat (first | exact trivial | refine ⟨rfl, ?_⟩))⟩ (by first | exact Ent.refl _ | exact eX (by repeat constructor))
      · refine o_off rfl rfl rfl (dd rfl) ?_
        refine o_off rfl rfl rfl (dd rfl) ?_
        refine o_val (v_pick_t rfl rfl) (dd rfl) ?_
        refine o_nil ?_
        exact c_use J ⟨Env.as rfl (congrArg Value.bool (by unfold isM; first | (simp; omega) | (simp_all; done) | (simp_all; omega))), (by repeat (first | exact trivial | refine ⟨rfl, ?_⟩))⟩ (by first | exact Ent.refl _ | exact eX (by repeat constructor))
    · refine o_off rfl rfl rfl (dd rfl) ?_
      refine o_off rfl rfl rfl (dd rfl) ?_
      refine o_val (v_pick_t rfl rfl) (dd rfl) ?_
      refine o_val (v_move rfl) (dd rfl) ?_
      refine o_off rfl rfl rfl (dd rfl) ?_
      refine o_off rfl rfl rfl (dd rfl) ?_
      refine o_val (v_pick_t rfl rfl) (dd rfl) ?_
      refine o_nil ?_
      exact c_use J ⟨Env.as rfl (congrArg Value.bool (by unfold isM; first | (simp; omega) | (simp_all; done) | (simp_all; omega))), (by repeat (first | exact trivial | refine ⟨rfl, ?_⟩))⟩ (by first | exact Ent.refl _ | exact eX (by repeat constructor))
  refine c_cond_p rfl (fun h1 => ?_) (fun h1 => ?_)
  · have hg : askR L W o n m = (L, W, false, 1) := if_pos h1
    refine c_seq ?_
    refine c_region ?_
    refine o_val (v_load_all ⟨_, Try.underlying78⟩ ti78 rfl (hX (by repeat constructor)) rfl) (dd rfl) ?_
    refine o_step (s_store_all ti78 rfl rfl (by first | exact CellsV.lit rfl | exact CellsV.one (by first | exact OneC.lit rfl | exact OneC.sl (hX (by repeat constructor)) )) (by repeat (first | exact OneAll.nil | (refine OneAll.cons ?_ ?_; · first | exact OneC.lit rfl | exact OneC.sl (hX (by repeat constructor)) ) | exact OneAll.rd (hX (by repeat constructor)))) rfl (pB (by repeat constructor)) rfl (?_))
    refine o_val (v_assign rfl) (dd rfl) ?_
    refine o_val (v_assign rfl) (dd rfl) ?_
    refine o_nil ?_
    refine c_ret_ctt Try.func61 rfl ⟨_, Try.underlying78⟩ ti78 rfl rfl rfl (hX (by repeat constructor)) fun w O hS => ?_
    refine ⟨(lv, wv), by rw [hg]; rfl, trivial, ?_⟩
    rw [hg]
    exact Ent.get hS (eX (by repeat constructor))
  · refine c_skip ?_
    refine c_seq ?_
    refine c_region ?_
    refine o_val (v_load_all ⟨_, Try.underlying78⟩ ti78 rfl (hX (by repeat constructor)) rfl) (dd rfl) ?_
    refine o_val (v_move rfl) (dd rfl) ?_
    refine o_step (s_callf cl65 (waitR_con lv wv L W o (by omega)) rfl (dd rfl) (pXs (by repeat constructor)) fun _ _ => ?_)
    refine o_val (v_move rfl) (dd rfl) ?_
    refine o_val (v_extract rfl rfl) (dd rfl) ?_
    refine o_val (v_extract rfl rfl) (dd rfl) ?_
    refine o_step (s_alloc ti90 (dd rfl) (fun b11 => ?_))
    refine o_step (s_store_all ti90 rfl rfl (by first | exact CellsV.lit rfl | exact CellsV.one (by first | exact OneC.lit rfl | exact OneC.sl (hX (by repeat constructor)) )) (by repeat (first | exact OneAll.nil | (refine OneAll.cons ?_ ?_; · first | exact OneC.lit rfl | exact OneC.sl (hX (by repeat constructor)) ) | exact OneAll.rd (hX (by repeat constructor)))) rfl (pB (by repeat constructor)) rfl (?_))
    refine o_val (v_assign rfl) (dd rfl) ?_
    refine o_nil ?_
    refine c_seq ?_
    refine c_seq ?_
    refine c_region ?_
    refine o_val (v_move rfl) (dd rfl) ?_
    refine o_nil ?_
    refine c_cond rfl (fun hw => ?_) (fun hw => ?_)
    · have hg : askR L W o n m = (L, W, false, 120) := (if_neg h1).trans (if_pos hw)
      refine c_seq ?_
      refine c_region ?_
      refine o_val (v_load_all ⟨_, Try.underlying78⟩ ti78 rfl (hX (by repeat constructor)) rfl) (dd rfl) ?_
      refine o_step (s_store_all ti78 rfl rfl (by first | exact CellsV.lit rfl | exact CellsV.one (by first | exact OneC.lit rfl | exact OneC.sl (hX (by repeat constructor)) )) (by repeat (first | exact OneAll.nil | (refine OneAll.cons ?_ ?_; · first | exact OneC.lit rfl | exact OneC.sl (hX (by repeat constructor)) ) | exact OneAll.rd (hX (by repeat constructor)))) rfl (pB (by repeat constructor)) rfl (?_))
      refine o_val (v_assign rfl) (dd rfl) ?_
      refine o_val (v_assign rfl) (dd rfl) ?_
      refine o_nil ?_
      refine c_ret_ctt Try.func61 rfl ⟨_, Try.underlying78⟩ ti78 rfl rfl rfl (hX (by repeat constructor)) fun w O hS => ?_
      refine ⟨(lv, wv), by rw [hg]; rfl, trivial, ?_⟩
      rw [hg]
      exact Ent.get hS (eX (by repeat constructor))
    · have hw' : ¬ (waitR W o).isSome = true := by simpa using hw
      refine c_skip ?_
      refine c_seq ?_
      refine c_region ?_
      refine o_val (v_load_all ⟨_, Try.underlying78⟩ ti78 rfl (hX (by repeat constructor)) rfl) (dd rfl) ?_
      refine o_val (v_move rfl) (dd rfl) ?_
      refine o_val (v_move rfl) (dd rfl) ?_
      refine o_step (s_callf cl64 (get_con lv wv L W o n (by omega)) rfl (dd rfl) (pXs (by repeat constructor)) fun _ _ => ?_)
      refine o_val (v_move rfl) (dd rfl) ?_
      refine o_val (v_extract rfl rfl) (dd rfl) ?_
      refine o_val (v_extract rfl rfl) (dd rfl) ?_
      refine o_val (v_assign rfl) (dd rfl) ?_
      refine o_val (v_assign rfl) (dd rfl) ?_
      refine o_nil ?_
      refine c_seq ?_
      refine c_region ?_
      refine o_val (v_move rfl) (dd rfl) ?_
      refine o_val (v_move rfl) (dd rfl) ?_
      refine o_val (v_move rfl) (dd rfl) ?_
      refine o_val (v_buildS (places := [(0, 1), (1, 1), (2, 1)]) (cells := [_, _, _]) Try.underlying90 ti90 (by kernel_rfl) rfl (by repeat (first | exact PartsC.nil | (apply PartsC.one (by first | exact OneC.lit rfl | exact OneC.sl (hX (by repeat constructor)) )) | (apply PartsC.lit rfl))) rfl) (dd rfl) ?_
      refine o_step (s_alloc ti90 (dd rfl) (fun b15 => ?_))
      refine o_step (s_store_all ti90 rfl rfl (by first | exact CellsV.lit rfl | exact CellsV.one (by first | exact OneC.lit rfl | exact OneC.sl (hX (by repeat constructor)) )) (by repeat (first | exact OneAll.nil | (refine OneAll.cons ?_ ?_; · first | exact OneC.lit rfl | exact OneC.sl (hX (by repeat constructor)) ) | exact OneAll.rd (hX (by repeat constructor)))) rfl (pB (by repeat constructor)) rfl (?_))
      refine o_nil ?_
      refine c_seq ?_
      refine c_seq ?_
      refine c_region ?_
      refine o_val (v_move rfl) (dd rfl) ?_
      refine o_nil ?_
      refine c_joinR (γ := Int) [(2, _), (4, _), (8, _), (9, _), (10, _), (14, _), (15, _)] (fun mm => mm = (wishR L o n m).2.2 ∧ ¬ getR L o n = some (wishR L o n m).2.2) (fun _ => []) (fun mm => [Blk b15 90 [.int .i64 o, .string n, .int .i64 mm], Blk b4 78 [lv, wv], Blk b8 78 [.slice none 0 0, .slice none 0 0], Sl eHs lv L, Sl eHs wv W]) (by repeat (first | exact trivial | refine ⟨rfl, ?_⟩)) ?_ ?_
      · rintro mm ⟨rfl, hne⟩
        dsimp only [List.cons_append, List.nil_append]
        refine c_seq ?_
        refine c_seq ?_
        refine c_env (env' := [(2, _), (4, _), (8, _), (9, _), (10, _), (14, _), (15, _)]) (by repeat (first | exact trivial | refine ⟨rfl, ?_⟩)) ?_
        refine c_joinb (d := 74) (decide (mayR L (wishR L o n m) = true ∧ ((getR L o n).isSome = true ∨ (queueR W n).length = 0))) ?_ ?_
        rotate_left
        · intro J
          refine c_region ?_
          refine o_val (v_load_all ⟨_, Try.underlying78⟩ ti78 rfl (hX (by repeat constructor)) rfl) (dd rfl) ?_
          refine o_val (v_load_all ⟨_, Try.underlying90⟩ ti90 rfl (hX (by repeat constructor)) rfl) (dd rfl) ?_
          refine o_step (s_callf_keep cl97 (mayR_con lv wv L W (wishR L o n m) (by omega)) rfl (dd rfl) (rX (by repeat constructor)) (fun _ => sX) (fun _ _ => ?_))
          refine o_val (v_move rfl) (dd rfl) ?_
          first | refine o_guard_t rfl rfl (fun g65 => ?_) (fun g65 => ?_) | refine o_guard rfl rfl (fun g65 => ?_) (fun g65 => ?_)
          · refine o_val (v_move rfl) (dd rfl) ?_
            refine o_on rfl rfl ?_
            refine o_val (v_move rfl) (dd rfl) ?_
            first | refine o_guard_f rfl rfl (fun g67 => ?_) (fun g67 => ?_) | refine o_guard rfl rfl (fun g67 => ?_) (fun g67 => ?_)
            · refine o_val (v_load_all ⟨_, Try.underlying78⟩ ti78 rfl (hX (by repeat constructor)) rfl) (dd rfl) ?_
              refine o_on rfl rfl ?_
              refine o_val (v_move rfl) (dd rfl) ?_
              refine o_on rfl rfl ?_
              refine o_step (s_callf_keep cl66 (queueR_con lv wv L W n (by omega)) rfl (dd rfl) (rX (by repeat constructor)) (fun _ => sX) (fun r70 _ => ?_))
              refine o_on rfl rfl ?_
              refine o_val ((by first | exact v_len_form Try.underlying76 rfl | exact v_len_sl Try.underlying76 rfl (hX (by repeat constructor)))) (dd rfl) ?_
              refine o_on rfl rfl ?_
              refine o_val (v_eq rfl rfl) (dd rfl) ?_
              refine o_on rfl rfl ?_
              refine o_val (v_pick_f rfl rfl) (dd rfl) ?_
              refine o_val (v_pick_t rfl rfl) (dd rfl) ?_
              refine o_nil ?_
              exact c_use J ⟨Env.as rfl (congrArg Value.bool (by first | rfl | (simp_all; done) | (simp_all; omega) | (simp; omega))), (by repeat (first | exact trivial | refine ⟨rfl, ?_⟩))⟩ (by first | exact Ent.refl _ | exact eX (by repeat constructor))
            · refine o_off rfl rfl rfl (dd rfl) ?_
              refine o_off rfl rfl rfl (dd rfl) ?_
              refine o_off rfl rfl rfl (dd rfl) ?_
              refine o_off rfl rfl rfl (dd rfl) ?_
              refine o_off rfl rfl rfl (dd rfl) ?_
              refine o_on rfl rfl ?_
              refine o_val (v_pick_t rfl rfl) (dd rfl) ?_
              refine o_val (v_pick_t rfl rfl) (dd rfl) ?_
              refine o_nil ?_
              exact c_use J ⟨Env.as rfl (congrArg Value.bool (by first | rfl | (simp_all; done) | (simp_all; omega) | (simp; omega))), (by repeat (first | exact trivial | refine ⟨rfl, ?_⟩))⟩ (by first | exact Ent.refl _ | exact eX (by repeat constructor))
          · refine o_off rfl rfl rfl (dd rfl) ?_
            refine o_off rfl rfl rfl (dd rfl) ?_
            refine o_offu rfl rfl (dd rfl) ?_
            refine o_offu rfl rfl (dd rfl) ?_
            refine o_offu rfl rfl (dd rfl) ?_
            refine o_offu rfl rfl (dd rfl) ?_
            refine o_offu rfl rfl (dd rfl) ?_
            refine o_off rfl rfl rfl (dd rfl) ?_
            refine o_val (v_pick_f rfl rfl) (dd rfl) ?_
            refine o_nil ?_
            exact c_use J ⟨Env.as rfl (congrArg Value.bool (by first | rfl | (simp_all; done) | (simp_all; omega) | (simp; omega))), (by repeat (first | exact trivial | refine ⟨rfl, ?_⟩))⟩ (by first | exact Ent.refl _ | exact eX (by repeat constructor))
        refine c_cond_p rfl (fun hm => ?_) (fun hm => ?_)
        · have hg : askR L W o n m = (getsR L (wishR L o n m), W, true, 0) := (if_neg h1).trans ((if_neg hw').trans ((if_neg hne).trans (if_pos hm)))
          refine c_seq ?_
          refine c_region ?_
          refine o_val (v_load_all ⟨_, Try.underlying78⟩ ti78 rfl (hX (by repeat constructor)) rfl) (dd rfl) ?_
          refine o_val (v_load_all ⟨_, Try.underlying90⟩ ti90 rfl (hX (by repeat constructor)) rfl) (dd rfl) ?_
          refine o_step (s_callf cl98 (getsR_con lv wv L W (wishR L o n m) (by omega)) rfl (dd rfl) (pXs (by repeat constructor)) fun r _ => ?_)
          refine o_step (s_store_all ti78 rfl rfl (by first | exact CellsV.lit rfl | exact CellsV.one (by first | exact OneC.lit rfl | exact OneC.sl (hX (by repeat constructor)) )) (by repeat (first | exact OneAll.nil | (refine OneAll.cons ?_ ?_; · first | exact OneC.lit rfl | exact OneC.sl (hX (by repeat constructor)) ) | exact OneAll.rd (hX (by repeat constructor)))) rfl (pB (by repeat constructor)) rfl (?_))
          refine o_val (v_assign rfl) (dd rfl) ?_
          refine o_val (v_assign rfl) (dd rfl) ?_
          refine o_nil ?_
          refine c_ret_ctt Try.func61 rfl ⟨_, Try.underlying78⟩ ti78 rfl rfl rfl (hX (by repeat constructor)) fun w O hS => ?_
          refine ⟨(r, wv), by rw [hg]; rfl, trivial, ?_⟩
          rw [hg]
          exact Ent.get hS (eX (by repeat constructor))
        · have hg : askR L W o n m = (L, insR L n (getR L o n).isSome (wishR L o n m) W, false, 0) := (if_neg h1).trans ((if_neg hw').trans ((if_neg hne).trans (if_neg hm)))
          refine c_skip ?_
          refine c_seq ?_
          refine c_region ?_
          refine o_val (v_assign rfl) (dd rfl) ?_
          refine o_nil ?_
          refine c_seq ?_
          refine c_region ?_
          refine o_val (v_assign rfl) (dd rfl) ?_
          refine o_nil ?_
          refine c_seq ?_
          refine c_seq ?_
          refine c_region ?_
          refine o_val (v_assign rfl) (dd rfl) ?_
          refine o_nil ?_
          refine c_block ?_
          refine c_ent (Ent.beside (b := Own eHs 90 (.slice none 0 0) ([] : List Hs)) (fun w O _ => Own.nil eHs 90 w _)) ?_
          refine c_loopR (γ := Nat × Value × Bool × List Hs) [(2, _), (4, _), (8, _), (9, _), (10, _), (14, _), (15, _)] (fun g => W.length - g.1) (fun g => InsJ L W n (getR L o n).isSome (wishR L o n m) g.1 g.2.2.1 g.2.2.2) (fun g => [(18, .int .i64 g.1), (16, g.2.1), (17, .bool g.2.2.1)]) (fun g => [Own eHs 90 g.2.1 g.2.2.2, Blk b15 90 [.int .i64 o, .string n, .int .i64 (wishR L o n m).2.2], Blk b4 78 [lv, wv], Blk b8 78 [.slice none 0 0, .slice none 0 0], Sl eHs lv L, Sl eHs wv W]) ((0, .slice none 0 0, false, [])) ((insJ_0 L W n _ _)) (by repeat (first | exact trivial | refine ⟨rfl, ?_⟩)) (eX (by repeat constructor)) ?_
          rintro ⟨i, u, done, out⟩ hJ IH
          dsimp only at hJ ⊢
          have hi := hJ.1
          have hol := hJ.2.1
          try dsimp only [List.cons_append, List.nil_append]
          refine c_seq ?_
          refine c_seq ?_
          refine c_region ?_
          refine o_val (v_move rfl) (dd rfl) ?_
          refine o_val (v_fieldAddrC 1 Try.underlying78 rfl ti76 (by decide) rfl) (dd rfl) ?_
          refine o_val (v_load lone76 rfl (hX (by repeat constructor)) rfl) (dd rfl) ?_
          refine o_val ((by first | exact v_len_form Try.underlying76 rfl | exact v_len_sl Try.underlying76 rfl (hX (by repeat constructor)))) (dd rfl) ?_
          refine o_val (v_lt rfl rfl) (dd rfl) ?_
          refine o_nil ?_
          refine c_cond_p rfl (fun hlt => ?_) (fun hlt => ?_)
          · have hi' : i < W.length := by omega
            refine c_skip ?_
            refine c_seq ?_
            refine c_block ?_
            refine c_seq ?_
            refine c_region ?_
            refine o_val (v_fieldAddrC 1 Try.underlying78 rfl ti76 (by decide) rfl) (dd rfl) ?_
            refine o_val (v_load lone76 rfl (hX (by repeat constructor)) rfl) (dd rfl) ?_
            refine o_val (v_move rfl) (dd rfl) ?_
            refine o_val ((by first | exact v_indexAddrN Try.underlying76 ti90 rfl rfl (hX (by repeat constructor)) (by omega) | exact v_indexAddr Try.underlying76 ti90 rfl rfl (hX (by repeat constructor)) (by omega))) (dd rfl) ?_
            refine o_val (v_load_p (by repeat (first | exact PEnc.int _ | exact PEnc.str | exact PEnc.bool | exact PEnc.byte | exact PEnc.raw | apply PEnc.pair | apply PEnc.map)) ⟨_, Try.underlying90⟩ ti90 rfl (by repeat (first|exact el1 (by omega)|exact el2 (by omega)|exact el3 (by omega)|apply Elem.there))) (dd rfl) ?_
            refine o_step (s_alloc ti90 (dd rfl) (fun b19 => ?_))
            refine o_step (s_store_all ti90 rfl rfl (by first | exact CellsV.lit rfl | exact CellsV.one (by first | exact OneC.lit rfl | exact OneC.sl (hX (by repeat constructor)) )) (by repeat (first | exact OneAll.nil | (refine OneAll.cons ?_ ?_; · first | exact OneC.lit rfl | exact OneC.sl (hX (by repeat constructor)) ) | exact OneAll.rd (hX (by repeat constructor)))) rfl (pB (by repeat constructor)) rfl (?_))
            refine o_nil ?_
            refine c_seq ?_
            refine c_region ?_
            refine o_val (v_load_all ⟨_, Try.underlying78⟩ ti78 rfl (hX (by repeat constructor)) rfl) (dd rfl) ?_
            refine o_val (v_fieldAddrC 0 Try.underlying90 rfl ti3 (by decide) rfl) (dd rfl) ?_
            refine o_val (v_load lone3 rfl (hX (by repeat constructor)) rfl) (dd rfl) ?_
            refine o_val (v_fieldAddrC 1 Try.underlying90 rfl ti9 (by decide) rfl) (dd rfl) ?_
            refine o_val (v_load lone9 rfl (hX (by repeat constructor)) rfl) (dd rfl) ?_
            refine o_step (s_callf_keep cl64 (get_con lv wv L W _ _ (by omega)) rfl (dd rfl) (rX (by repeat constructor)) (fun _ => sX) (fun _ _ => ?_))
            refine o_val (v_move rfl) (dd rfl) ?_
            refine o_val (v_extract rfl rfl) (dd rfl) ?_
            refine o_val (v_extract rfl rfl) (dd rfl) ?_
            refine o_val (v_assign rfl) (dd rfl) ?_
            refine o_val (v_assign rfl) (dd rfl) ?_
            refine o_nil ?_
            refine c_seq ?_
            refine c_seq ?_
            refine c_env (env' := [(2, _), (4, _), (8, _), (9, _), (10, _), (14, _), (15, _), (16, _), (17, _), (18, _), (19, _), (21, _), (78, _), (79, _), (80, _), (81, _), (82, _), (85, _), (86, _), (87, _), (88, _), (89, _), (90, _), (91, _), (92, _), (93, _), (94, _), (95, _), (96, _), (97, _), (98, _)]) (by repeat (first | exact trivial | refine ⟨rfl, ?_⟩)) ?_
            refine c_joinb (d := 113) (decide (done = false ∧ (getR L o n).isSome = true ∧ (W[i]'hi').2.1 = n ∧ tooR L (W[i]'hi') = false)) ?_ ?_
            rotate_left
            · intro J
              refine c_region ?_
              refine o_val (v_move rfl) (dd rfl) ?_
              refine o_val (v_not rfl) (dd rfl) ?_
              refine o_val (v_move rfl) (dd rfl) ?_
              first | refine o_guard_t rfl rfl (fun g101 => ?_) (fun g101 => ?_) | refine o_guard rfl rfl (fun g101 => ?_) (fun g101 => ?_)
              · refine o_val (v_move rfl) (dd rfl) ?_
                refine o_val (v_pick_t rfl rfl) (dd rfl) ?_
                refine o_val (v_move rfl) (dd rfl) ?_
                first | refine o_guard_t rfl rfl (fun g104 => ?_) (fun g104 => ?_) | refine o_guard rfl rfl (fun g104 => ?_) (fun g104 => ?_)
                · refine o_val (v_fieldAddrC 1 Try.underlying90 rfl ti9 (by decide) rfl) (dd rfl) ?_
                  refine o_on rfl rfl ?_
                  refine o_val (v_load lone9 rfl (hX (by repeat constructor)) rfl) (dd rfl) ?_
                  refine o_on rfl rfl ?_
                  refine o_val (v_move rfl) (dd rfl) ?_
                  refine o_on rfl rfl ?_
                  refine o_val (v_seq rfl rfl) (dd rfl) ?_
                  refine o_val (v_pick_t rfl rfl) (dd rfl) ?_
                  refine o_val (v_move rfl) (dd rfl) ?_
                  first | refine o_guard_t rfl rfl (fun g110 => ?_) (fun g110 => ?_) | refine o_guard rfl rfl (fun g110 => ?_) (fun g110 => ?_)
                  · refine o_val (v_move rfl) (dd rfl) ?_
                    refine o_on rfl rfl ?_
                    refine o_val (v_not rfl) (dd rfl) ?_
                    refine o_val (v_pick_t rfl rfl) (dd rfl) ?_
                    refine o_nil ?_
                    exact c_use J ⟨Env.as rfl (congrArg Value.bool (by unfold tooR; first | (simp; done) | (generalize (getR L (W[i]'hi').1 (W[i]'hi').2.1).isSome = too at *; cases too <;> simp_all; done) | (simp_all; done))), (by repeat (first | exact trivial | refine ⟨rfl, ?_⟩))⟩ (by first | exact Ent.refl _ | exact eX (by repeat constructor))
                  · refine o_off rfl rfl rfl (dd rfl) ?_
                    refine o_off rfl rfl rfl (dd rfl) ?_
                    refine o_val (v_pick_f rfl rfl) (dd rfl) ?_
                    refine o_nil ?_
                    exact c_use J ⟨Env.as rfl (congrArg Value.bool (by unfold tooR; first | (simp; done) | (generalize (getR L (W[i]'hi').1 (W[i]'hi').2.1).isSome = too at *; cases too <;> simp_all; done) | (simp_all; done))), (by repeat (first | exact trivial | refine ⟨rfl, ?_⟩))⟩ (by first | exact Ent.refl _ | exact eX (by repeat constructor))
                · refine o_off rfl rfl rfl (dd rfl) ?_
                  refine o_off rfl rfl rfl (dd rfl) ?_
                  refine o_off rfl rfl rfl (dd rfl) ?_
                  refine o_off rfl rfl rfl (dd rfl) ?_
                  refine o_val (v_pick_f rfl rfl) (dd rfl) ?_
                  refine o_val (v_move rfl) (dd rfl) ?_
                  refine o_off rfl rfl rfl (dd rfl) ?_
                  refine o_off rfl rfl rfl (dd rfl) ?_
                  refine o_val (v_pick_f rfl rfl) (dd rfl) ?_
                  refine o_nil ?_
                  exact c_use J ⟨Env.as rfl (congrArg Value.bool (by unfold tooR; first | (simp; done) | (generalize (getR L (W[i]'hi').1 (W[i]'hi').2.1).isSome = too at *; cases too <;> simp_all; done) | (simp_all; done))), (by repeat (first | exact trivial | refine ⟨rfl, ?_⟩))⟩ (by first | exact Ent.refl _ | exact eX (by repeat constructor))
              · refine o_off rfl rfl rfl (dd rfl) ?_
                refine o_val (v_pick_f rfl rfl) (dd rfl) ?_
                refine o_val (v_move rfl) (dd rfl) ?_
                refine o_off rfl rfl rfl (dd rfl) ?_
                refine o_off rfl rfl rfl (dd rfl) ?_
                refine o_off rfl rfl rfl (dd rfl) ?_
                refine o_off rfl rfl rfl (dd rfl) ?_
                refine o_val (v_pick_f rfl rfl) (dd rfl) ?_
                refine o_val (v_move rfl) (dd rfl) ?_
                refine o_off rfl rfl rfl (dd rfl) ?_
                refine o_off rfl rfl rfl (dd rfl) ?_
                refine o_val (v_pick_f rfl rfl) (dd rfl) ?_
                refine o_nil ?_
                exact c_use J ⟨Env.as rfl (congrArg Value.bool (by unfold tooR; first | (simp; done) | (generalize (getR L (W[i]'hi').1 (W[i]'hi').2.1).isSome = too at *; cases too <;> simp_all; done) | (simp_all; done))), (by repeat (first | exact trivial | refine ⟨rfl, ?_⟩))⟩ (by first | exact Ent.refl _ | exact eX (by repeat constructor))
            refine c_cond_p rfl (fun hh => ?_) (fun hh => ?_)
            · refine c_seq ?_
              refine c_region ?_
              refine o_val (v_move rfl) (dd rfl) ?_
              refine o_val (v_load_all ⟨_, Try.underlying90⟩ ti90 rfl (hX (by repeat constructor)) rfl) (dd rfl) ?_
              refine o_step (s_buildSlice Try.underlying76 ti90 rfl rfl rfl (by decide) (by decide) (beside_agg1 (Beside.rd fun W0 O => hs_rd W0 O (wishR L o n m))) rfl rfl (dd rfl) fun v1 => ?_)
              refine o_step (s_append Try.underlying76 ti90 rfl (by decide) rfl rfl (dd rfl) (pB (by repeat constructor)) (pX (by repeat constructor)) rfl (by (first | omega | (simp only [maxLen, List.length_append, List.length_drop, List.length_take, List.length_nil, List.length_cons]; omega))) (by (first | omega | (simp only [maxLen, List.length_append, List.length_drop, List.length_take, List.length_nil, List.length_cons]; omega))) fun v2 => ?_)
              refine o_val (v_assign rfl) (dd rfl) ?_
              refine o_nil ?_
              refine c_region ?_
              refine o_val (v_assign rfl) (dd rfl) ?_
              refine o_nil ?_
              refine c_region ?_
              refine o_val (v_move rfl) (dd rfl) ?_
              refine o_val (v_load_all ⟨_, Try.underlying90⟩ ti90 rfl (hX (by repeat constructor)) rfl) (dd rfl) ?_
              refine o_step (s_buildSlice Try.underlying76 ti90 rfl rfl rfl (by decide) (by decide) (beside_agg1 (Beside.rd fun W0 O => hs_rd W0 O (W[i]'hi'))) rfl rfl (dd rfl) fun v3 => ?_)
              refine o_step (s_append Try.underlying76 ti90 rfl (by decide) rfl rfl (dd rfl) (pB (by repeat constructor)) (pX (by repeat constructor)) rfl (by (first | omega | (simp only [maxLen, List.length_append, List.length_drop, List.length_take, List.length_nil, List.length_cons]; omega))) (by (first | omega | (simp only [maxLen, List.length_append, List.length_drop, List.length_take, List.length_nil, List.length_cons]; omega))) fun v4 => ?_)
              refine o_val (v_assign rfl) (dd rfl) ?_
              refine o_nil ?_
              refine c_inBlock ?_
              refine c_region ?_
              refine o_val (v_move rfl) (dd rfl) ?_
              refine o_val ((by first | exact v_add64 rfl rfl (by omega) | exact v_add rfl rfl)) (dd rfl) ?_
              refine o_val (v_assign rfl) (dd rfl) ?_
              refine o_nil ?_
              refine c_use (IH ((i + 1, v4, true, out ++ [wishR L o n m] ++ [W[i]'hi'])) (by first | omega | (dsimp only; omega)) ((by obtain ⟨rfl, h2⟩ := hh; exact insJ_hit hJ hi' h2))) (by repeat (first | exact trivial | refine ⟨rfl, ?_⟩)) (eX (by repeat constructor))
            · refine c_skip ?_
              refine c_region ?_
              refine o_val (v_move rfl) (dd rfl) ?_
              refine o_val (v_load_all ⟨_, Try.underlying90⟩ ti90 rfl (hX (by repeat constructor)) rfl) (dd rfl) ?_
              refine o_step (s_buildSlice Try.underlying76 ti90 rfl rfl rfl (by decide) (by decide) (beside_agg1 (Beside.rd fun W0 O => hs_rd W0 O (W[i]'hi'))) rfl rfl (dd rfl) fun v3 => ?_)
              refine o_step (s_append Try.underlying76 ti90 rfl (by decide) rfl rfl (dd rfl) (pB (by repeat constructor)) (pX (by repeat constructor)) rfl (by (first | omega | (simp only [maxLen, List.length_append, List.length_drop, List.length_take, List.length_nil, List.length_cons]; omega))) (by (first | omega | (simp only [maxLen, List.length_append, List.length_drop, List.length_take, List.length_nil, List.length_cons]; omega))) fun v4 => ?_)
              refine o_val (v_assign rfl) (dd rfl) ?_
              refine o_nil ?_
              refine c_inBlock ?_
              refine c_region ?_
              refine o_val (v_move rfl) (dd rfl) ?_
              refine o_val ((by first | exact v_add64 rfl rfl (by omega) | exact v_add rfl rfl)) (dd rfl) ?_
              refine o_val (v_assign rfl) (dd rfl) ?_
              refine o_nil ?_
              refine c_use (IH ((i + 1, v4, done, out ++ [W[i]'hi'])) (by first | omega | (dsimp only; omega)) ((insJ_miss hJ hi' hh))) (by repeat (first | exact trivial | refine ⟨rfl, ?_⟩)) (eX (by repeat constructor))
          · have hie : i = W.length := by omega
            subst hie
            have hend := insJ_end hJ
            refine c_exit rfl ?_
            refine c_seq ?_
            refine c_seq ?_
            refine c_region ?_
            refine o_val (v_move rfl) (dd rfl) ?_
            refine o_val (v_not rfl) (dd rfl) ?_
            refine o_nil ?_
            refine c_joinR (γ := Value) [(4, _), (8, _), (9, _), (10, _)] (fun _ => True) (fun u => [(16, u)]) (fun u => [Own eHs 90 u (insR L n (getR L o n).isSome (wishR L o n m) W), Blk b4 78 [lv, wv], Blk b8 78 [.slice none 0 0, .slice none 0 0], Sl eHs lv L, Sl eHs wv W]) (by repeat (first | exact trivial | refine ⟨rfl, ?_⟩)) ?_ ?_
            · rintro r -
              dsimp only [List.cons_append, List.nil_append]
              refine c_seq ?_
              refine c_region ?_
              refine o_val (v_move rfl) (dd rfl) ?_
              refine o_val (v_fieldAddrC 1 Try.underlying78 rfl ti76 (by decide) rfl) (dd rfl) ?_
              refine o_step (s_store1 ti76 rfl rfl (by first | exact OneC.lit rfl | exact OneC.sl (hX (by repeat constructor)) ) (pB (by repeat constructor)) (by first | decide | exact Nat.le_of_ble_eq_true rfl | simp) (by first | (dsimp only [List.set_cons_succ, List.set_cons_zero]; first | done | exact rfl) | rfl) (?_))
              refine o_nil ?_
              refine c_seq ?_
              refine c_region ?_
              refine o_val (v_load_all ⟨_, Try.underlying78⟩ ti78 rfl (hX (by repeat constructor)) rfl) (dd rfl) ?_
              refine o_step (s_store_all ti78 rfl rfl (by first | exact CellsV.lit rfl | exact CellsV.one (by first | exact OneC.lit rfl | exact OneC.sl (hX (by repeat constructor)) )) (by repeat (first | exact OneAll.nil | (refine OneAll.cons ?_ ?_; · first | exact OneC.lit rfl | exact OneC.sl (hX (by repeat constructor)) ) | exact OneAll.rd (hX (by repeat constructor)))) rfl (pB (by repeat constructor)) rfl (?_))
              refine o_val (v_assign rfl) (dd rfl) ?_
              refine o_val (v_assign rfl) (dd rfl) ?_
              refine o_nil ?_
              refine c_ret_ctt Try.func61 rfl ⟨_, Try.underlying78⟩ ti78 rfl rfl rfl (hX (by repeat constructor)) fun w O hS => ?_
              refine ⟨(lv, r), by rw [hg]; rfl, trivial, ?_⟩
              rw [hg]
              exact Ent.get hS (eX (by repeat constructor))
            · intro MEET
              skip
              refine c_cond rfl (fun hd => ?_) (fun hd => ?_)
              · have hd' : done = false := by simpa using hd
                rw [if_neg (by rw [hd']; simp)] at hend
                refine c_region ?_
                refine o_val (v_move rfl) (dd rfl) ?_
                refine o_val (v_load_all ⟨_, Try.underlying90⟩ ti90 rfl (hX (by repeat constructor)) rfl) (dd rfl) ?_
                refine o_step (s_buildSlice Try.underlying76 ti90 rfl rfl rfl (by decide) (by decide) (beside_agg1 (Beside.rd fun W0 O => hs_rd W0 O (wishR L o n m))) rfl rfl (dd rfl) fun v1 => ?_)
                refine o_step (s_append Try.underlying76 ti90 rfl (by decide) rfl rfl (dd rfl) (pB (by repeat constructor)) (pX (by repeat constructor)) rfl (by (first | omega | (simp only [maxLen, List.length_append, List.length_drop, List.length_take, List.length_nil, List.length_cons]; omega))) (by (first | omega | (simp only [maxLen, List.length_append, List.length_drop, List.length_take, List.length_nil, List.length_cons]; omega))) fun v2 => ?_)
                refine o_val (v_assign rfl) (dd rfl) ?_
                refine o_nil ?_
                rw [hend]
                refine c_use (MEET (v2) (trivial)) (by repeat (first | exact trivial | refine ⟨rfl, ?_⟩)) (eX (by repeat constructor))
              · have hd' : done = true := by simpa using hd
                rw [if_pos hd'] at hend
                rw [hend]
                refine c_skip ?_
                refine c_use (MEET (u) (trivial)) (by repeat (first | exact trivial | refine ⟨rfl, ?_⟩)) (eX (by repeat constructor))
      · intro MEET
        skip
        refine c_cond rfl (fun hs => ?_) (fun hs => ?_)
        · obtain ⟨had, hgt⟩ := Option.isSome_iff_exists.1 hs
          have hgd : (getR L o n).getD 0 = had := by rw [hgt]; rfl
          have hwm : (wishR L o n m).2.2 = bothL had m := by unfold wishR; rw [hgt]
          refine c_seq ?_
          refine c_region ?_
          refine o_val (v_move rfl) (dd rfl) ?_
          refine o_val (v_move rfl) (dd rfl) ?_
          refine o_step (s_callf cl34 (refBoth_con _ m) rfl (dd rfl) (pXs (by repeat constructor)) fun _ _ => ?_)
          refine o_val (v_fieldAddrC 2 Try.underlying90 rfl ti3 (by decide) rfl) (dd rfl) ?_
          refine o_step (s_store1 ti3 rfl rfl (by first | exact OneC.lit rfl | exact OneC.sl (hX (by repeat constructor)) ) (pB (by repeat constructor)) (by first | decide | exact Nat.le_of_ble_eq_true rfl | simp) (by first | (dsimp only [List.set_cons_succ, List.set_cons_zero]; first | done | exact rfl) | rfl) (?_))
          refine o_nil ?_
          refine c_seq ?_
          refine c_region ?_
          refine o_val (v_fieldAddrC 2 Try.underlying90 rfl ti3 (by decide) rfl) (dd rfl) ?_
          refine o_val (v_load lone3 rfl (hX (by repeat constructor)) rfl) (dd rfl) ?_
          refine o_val (v_move rfl) (dd rfl) ?_
          refine o_val (v_eq rfl rfl) (dd rfl) ?_
          refine o_nil ?_
          rw [hgd]
          refine c_cond_p rfl (fun hq => ?_) (fun hq => ?_)
          · have hg : askR L W o n m = (L, W, true, 0) := (if_neg h1).trans ((if_neg hw').trans (if_pos (by rw [hgt, hwm, hq])))
            refine c_seq ?_
            refine c_region ?_
            refine o_val (v_load_all ⟨_, Try.underlying78⟩ ti78 rfl (hX (by repeat constructor)) rfl) (dd rfl) ?_
            refine o_step (s_store_all ti78 rfl rfl (by first | exact CellsV.lit rfl | exact CellsV.one (by first | exact OneC.lit rfl | exact OneC.sl (hX (by repeat constructor)) )) (by repeat (first | exact OneAll.nil | (refine OneAll.cons ?_ ?_; · first | exact OneC.lit rfl | exact OneC.sl (hX (by repeat constructor)) ) | exact OneAll.rd (hX (by repeat constructor)))) rfl (pB (by repeat constructor)) rfl (?_))
            refine o_val (v_assign rfl) (dd rfl) ?_
            refine o_val (v_assign rfl) (dd rfl) ?_
            refine o_nil ?_
            refine c_ret_ctt Try.func61 rfl ⟨_, Try.underlying78⟩ ti78 rfl rfl rfl (hX (by repeat constructor)) fun w O hS => ?_
            refine ⟨(lv, wv), by rw [hg]; rfl, trivial, ?_⟩
            rw [hg]
            exact Ent.get hS (eX (by repeat constructor))
          · refine c_skip ?_
            refine c_use (MEET (bothL had m) (⟨hwm.symm, by rw [hgt, hwm]; intro k; exact hq (Option.some.inj k).symm⟩)) (by repeat (first | exact trivial | refine ⟨rfl, ?_⟩)) (eX (by repeat constructor))
        · have hgt : getR L o n = none := Option.isNone_iff_eq_none.1 (by rw [← Option.not_isSome, hs]; rfl)
          refine c_skip ?_
          refine c_use (MEET (m) (⟨by unfold wishR; rw [hgt], by rw [hgt]; simp⟩)) (by repeat (first | exact trivial | refine ⟨rfl, ?_⟩)) (eX (by repeat constructor))
end Go.Proofs.Ytnamhhmfnokfiaa
namespace Go.Proofs.Ytnamhhmfnokfiaa
open Go Go.SL
theorem hs_ext {a b : Hs} : a = b ↔ a.1 = b.1 ∧ a.2.1 = b.2.1 ∧ a.2.2 = b.2.2 := by
  obtain ⟨a1, a2, a3⟩ := a; obtain ⟨b1, b2, b3⟩ := b; simp
theorem fields_hs : (Try.prog.fieldsOf 90).toList.map (fun f => (f.name == "_", f.type, f.offset)) = [(false, 3, 0), (false, 9, 1), (false, 3, 2)] := by kernel_rfl
theorem eqF_cons {P : Program} {d : Nat} {xs ys : Array Value} {f : Field} {fs : List Field} {w : World} {a b : Value} {r : Bool} (hn : (f.name == "_") = false) (ha : (part f.type xs f.offset).run P w = .ok a w) (hb : (part f.type ys f.offset).run P w = .ok b w) (hr : (Op.equalIn d f.type a b).run P w = .ok r w) :
    (Op.eqFields d xs ys (f :: fs)).run P w = if r = true then (Op.eqFields d xs ys fs).run P w else .ok false w := by
  have hn' : f.name ≠ "_" := fun h => by rw [h] at hn; simp at hn
  rw [Op.eqFields, if_pos hn']
  simp only [Sem.run_bind, ha, hb, hr, Result.andThen_ok]
  cases r <;> simp
theorem part_lone {P : Program} {t : TypeId} {d : TypeDesc} {xs : Array Value} {o : Nat} {v : Value} {w : World} (hu : P.underlying t = some d) (hd : match d with | .struct _ => False | .array _ _ => False | _ => True) (hv : xs[o]? = some v) : (part t xs o).run P w = .ok v w := by
  have hia : (isAgg t).run P w = .ok false w := by
    cases d <;> simp_all [isAgg, run_underlying hu]
  simp [part, hia, hv]
theorem eqF_hs (w : World) (z z' : Hs) : (Op.eqFields 9999 #[.int .i64 z.1, .string z.2.1, .int .i64 z.2.2] #[.int .i64 z'.1, .string z'.2.1, .int .i64 z'.2.2] (Try.prog.fieldsOf 90).toList).run Try.prog w = .ok (decide (z = z')) w := by
  have h := fields_hs
  generalize (Try.prog.fieldsOf 90).toList = fs at h
  have hl : fs.length = 3 := by simpa using congrArg List.length h
  obtain ⟨f0, f1, f2, rfl⟩ : ∃ f0 f1 f2 : Field, fs = [f0, f1, f2] := by
    cases fs with
    | nil => simp at hl
    | cons f0 fs => cases fs with
      | nil => simp at hl
      | cons f1 fs => cases fs with
        | nil => simp at hl
        | cons f2 fs => cases fs with
          | nil => exact ⟨f0, f1, f2, rfl⟩
          | cons f3 fs => simp at hl
  · simp only [List.map_cons, List.map_nil, List.cons.injEq, Prod.mk.injEq, and_true] at h
    obtain ⟨⟨n0, t0, o0⟩, ⟨n1, t1, o1⟩, n2, t2, o2⟩ := h
    have e1 : ∀ x y : ByteArray, (x.toList == y.toList) = decide (x = y) := fun x y => by
      rw [Bool.eq_iff_iff]
      simp only [beq_iff_eq, decide_eq_true_eq]
      constructor
      · intro k
        rw [ByteArray.toList_eq, ByteArray.toList_eq] at k
        exact ByteArray.ext (Array.toList_inj.1 k)
      · rintro rfl; rfl
    rw [eqF_cons n0 (part_lone (by rw [t0]; exact Try.underlying3) trivial (by rw [o0]; rfl)) (part_lone (by rw [t0]; exact Try.underlying3) trivial (by rw [o0]; rfl)) (by rw [t0]; exact run_equalIn_int w _ _ _ _ _ _ Try.underlying3),
      eqF_cons n1 (part_lone (by rw [t1]; exact Try.underlying9) trivial (by rw [o1]; rfl)) (part_lone (by rw [t1]; exact Try.underlying9) trivial (by rw [o1]; rfl)) (by rw [t1]; exact run_equalIn_string w _ _ _ _ Try.underlying9),
      eqF_cons n2 (part_lone (by rw [t2]; exact Try.underlying3) trivial (by rw [o2]; rfl)) (part_lone (by rw [t2]; exact Try.underlying3) trivial (by rw [o2]; rfl)) (by rw [t2]; exact run_equalIn_int w _ _ _ _ _ _ Try.underlying3)]
    rw [e1]
    by_cases h1 : z.1 = z'.1
    · by_cases h2 : z.2.1 = z'.2.1
      · by_cases h3 : z.2.2 = z'.2.2
        · rw [decide_eq_true (hs_ext.2 ⟨h1, h2, h3⟩)]
          simp [h1, h2, h3, Op.eqFields]
        · rw [decide_eq_false fun k => h3 (hs_ext.1 k).2.2]
          simp [h1, h2, h3]
      · rw [decide_eq_false fun k => h2 (hs_ext.1 k).2.1]
        simp [h1, h2]
    · rw [decide_eq_false fun k => h1 (hs_ext.1 k).1]
      simp [h1]
theorem v_eq_hs {X : Cx} {env : Env} {L : List A} {x y : Operand} {yT T : TypeId} {z z' : Hs} (hX : X.P = Try.prog) (hx : env.eval x = some (hsV z)) (hy : env.eval y = some (hsV z')) : Val X env L (.binOp .eql 90 x y yT) T (.bool (decide (z = z'))) :=
  fun _ _ _ _ a w O ha _ => by
    rw [hX]
    simp only [execOp, ha.eval hx, ha.eval hy, hsV]
    have hg := run_eqGuard_agg (P := Try.prog) w .eql 90 x y #[.int .i64 z.1, .string z.2.1, .int .i64 z.2.2] #[.int .i64 z'.1, .string z'.2.1, .int .i64 z'.2.2] (by kernel_rfl)
    have he := run_eql_struct (P := Try.prog) w 90 #[.int .i64 z.1, .string z.2.1, .int .i64 z.2.2] #[.int .i64 z'.1, .string z'.2.1, .int .i64 z'.2.2]
    rw [run_equalIn_agg w 9999 90 _ _ (by kernel_rfl) (by kernel_rfl), eqF_hs] at he
    simp [hg, he, Result.andThen]
theorem v_ne_hs {X : Cx} {env : Env} {L : List A} {x y : Operand} {yT T : TypeId} {z z' : Hs} (hX : X.P = Try.prog) (hx : env.eval x = some (hsV z)) (hy : env.eval y = some (hsV z')) : Val X env L (.binOp .neq 90 x y yT) T (.bool (!decide (z = z'))) :=
  fun _ _ _ _ a w O ha _ => by
    rw [hX]
    simp only [execOp, ha.eval hx, ha.eval hy, hsV]
    have hg := run_eqGuard_agg (P := Try.prog) w .neq 90 x y #[.int .i64 z.1, .string z.2.1, .int .i64 z.2.2] #[.int .i64 z'.1, .string z'.2.1, .int .i64 z'.2.2] (by kernel_rfl)
    have he := run_neq_struct (P := Try.prog) w 90 #[.int .i64 z.1, .string z.2.1, .int .i64 z.2.2] #[.int .i64 z'.1, .string z'.2.1, .int .i64 z'.2.2]
    rw [run_equalIn_agg w 9999 90 _ _ (by kernel_rfl) (by kernel_rfl), eqF_hs] at he
    simp [hg, he, Result.andThen]
end Go.Proofs.Ytnamhhmfnokfiaa
namespace Go.Proofs.Ytnamhhmfnokfiaa
open Go Go.SL
def frstP (L W : List Hs) (x : Hs) : Bool := decide ((queueR W x.2.1)[0]? = some x) && mayR L x
def firstR (L W : List Hs) : Option Hs := W.find? (frstP L W)
theorem queue_pos {W : List Hs} {i : Nat} (hi : i < W.length) : 0 < (queueR W W[i].2.1).length :=
  List.length_pos_iff.2 (List.ne_nil_of_mem (List.mem_filter.2 ⟨List.getElem_mem hi, decide_eq_true rfl⟩))
attribute [local irreducible] Cfg Kont StepK Val Con Qops Any Sl Own Blk BlkR Rd Pu ExA AllA Has Pick Ent Elem Beside Callable TI Lone OwnO AndA
set_option maxRecDepth 100000 in
theorem firstR_con (lv wv : Value) (L W : List Hs) (hL : L.length ≤ 1000) (hW : W.length ≤ 1000) :
    Con Try.prog 100 [.agg #[lv, wv]] [Sl eHs lv L, Sl eHs wv W] (γ := Unit) (fun _ => .tuple #[hsV ((firstR L W).getD hs0), .bool (firstR L W).isSome]) (fun _ => True) (fun _ => []) := by
  refine con_of Try.func100 rfl (dd rfl) fun w0 O0 => ?_
  refine c_seq ?_
  refine c_region ?_
  refine o_step (s_box rfl (dd rfl) (fun b1 => ?_))
  refine o_step (s_alloc ti90 (dd rfl) (fun b2 => ?_))
  refine o_val (v_assign rfl) (dd rfl) ?_
  refine o_nil ?_
  refine c_seq ?_
  refine c_seq ?_
  refine c_region ?_
  refine o_val (v_assign rfl) (dd rfl) ?_
  refine o_nil ?_
  refine c_block ?_
  refine c_loopR (γ := Nat) [(1, _), (2, _), (3, _)] (fun i => W.length - i) (fun i => i ≤ W.length ∧ ∀ (j : Nat) (hj : j < W.length), j < i → frstP L W W[j] = false) (fun i => [(4, .int .i64 i)]) (fun _ => [Blk b1 78 [lv, wv], Blk b2 90 [.int .i64 0, .string ByteArray.empty, .int .i64 0], Sl eHs lv L, Sl eHs wv W]) (0) (⟨Nat.zero_le _, fun _ _ h => by omega⟩) (by repeat (first | exact trivial | refine ⟨rfl, ?_⟩)) (eX (by repeat constructor)) ?_
  rintro i ⟨hi, hall⟩ IH
  try dsimp only [List.cons_append, List.nil_append]
  refine c_seq ?_
  refine c_seq ?_
  refine c_region ?_
  refine o_val (v_move rfl) (dd rfl) ?_
  refine o_val (v_fieldAddrC 1 Try.underlying78 rfl ti76 (by decide) rfl) (dd rfl) ?_
  refine o_val (v_load lone76 rfl (hX (by repeat constructor)) rfl) (dd rfl) ?_
  refine o_val ((by first | exact v_len_form Try.underlying76 rfl | exact v_len_sl Try.underlying76 rfl (hX (by repeat constructor)))) (dd rfl) ?_
  refine o_val (v_lt rfl rfl) (dd rfl) ?_
  refine o_nil ?_
  refine c_cond_p rfl (fun hlt => ?_) (fun hlt => ?_)
  · have hi' : i < W.length := by omega
    have hqp := queue_pos hi'
    refine c_skip ?_
    refine c_seq ?_
    refine c_block ?_
    refine c_seq ?_
    refine c_region ?_
    refine o_val (v_fieldAddrC 1 Try.underlying78 rfl ti76 (by decide) rfl) (dd rfl) ?_
    refine o_val (v_load lone76 rfl (hX (by repeat constructor)) rfl) (dd rfl) ?_
    refine o_val (v_move rfl) (dd rfl) ?_
    refine o_val ((by first | exact v_indexAddrN Try.underlying76 ti90 rfl rfl (hX (by repeat constructor)) (by omega) | exact v_indexAddr Try.underlying76 ti90 rfl rfl (hX (by repeat constructor)) (by omega))) (dd rfl) ?_
    refine o_val (v_load_p (by repeat (first | exact PEnc.int _ | exact PEnc.str | exact PEnc.bool | exact PEnc.byte | exact PEnc.raw | apply PEnc.pair | apply PEnc.map)) ⟨_, Try.underlying90⟩ ti90 rfl (by repeat (first|exact el1 (by omega)|exact el2 (by omega)|exact el3 (by omega)|apply Elem.there))) (dd rfl) ?_
    refine o_step (s_alloc ti90 (dd rfl) (fun b5 => ?_))
    refine o_step (s_store_all ti90 rfl rfl (by first | exact CellsV.lit rfl | exact CellsV.one (by first | exact OneC.lit rfl | exact OneC.sl (hX (by repeat constructor)) )) (by repeat (first | exact OneAll.nil | (refine OneAll.cons ?_ ?_; · first | exact OneC.lit rfl | exact OneC.sl (hX (by repeat constructor)) ) | exact OneAll.rd (hX (by repeat constructor)))) rfl (pB (by repeat constructor)) rfl (?_))
    refine o_nil ?_
    refine c_seq ?_
    refine c_held [BlkR b1 78 [lv, wv], BlkR b5 90 [.int .i64 (W[i]'hi').1, .string (W[i]'hi').2.1, .int .i64 (W[i]'hi').2.2], Sl eHs lv L, Sl eHs wv W] rfl ?_
    refine a_take 0 rfl (by kernel_rfl) (by kernel_rfl) (by kernel_rfl) (v_load_all ⟨_, Try.underlying78⟩ ti78 rfl (hX (by repeat constructor)) rfl) (eX (by repeat constructor)) (dd rfl) ?_
    refine a_take 1 rfl (by kernel_rfl) (by kernel_rfl) (by kernel_rfl) (v_fieldAddrC 1 Try.underlying90 rfl ti9 (by decide) rfl) (eX (by repeat constructor)) (dd rfl) ?_
    refine a_take 2 rfl (by kernel_rfl) (by kernel_rfl) (by kernel_rfl) (v_load lone9 rfl (hX (by repeat constructor)) rfl) (eX (by repeat constructor)) (dd rfl) ?_
    refine a_take 6 rfl (by kernel_rfl) (by kernel_rfl) (by kernel_rfl) (v_load_all ⟨_, Try.underlying90⟩ ti90 rfl (hX (by repeat constructor)) rfl) (eX (by repeat constructor)) (dd rfl) ?_
    refine a_one 3 rfl (by kernel_rfl) (s_callf cl66 (queueR_con lv wv L W (W[i]'hi').2.1 (by omega)) rfl (dd rfl) (pXs (by repeat constructor)) (fun q _ => a_on (eX (by repeat constructor)) ?_))
    refine a_one 4 rfl (by kernel_rfl) (s_val (v_indexAddr Try.underlying76 ti90 rfl rfl (hX (by repeat constructor)) (by omega)) (dd rfl) (a_on (eX (by repeat constructor)) ?_))
    refine a_one 5 rfl (by kernel_rfl) (s_val (v_load_p (by repeat (first | exact PEnc.int _ | exact PEnc.str | apply PEnc.pair)) ⟨_, Try.underlying90⟩ ti90 rfl (by repeat (first | exact Elem.own (List.getElem?_eq_getElem (by omega)) | apply Elem.there))) (dd rfl) (a_on (eX (by repeat constructor)) ?_))
    refine a_take 7 rfl (by kernel_rfl) (by kernel_rfl) (by kernel_rfl) (v_eq_hs rfl rfl rfl) (eX (by repeat constructor)) (dd rfl) ?_
    refine a_take 8 rfl (by kernel_rfl) (by kernel_rfl) (by kernel_rfl) (v_move rfl) (eX (by repeat constructor)) (dd rfl) ?_
    by_cases hq : (queueR W (W[i]'hi').2.1)[Int.toNat 0]'(by simpa using hqp) = W[i]'hi'
    · have hq0 : (queueR W (W[i]'hi').2.1)[0]? = some (W[i]'hi') := by rw [List.getElem?_eq_getElem hqp]; exact congrArg some hq
      refine a_know (s := 26) rfl (show _ = Value.bool true from congrArg Value.bool (decide_eq_true hq)) ?_
      refine a_take_on 9 rfl rfl rfl (by kernel_rfl) (by kernel_rfl) (by kernel_rfl) (v_load_all ⟨_, Try.underlying78⟩ ti78 rfl (hX (by repeat constructor)) rfl) (eX (by repeat constructor)) (dd rfl) ?_
      refine a_take_on 10 rfl rfl rfl (by kernel_rfl) (by kernel_rfl) (by kernel_rfl) (v_load_all ⟨_, Try.underlying90⟩ ti90 rfl (hX (by repeat constructor)) rfl) (eX (by repeat constructor)) (dd rfl) ?_
      refine a_one_on 11 rfl rfl rfl (by kernel_rfl) (s_callf cl97 (mayR_con lv wv L W (W[i]'hi') (by omega)) rfl (dd rfl) (pXs (by repeat constructor)) (fun _ _ => a_on (eX (by repeat constructor)) ?_))
      refine a_take 12 rfl (by kernel_rfl) (by kernel_rfl) (by kernel_rfl) (v_pick_t rfl rfl) (eX (by repeat constructor)) (dd rfl) ?_
      refine a_done (by kernel_rfl) ?_ _
      refine c_cond rfl (fun hm => ?_) (fun hm => ?_)
      · have hf : frstP L W (W[i]'hi') = true := by unfold frstP; rw [decide_eq_true hq0, hm]; rfl
        refine c_seq ?_
        refine c_region ?_
        refine o_val (v_load_all ⟨_, Try.underlying90⟩ ti90 rfl (hX (by repeat constructor)) rfl) (dd rfl) ?_
        refine o_step (s_store_all ti90 rfl rfl (by first | exact CellsV.lit rfl | exact CellsV.one (by first | exact OneC.lit rfl | exact OneC.sl (hX (by repeat constructor)) )) (by repeat (first | exact OneAll.nil | (refine OneAll.cons ?_ ?_; · first | exact OneC.lit rfl | exact OneC.sl (hX (by repeat constructor)) ) | exact OneAll.rd (hX (by repeat constructor)))) rfl (pB (by repeat constructor)) rfl (?_))
        refine o_val (v_assign rfl) (dd rfl) ?_
        refine o_nil ?_
        refine c_ret_ct Try.func100 rfl ⟨_, Try.underlying90⟩ ti90 rfl rfl (hX (by repeat constructor)) fun w O hS => ?_
        have hg : firstR L W = some (W[i]'hi') := find_at hi' hf hall
        exact ⟨(), by rw [hg]; rfl, trivial, trivial⟩
      · have hf : frstP L W (W[i]'hi') = false := by unfold frstP; rw [hm, Bool.and_false]
        refine c_skip ?_
        refine c_inBlock ?_
        refine c_region ?_
        refine o_val (v_move rfl) (dd rfl) ?_
        refine o_val ((by first | exact v_add64 rfl rfl (by omega) | exact v_add rfl rfl)) (dd rfl) ?_
        refine o_val (v_assign rfl) (dd rfl) ?_
        refine o_nil ?_
        refine c_use (IH (i + 1) (by first | omega | (dsimp only; omega)) (⟨by omega, fun j hj hji => (Nat.lt_succ_iff_lt_or_eq.1 hji).elim (hall j hj) fun h => by subst h; exact hf⟩)) (by repeat (first | exact trivial | refine ⟨rfl, ?_⟩)) (eX (by repeat constructor))
    · have hq0 : ¬ (queueR W (W[i]'hi').2.1)[0]? = some (W[i]'hi') := by
        rw [List.getElem?_eq_getElem hqp]; exact fun k => hq (Option.some.inj k)
      have hf : frstP L W (W[i]'hi') = false := by unfold frstP; rw [decide_eq_false hq0]; rfl
      skip
      refine a_know (s := 26) rfl (show _ = Value.bool false from congrArg Value.bool (decide_eq_false hq)) ?_
      refine a_take_off 9 rfl rfl rfl rfl (by kernel_rfl) (by kernel_rfl) (by kernel_rfl) (eX (by repeat constructor)) (dd rfl) ?_
      refine a_take_off 10 rfl rfl rfl rfl (by kernel_rfl) (by kernel_rfl) (by kernel_rfl) (eX (by repeat constructor)) (dd rfl) ?_
      refine a_take_off 11 rfl rfl rfl rfl (by kernel_rfl) (by kernel_rfl) (by kernel_rfl) (eX (by repeat constructor)) (dd rfl) ?_
      refine a_take 12 rfl (by kernel_rfl) (by kernel_rfl) (by kernel_rfl) (v_pick_f rfl rfl) (eX (by repeat constructor)) (dd rfl) ?_
      refine a_done (by kernel_rfl) ?_ _
      refine c_cond_f rfl ?_
      refine c_skip ?_
      refine c_inBlock ?_
      refine c_region ?_
      refine o_val (v_move rfl) (dd rfl) ?_
      refine o_val ((by first | exact v_add64 rfl rfl (by omega) | exact v_add rfl rfl)) (dd rfl) ?_
      refine o_val (v_assign rfl) (dd rfl) ?_
      refine o_nil ?_
      refine c_use (IH (i + 1) (by first | omega | (dsimp only; omega)) (⟨by omega, fun j hj hji => (Nat.lt_succ_iff_lt_or_eq.1 hji).elim (hall j hj) fun h => by subst h; exact hf⟩)) (by repeat (first | exact trivial | refine ⟨rfl, ?_⟩)) (eX (by repeat constructor))
  · refine c_exit rfl ?_
    refine c_seq ?_
    refine c_region ?_
    refine o_val (v_buildS (places := [(0, 1), (1, 1), (2, 1)]) (cells := [.int .i64 0, .string ⟨#[]⟩, .int .i64 0]) Try.underlying90 ti90 (by kernel_rfl) rfl (by repeat (first | exact PartsC.nil | (apply PartsC.one (by first | exact OneC.lit rfl | exact OneC.sl (hX (by repeat constructor)) )) | (apply PartsC.lit rfl))) rfl) (dd rfl) ?_
    refine o_step (s_store_all ti90 rfl rfl (by first | exact CellsV.lit rfl | exact CellsV.one (by first | exact OneC.lit rfl | exact OneC.sl (hX (by repeat constructor)) )) (by repeat (first | exact OneAll.nil | (refine OneAll.cons ?_ ?_; · first | exact OneC.lit rfl | exact OneC.sl (hX (by repeat constructor)) ) | exact OneAll.rd (hX (by repeat constructor)))) rfl (pB (by repeat constructor)) rfl (?_))
    refine o_val (v_assign rfl) (dd rfl) ?_
    refine o_nil ?_
    refine c_ret_ct Try.func100 rfl ⟨_, Try.underlying90⟩ ti90 rfl rfl (hX (by repeat constructor)) fun w O hS => ?_
    have hg : firstR L W = none := find_no fun j hj => hall j hj (by omega)
    exact ⟨(), by rw [hg]; rfl, trivial, trivial⟩
end Go.Proofs.Ytnamhhmfnokfiaa
namespace Go.Proofs.Ytnamhhmfnokfiaa
open Go Go.SL
def barsR (L W : List Hs) (w : Hs) (s : Int) : Bool := (decide (s ≠ w.1) && ((getR L s w.2.1).isSome && !fitsL ((getR L s w.2.1).getD 0) w.2.2)) || ((queueR W w.2.1).takeWhile fun x => decide (x ≠ w)).any fun y => decide (y.1 = s)
def blockedR (L W : List Hs) (w : Hs) (sm : List Hs) : Bool := sm.any fun x => barsR L W w x.1
theorem tw_no {z : Hs} {p : Hs → Bool} : ∀ (Q : List Hs) (j : Nat), (∀ (t : Nat) (h : t < Q.length), t < j → p Q[t] = false) → (Q.length ≤ j ∨ ∃ h : j < Q.length, Q[j] = z) → (Q.takeWhile fun x => decide (x ≠ z)).any p = false
  | [], _, _, _ => rfl
  | x :: Q, 0, _, h => by
    rcases h with h | ⟨_, h⟩
    · simp at h
    · have h' : x = z := h
      rw [List.takeWhile_cons, if_neg (by simp [h'])]; rfl
  | x :: Q, j + 1, hp, h => by
    by_cases hx : x = z
    · rw [List.takeWhile_cons, if_neg (by simp [hx])]; rfl
    · rw [List.takeWhile_cons, if_pos (by simpa using hx), List.any_cons, show p x = false from hp 0 (by simp) (by omega), Bool.false_or]
      refine tw_no Q j (fun t ht htj => hp (t + 1) (by simp; omega) (by omega)) ?_
      rcases h with h | ⟨h1, h2⟩
      · exact .inl (by simpa using h)
      · exact .inr ⟨by simpa using h1, h2⟩
theorem tw_mem {z : Hs} : ∀ (Q : List Hs) (j : Nat) (hj : j < Q.length), (∀ (t : Nat) (h : t < Q.length), t ≤ j → Q[t] ≠ z) → Q[j] ∈ Q.takeWhile fun x => decide (x ≠ z)
  | x :: Q, 0, _, h => by
    have hx : x ≠ z := h 0 (by simp) (by omega)
    rw [List.takeWhile_cons, if_pos (by simpa using hx)]; simp
  | x :: Q, j + 1, hj, h => by
    have hx : x ≠ z := h 0 (by simp) (by omega)
    rw [List.takeWhile_cons, if_pos (by simpa using hx)]
    exact List.mem_cons_of_mem _ (tw_mem Q j (by simpa using hj) fun t ht htj => h (t + 1) (by simp; omega) (by omega))
attribute [local irreducible] Cfg Kont StepK Val Con Qops Any Sl Own Blk BlkR Rd Pu ExA AllA Has Pick Ent Elem Beside Callable TI Lone OwnO AndA
set_option maxRecDepth 100000 in
theorem blockedR_con (lv wv sv : Value) (L W sm : List Hs) (z : Hs) (hL : L.length ≤ 1000) (hW : W.length ≤ 1000) (hs : sm.length ≤ 1000) :
    Con Try.prog 73 [.agg #[lv, wv], hsV z, sv] [Sl eHs lv L, Sl eHs wv W, Sl eHs sv sm] (γ := Unit) (fun _ => .bool (blockedR L W z sm)) (fun _ => True) (fun _ => []) := by
  refine con_of Try.func73 rfl (dd rfl) fun w0 O0 => ?_
  refine c_seq ?_
  refine c_region ?_
  refine o_step (s_box rfl (dd rfl) (fun b3 => ?_))
  refine o_step (s_box rfl (dd rfl) (fun b4 => ?_))
  refine o_val (v_assign rfl) (dd rfl) ?_
  refine o_nil ?_
  refine c_seq ?_
  refine c_seq ?_
  refine c_region ?_
  refine o_val (v_assign rfl) (dd rfl) ?_
  refine o_nil ?_
  refine c_block ?_
  refine c_loopR (γ := Nat) [(2, _), (3, _), (4, _), (6, _)] (fun i => sm.length - i) (fun i => i ≤ sm.length ∧ ∀ (j : Nat) (hj : j < sm.length), j < i → barsR L W z sm[j].1 = false) (fun i => [(7, .int .i64 i)]) (fun _ => [Blk b3 78 [lv, wv], Blk b4 90 [.int .i64 z.1, .string z.2.1, .int .i64 z.2.2], Sl eHs lv L, Sl eHs wv W, Sl eHs sv sm]) (0) (⟨Nat.zero_le _, fun _ _ h => by omega⟩) (by repeat (first | exact trivial | refine ⟨rfl, ?_⟩)) (eX (by repeat constructor)) ?_
  rintro i ⟨hi, hall⟩ IH
  try dsimp only [List.cons_append, List.nil_append]
  refine c_seq ?_
  refine c_seq ?_
  refine c_region ?_
  refine o_val (v_move rfl) (dd rfl) ?_
  refine o_val (v_move rfl) (dd rfl) ?_
  refine o_val ((by first | exact v_len_form Try.underlying76 rfl | exact v_len_sl Try.underlying76 rfl (hX (by repeat constructor)))) (dd rfl) ?_
  refine o_val (v_lt rfl rfl) (dd rfl) ?_
  refine o_nil ?_
  refine c_cond_p rfl (fun hlt => ?_) (fun hlt => ?_)
  · have hi' : i < sm.length := by omega
    refine c_skip ?_
    refine c_seq ?_
    refine c_block ?_
    refine c_seq ?_
    refine c_held [BlkR b3 78 [lv, wv], BlkR b4 90 [.int .i64 z.1, .string z.2.1, .int .i64 z.2.2], Sl eHs lv L, Sl eHs wv W, Sl eHs sv sm] rfl ?_
    refine a_take 0 rfl (by kernel_rfl) (by kernel_rfl) (by kernel_rfl) (v_load_all ⟨_, Try.underlying78⟩ ti78 rfl (hX (by repeat constructor)) rfl) (eX (by repeat constructor)) (dd rfl) ?_
    refine a_take 1 rfl (by kernel_rfl) (by kernel_rfl) (by kernel_rfl) (v_move rfl) (eX (by repeat constructor)) (dd rfl) ?_
    refine a_take 2 rfl (by kernel_rfl) (by kernel_rfl) (by kernel_rfl) (v_move rfl) (eX (by repeat constructor)) (dd rfl) ?_
    refine a_take 3 rfl (by kernel_rfl) (by kernel_rfl) (by kernel_rfl) ((by first | exact v_indexAddrN Try.underlying76 ti90 rfl rfl (hX (by repeat constructor)) (by omega) | exact v_indexAddr Try.underlying76 ti90 rfl rfl (hX (by repeat constructor)) (by omega))) (eX (by repeat constructor)) (dd rfl) ?_
    refine a_take 4 rfl (by kernel_rfl) (by kernel_rfl) (by kernel_rfl) (v_fieldAddrC 0 Try.underlying90 rfl ti3 (by decide) rfl) (eX (by repeat constructor)) (dd rfl) ?_
    refine a_take 5 rfl (by kernel_rfl) (by kernel_rfl) (by kernel_rfl) ((by first | exact v_load_cell lone3 rfl (hX (by repeat constructor)) | exact v_load_fld lone3 rfl (by repeat (first|exact el1 (by omega)|exact el2 (by omega)|exact el3 (by omega)|apply Elem.there)) (by (try apply FldS.map); apply FldS.fst; (try apply FldS.map); first | exact FldS.int _ | exact FldS.str | exact FldS.bool | exact FldS.raw))) (eX (by repeat constructor)) (dd rfl) ?_
    refine a_take 6 rfl (by kernel_rfl) (by kernel_rfl) (by kernel_rfl) (v_fieldAddrC 1 Try.underlying90 rfl ti9 (by decide) rfl) (eX (by repeat constructor)) (dd rfl) ?_
    refine a_take 7 rfl (by kernel_rfl) (by kernel_rfl) (by kernel_rfl) (v_load lone9 rfl (hX (by repeat constructor)) rfl) (eX (by repeat constructor)) (dd rfl) ?_
    refine a_one 8 rfl (by kernel_rfl) (s_callf cl64 (get_con lv wv L W (sm[i]'hi').1 z.2.1 (by omega)) rfl (dd rfl) (pXs (by repeat constructor)) (fun _ _ => a_on (eX (by repeat constructor)) ?_))
    refine a_take 9 rfl (by kernel_rfl) (by kernel_rfl) (by kernel_rfl) (v_move rfl) (eX (by repeat constructor)) (dd rfl) ?_
    refine a_take 10 rfl (by kernel_rfl) (by kernel_rfl) (by kernel_rfl) (v_extract rfl rfl) (eX (by repeat constructor)) (dd rfl) ?_
    refine a_take 11 rfl (by kernel_rfl) (by kernel_rfl) (by kernel_rfl) (v_extract rfl rfl) (eX (by repeat constructor)) (dd rfl) ?_
    refine a_take 12 rfl (by kernel_rfl) (by kernel_rfl) (by kernel_rfl) (v_assign rfl) (eX (by repeat constructor)) (dd rfl) ?_
    refine a_take 13 rfl (by kernel_rfl) (by kernel_rfl) (by kernel_rfl) (v_assign rfl) (eX (by repeat constructor)) (dd rfl) ?_
    refine a_done (by kernel_rfl) ?_ _
    refine c_seq ?_
    refine c_seq ?_
    obtain ⟨got, hgot⟩ : ∃ got, got = getR L (sm[i]'hi').1 z.2.1 := ⟨_, rfl⟩
    rw [← hgot]
    refine c_joinR (γ := Bool) [(2, _), (3, _), (4, _), (6, _), (7, _), (8, _), (9, _), (12, _), (13, _), (14, _), (15, _), (18, _), (19, _), (20, _), (21, _), (22, _), (23, _), (24, _), (25, _), (26, _), (27, _), (28, _), (29, _)] (fun b => b = (decide ((sm[i]'hi').1 ≠ z.1) && (got.isSome && !fitsL (got.getD 0) z.2.2))) (fun b => [(47, .bool b)]) (fun _ => [Blk b3 78 [lv, wv], Blk b4 90 [.int .i64 z.1, .string z.2.1, .int .i64 z.2.2], Sl eHs lv L, Sl eHs wv W, Sl eHs sv sm]) (by repeat (first | exact trivial | refine ⟨rfl, ?_⟩)) ?_ ?_
    · rintro b hb
      dsimp only [List.cons_append, List.nil_append]
      refine c_cond rfl (fun hbt => ?_) (fun hbt => ?_)
      · have hx : barsR L W z (sm[i]'hi').1 = true := by unfold barsR; rw [← hgot, ← hb, hbt]; rfl
        refine c_seq ?_
        refine c_region ?_
        refine o_val (v_assign rfl) (dd rfl) ?_
        refine o_nil ?_
        refine c_ret1 Try.func73 rfl rfl fun w O hS => ?_
        exact ⟨(), congrArg Value.bool (List.any_eq_true.2 ⟨_, List.getElem_mem hi', hx⟩).symm, trivial, trivial⟩
      · refine c_skip ?_
        refine c_seq ?_
        refine c_region ?_
        refine o_val (v_load_all ⟨_, Try.underlying78⟩ ti78 rfl (hX (by repeat constructor)) rfl) (dd rfl) ?_
        refine o_val (v_fieldAddrC 1 Try.underlying90 rfl ti9 (by decide) rfl) (dd rfl) ?_
        refine o_val (v_load lone9 rfl (hX (by repeat constructor)) rfl) (dd rfl) ?_
        refine o_step (s_callf cl66 (queueR_con lv wv L W z.2.1 (by omega)) rfl (dd rfl) (pXs (by repeat constructor)) fun q _ => ?_)
        refine o_val (v_assign rfl) (dd rfl) ?_
        refine o_nil ?_
        refine c_seq ?_
        refine c_region ?_
        refine o_val (v_assign rfl) (dd rfl) ?_
        refine o_nil ?_
        refine c_block ?_
        obtain ⟨Q, hQ⟩ : ∃ Q, Q = queueR W z.2.1 := ⟨_, rfl⟩
        have hQl : Q.length ≤ 1000 := by rw [hQ]; exact Nat.le_trans (List.length_filter_le _ _) hW
        rw [← hQ]
        refine c_loopR (γ := Nat) [(2, _), (3, _), (4, _), (6, _), (7, _), (8, _), (9, _), (10, _), (12, _), (13, _), (14, _), (15, _), (18, _), (19, _), (20, _), (21, _), (22, _), (23, _), (24, _), (25, _), (26, _), (27, _), (28, _), (29, _), (47, _), (48, _), (49, _), (50, _), (51, _)] (fun j => Q.length - j) (fun j => j ≤ Q.length ∧ ∀ (t : Nat) (h : t < Q.length), t < j → Q[t] ≠ z ∧ Q[t].1 ≠ (sm[i]'hi').1) (fun j => [(11, .int .i64 j)]) (fun _ => [Own eHs 90 q Q, Blk b3 78 [lv, wv], Blk b4 90 [.int .i64 z.1, .string z.2.1, .int .i64 z.2.2], Sl eHs lv L, Sl eHs wv W, Sl eHs sv sm]) (0) (⟨Nat.zero_le _, fun _ _ h => by omega⟩) (by repeat (first | exact trivial | refine ⟨rfl, ?_⟩)) (eX (by repeat constructor)) ?_
        rintro j ⟨hj, hq2⟩ IH2
        try dsimp only [List.cons_append, List.nil_append]
        refine c_seq ?_
        refine c_seq ?_
        refine c_quiet rfl (by kernel_rfl) ?_
        refine q_val (v_move rfl) (dd rfl) ?_
        refine q_val (v_move rfl) (dd rfl) ?_
        refine q_val ((by first | exact v_len_form Try.underlying76 rfl | exact v_len_sl Try.underlying76 rfl (hX (by repeat constructor)))) (dd rfl) ?_
        refine q_val (v_lt rfl rfl) (dd rfl) ?_
        refine q_val (v_move rfl) (dd rfl) ?_
        refine q_guard_t rfl rfl (fun hjl => ?_) (fun hjl => ?_)
        · have hj' : j < Q.length := by omega
          refine q_val (v_move rfl) (dd rfl) ?_
          refine q_on rfl rfl ?_
          refine q_val (v_move rfl) (dd rfl) ?_
          refine q_on rfl rfl ?_
          refine q_val ((by first | exact v_indexAddrN Try.underlying76 ti90 rfl rfl (hX (by repeat constructor)) (by omega) | exact v_indexAddr Try.underlying76 ti90 rfl rfl (hX (by repeat constructor)) (by omega))) (dd rfl) ?_
          refine q_on rfl rfl ?_
          refine q_val (v_load_p (by repeat (first | exact PEnc.int _ | exact PEnc.str | exact PEnc.bool | exact PEnc.byte | exact PEnc.raw | apply PEnc.pair | apply PEnc.map)) ⟨_, Try.underlying90⟩ ti90 rfl (by repeat (first|exact el1 (by omega)|exact el2 (by omega)|exact el3 (by omega)|apply Elem.there))) (dd rfl) ?_
          refine q_on rfl rfl ?_
          refine q_val (v_load_all ⟨_, Try.underlying90⟩ ti90 rfl (hX (by repeat constructor)) rfl) (dd rfl) ?_
          refine q_on rfl rfl ?_
          refine q_val (v_ne_hs rfl rfl rfl) (dd rfl) ?_
          refine q_val (v_pick_t rfl rfl) (dd rfl) ?_
          refine q_nil ?_
          refine c_cond rfl (fun hne => ?_) (fun hne => ?_)
          · have hne' : Q[j] ≠ z := by simpa using hne
            refine c_skip ?_
            refine c_seq ?_
            refine c_block ?_
            refine c_seq ?_
            refine c_quiet rfl (by kernel_rfl) ?_
            refine q_val (v_move rfl) (dd rfl) ?_
            refine q_val (v_move rfl) (dd rfl) ?_
            refine q_val ((by first | exact v_indexAddrN Try.underlying76 ti90 rfl rfl (hX (by repeat constructor)) (by omega) | exact v_indexAddr Try.underlying76 ti90 rfl rfl (hX (by repeat constructor)) (by omega))) (dd rfl) ?_
            refine q_val (v_fieldAddrC 0 Try.underlying90 rfl ti3 (by decide) rfl) (dd rfl) ?_
            refine q_val ((by first | exact v_load_cell lone3 rfl (hX (by repeat constructor)) | exact v_load_fld lone3 rfl (by repeat (first|exact el1 (by omega)|exact el2 (by omega)|exact el3 (by omega)|apply Elem.there)) (by (try apply FldS.map); apply FldS.fst; (try apply FldS.map); first | exact FldS.int _ | exact FldS.str | exact FldS.bool | exact FldS.raw))) (dd rfl) ?_
            refine q_val (v_move rfl) (dd rfl) ?_
            refine q_val (v_move rfl) (dd rfl) ?_
            refine q_val ((by first | exact v_indexAddrN Try.underlying76 ti90 rfl rfl (hX (by repeat constructor)) (by omega) | exact v_indexAddr Try.underlying76 ti90 rfl rfl (hX (by repeat constructor)) (by omega))) (dd rfl) ?_
            refine q_val (v_fieldAddrC 0 Try.underlying90 rfl ti3 (by decide) rfl) (dd rfl) ?_
            refine q_val ((by first | exact v_load_cell lone3 rfl (hX (by repeat constructor)) | exact v_load_fld lone3 rfl (by repeat (first|exact el1 (by omega)|exact el2 (by omega)|exact el3 (by omega)|apply Elem.there)) (by (try apply FldS.map); apply FldS.fst; (try apply FldS.map); first | exact FldS.int _ | exact FldS.str | exact FldS.bool | exact FldS.raw))) (dd rfl) ?_
            refine q_val (v_eq rfl rfl) (dd rfl) ?_
            refine q_nil ?_
            refine c_cond_p rfl (fun heq => ?_) (fun heq => ?_)
            · have hx : barsR L W z (sm[i]'hi').1 = true := by
                unfold barsR
                rw [← hQ, Bool.or_eq_true]
                exact .inr (List.any_eq_true.2 ⟨Q[j], tw_mem Q j hj' fun t ht htj => (Nat.lt_or_ge t j).elim (fun h => (hq2 t ht h).1) fun h => by have : t = j := by omega
                                                                                                                                                   subst this; exact hne', decide_eq_true heq⟩)
              refine c_seq ?_
              refine c_region ?_
              refine o_val (v_assign rfl) (dd rfl) ?_
              refine o_nil ?_
              refine c_ret1 Try.func73 rfl rfl fun w O hS => ?_
              exact ⟨(), congrArg Value.bool (List.any_eq_true.2 ⟨_, List.getElem_mem hi', hx⟩).symm, trivial, trivial⟩
            · refine c_skip ?_
              refine c_inBlock ?_
              refine c_region ?_
              refine o_val (v_move rfl) (dd rfl) ?_
              refine o_val ((by first | exact v_add64 rfl rfl (by omega) | exact v_add rfl rfl)) (dd rfl) ?_
              refine o_val (v_assign rfl) (dd rfl) ?_
              refine o_nil ?_
              refine c_use (IH2 (j + 1) (by first | omega | (dsimp only; omega)) (⟨by omega, fun t ht htj => (Nat.lt_succ_iff_lt_or_eq.1 htj).elim (hq2 t ht) fun h => by subst h; exact ⟨hne', heq⟩⟩)) (by repeat (first | exact trivial | refine ⟨rfl, ?_⟩)) (eX (by repeat constructor))
          · have hez : Q[j] = z := by simpa using hne
            have hx : barsR L W z (sm[i]'hi').1 = false := by
              unfold barsR
              rw [← hgot, ← hb, hbt, Bool.false_or, ← hQ]
              exact tw_no Q j (fun t ht htj => decide_eq_false (hq2 t ht htj).2) (.inr ⟨hj', hez⟩)
            refine c_exit rfl ?_
            refine c_inBlock ?_
            refine c_region ?_
            refine o_val (v_move rfl) (dd rfl) ?_
            refine o_val ((by first | exact v_add64 rfl rfl (by omega) | exact v_add rfl rfl)) (dd rfl) ?_
            refine o_val (v_assign rfl) (dd rfl) ?_
            refine o_nil ?_
            refine c_use (IH (i + 1) (by first | omega | (dsimp only; omega)) (⟨by omega, fun t ht hti => (Nat.lt_succ_iff_lt_or_eq.1 hti).elim (hall t ht) fun h => by subst h; exact hx⟩)) (by repeat (first | exact trivial | refine ⟨rfl, ?_⟩)) (eX (by repeat constructor))
        · have hj' : Q.length ≤ j := by omega
          have hx : barsR L W z (sm[i]'hi').1 = false := by
            unfold barsR
            rw [← hgot, ← hb, hbt, Bool.false_or, ← hQ]
            exact tw_no Q j (fun t ht htj => decide_eq_false (hq2 t ht htj).2) (.inl hj')
          refine q_off rfl rfl rfl (dd rfl) ?_
          refine q_off rfl rfl rfl (dd rfl) ?_
          refine q_off rfl rfl rfl (dd rfl) ?_
          refine q_off rfl rfl rfl (dd rfl) ?_
          refine q_off rfl rfl rfl (dd rfl) ?_
          refine q_off rfl rfl rfl (dd rfl) ?_
          refine q_val (v_pick_f rfl rfl) (dd rfl) ?_
          refine q_nil ?_
          refine c_cond_f rfl ?_
          refine c_exit rfl ?_
          refine c_inBlock ?_
          refine c_region ?_
          refine o_val (v_move rfl) (dd rfl) ?_
          refine o_val ((by first | exact v_add64 rfl rfl (by omega) | exact v_add rfl rfl)) (dd rfl) ?_
          refine o_val (v_assign rfl) (dd rfl) ?_
          refine o_nil ?_
          refine c_use (IH (i + 1) (by first | omega | (dsimp only; omega)) (⟨by omega, fun t ht hti => (Nat.lt_succ_iff_lt_or_eq.1 hti).elim (hall t ht) fun h => by subst h; exact hx⟩)) (by repeat (first | exact trivial | refine ⟨rfl, ?_⟩)) (eX (by repeat constructor))
    · intro MEET
      skip
      by_cases c1 : (sm[i]'hi').1 ≠ z.1
      · by_cases c2 : got.isSome = true
        · skip
          refine c_held [BlkR b3 78 [lv, wv], BlkR b4 90 [.int .i64 z.1, .string z.2.1, .int .i64 z.2.2], Sl eHs lv L, Sl eHs wv W, Sl eHs sv sm] rfl ?_
          refine a_take 0 rfl (by kernel_rfl) (by kernel_rfl) (by kernel_rfl) (v_move rfl) (eX (by repeat constructor)) (dd rfl) ?_
          refine a_take 1 rfl (by kernel_rfl) (by kernel_rfl) (by kernel_rfl) (v_move rfl) (eX (by repeat constructor)) (dd rfl) ?_
          refine a_take 2 rfl (by kernel_rfl) (by kernel_rfl) (by kernel_rfl) ((by first | exact v_indexAddrN Try.underlying76 ti90 rfl rfl (hX (by repeat constructor)) (by omega) | exact v_indexAddr Try.underlying76 ti90 rfl rfl (hX (by repeat constructor)) (by omega))) (eX (by repeat constructor)) (dd rfl) ?_
          refine a_take 3 rfl (by kernel_rfl) (by kernel_rfl) (by kernel_rfl) (v_fieldAddrC 0 Try.underlying90 rfl ti3 (by decide) rfl) (eX (by repeat constructor)) (dd rfl) ?_
          refine a_take 4 rfl (by kernel_rfl) (by kernel_rfl) (by kernel_rfl) ((by first | exact v_load_cell lone3 rfl (hX (by repeat constructor)) | exact v_load_fld lone3 rfl (by repeat (first|exact el1 (by omega)|exact el2 (by omega)|exact el3 (by omega)|apply Elem.there)) (by (try apply FldS.map); apply FldS.fst; (try apply FldS.map); first | exact FldS.int _ | exact FldS.str | exact FldS.bool | exact FldS.raw))) (eX (by repeat constructor)) (dd rfl) ?_
          refine a_take 5 rfl (by kernel_rfl) (by kernel_rfl) (by kernel_rfl) (v_fieldAddrC 0 Try.underlying90 rfl ti3 (by decide) rfl) (eX (by repeat constructor)) (dd rfl) ?_
          refine a_take 6 rfl (by kernel_rfl) (by kernel_rfl) (by kernel_rfl) (v_load lone3 rfl (hX (by repeat constructor)) rfl) (eX (by repeat constructor)) (dd rfl) ?_
          refine a_take 7 rfl (by kernel_rfl) (by kernel_rfl) (by kernel_rfl) (v_ne rfl rfl) (eX (by repeat constructor)) (dd rfl) ?_
          refine a_take 8 rfl (by kernel_rfl) (by kernel_rfl) (by kernel_rfl) (v_move rfl) (eX (by repeat constructor)) (dd rfl) ?_
          refine a_know (s := 38) rfl (show _ = Value.bool true from congrArg Value.bool (decide_eq_true c1)) ?_
          refine a_take_on 9 rfl rfl rfl (by kernel_rfl) (by kernel_rfl) (by kernel_rfl) (v_move rfl) (eX (by repeat constructor)) (dd rfl) ?_
          refine a_take 10 rfl (by kernel_rfl) (by kernel_rfl) (by kernel_rfl) (v_pick_t rfl rfl) (eX (by repeat constructor)) (dd rfl) ?_
          refine a_take 11 rfl (by kernel_rfl) (by kernel_rfl) (by kernel_rfl) (v_move rfl) (eX (by repeat constructor)) (dd rfl) ?_
          refine a_know (s := 41) rfl (show _ = Value.bool true from congrArg Value.bool c2) ?_
          refine a_take_on 12 rfl rfl rfl (by kernel_rfl) (by kernel_rfl) (by kernel_rfl) (v_move rfl) (eX (by repeat constructor)) (dd rfl) ?_
          refine a_take_on 13 rfl rfl rfl (by kernel_rfl) (by kernel_rfl) (by kernel_rfl) (v_fieldAddrC 2 Try.underlying90 rfl ti3 (by decide) rfl) (eX (by repeat constructor)) (dd rfl) ?_
          refine a_take_on 14 rfl rfl rfl (by kernel_rfl) (by kernel_rfl) (by kernel_rfl) (v_load lone3 rfl (hX (by repeat constructor)) rfl) (eX (by repeat constructor)) (dd rfl) ?_
          refine a_one_on 15 rfl rfl rfl (by kernel_rfl) (s_callf cl33 (refFits_con (got.getD 0) z.2.2) rfl (dd rfl) (pXs (by repeat constructor)) (fun _ _ => a_on (eX (by repeat constructor)) ?_))
          refine a_take_on 16 rfl rfl rfl (by kernel_rfl) (by kernel_rfl) (by kernel_rfl) (v_not rfl) (eX (by repeat constructor)) (dd rfl) ?_
          refine a_take 17 rfl (by kernel_rfl) (by kernel_rfl) (by kernel_rfl) (v_pick_t rfl rfl) (eX (by repeat constructor)) (dd rfl) ?_
          refine a_done (by kernel_rfl) ?_ _
          refine c_use (MEET (!fitsL (got.getD 0) z.2.2) (by rw [decide_eq_true c1, c2]; rfl)) (by repeat (first | exact trivial | refine ⟨rfl, ?_⟩)) (eX (by repeat constructor))
        · have c2' : got.isSome = false := by simpa using c2
          skip
          refine c_held [BlkR b3 78 [lv, wv], BlkR b4 90 [.int .i64 z.1, .string z.2.1, .int .i64 z.2.2], Sl eHs lv L, Sl eHs wv W, Sl eHs sv sm] rfl ?_
          refine a_take 0 rfl (by kernel_rfl) (by kernel_rfl) (by kernel_rfl) (v_move rfl) (eX (by repeat constructor)) (dd rfl) ?_
          refine a_take 1 rfl (by kernel_rfl) (by kernel_rfl) (by kernel_rfl) (v_move rfl) (eX (by repeat constructor)) (dd rfl) ?_
          refine a_take 2 rfl (by kernel_rfl) (by kernel_rfl) (by kernel_rfl) ((by first | exact v_indexAddrN Try.underlying76 ti90 rfl rfl (hX (by repeat constructor)) (by omega) | exact v_indexAddr Try.underlying76 ti90 rfl rfl (hX (by repeat constructor)) (by omega))) (eX (by repeat constructor)) (dd rfl) ?_
          refine a_take 3 rfl (by kernel_rfl) (by kernel_rfl) (by kernel_rfl) (v_fieldAddrC 0 Try.underlying90 rfl ti3 (by decide) rfl) (eX (by repeat constructor)) (dd rfl) ?_
          refine a_take 4 rfl (by kernel_rfl) (by kernel_rfl) (by kernel_rfl) ((by first | exact v_load_cell lone3 rfl (hX (by repeat constructor)) | exact v_load_fld lone3 rfl (by repeat (first|exact el1 (by omega)|exact el2 (by omega)|exact el3 (by omega)|apply Elem.there)) (by (try apply FldS.map); apply FldS.fst; (try apply FldS.map); first | exact FldS.int _ | exact FldS.str | exact FldS.bool | exact FldS.raw))) (eX (by repeat constructor)) (dd rfl) ?_
          refine a_take 5 rfl (by kernel_rfl) (by kernel_rfl) (by kernel_rfl) (v_fieldAddrC 0 Try.underlying90 rfl ti3 (by decide) rfl) (eX (by repeat constructor)) (dd rfl) ?_
          refine a_take 6 rfl (by kernel_rfl) (by kernel_rfl) (by kernel_rfl) (v_load lone3 rfl (hX (by repeat constructor)) rfl) (eX (by repeat constructor)) (dd rfl) ?_
          refine a_take 7 rfl (by kernel_rfl) (by kernel_rfl) (by kernel_rfl) (v_ne rfl rfl) (eX (by repeat constructor)) (dd rfl) ?_
          refine a_take 8 rfl (by kernel_rfl) (by kernel_rfl) (by kernel_rfl) (v_move rfl) (eX (by repeat constructor)) (dd rfl) ?_
          refine a_know (s := 38) rfl (show _ = Value.bool true from congrArg Value.bool (decide_eq_true c1)) ?_
          refine a_take_on 9 rfl rfl rfl (by kernel_rfl) (by kernel_rfl) (by kernel_rfl) (v_move rfl) (eX (by repeat constructor)) (dd rfl) ?_
          refine a_take 10 rfl (by kernel_rfl) (by kernel_rfl) (by kernel_rfl) (v_pick_t rfl rfl) (eX (by repeat constructor)) (dd rfl) ?_
          refine a_take 11 rfl (by kernel_rfl) (by kernel_rfl) (by kernel_rfl) (v_move rfl) (eX (by repeat constructor)) (dd rfl) ?_
          refine a_know (s := 41) rfl (show _ = Value.bool false from congrArg Value.bool c2') ?_
          refine a_take_off 12 rfl rfl rfl rfl (by kernel_rfl) (by kernel_rfl) (by kernel_rfl) (eX (by repeat constructor)) (dd rfl) ?_
          refine a_take_off 13 rfl rfl rfl rfl (by kernel_rfl) (by kernel_rfl) (by kernel_rfl) (eX (by repeat constructor)) (dd rfl) ?_
          refine a_take_off 14 rfl rfl rfl rfl (by kernel_rfl) (by kernel_rfl) (by kernel_rfl) (eX (by repeat constructor)) (dd rfl) ?_
          refine a_take_off 15 rfl rfl rfl rfl (by kernel_rfl) (by kernel_rfl) (by kernel_rfl) (eX (by repeat constructor)) (dd rfl) ?_
          refine a_take_off 16 rfl rfl rfl rfl (by kernel_rfl) (by kernel_rfl) (by kernel_rfl) (eX (by repeat constructor)) (dd rfl) ?_
          refine a_take 17 rfl (by kernel_rfl) (by kernel_rfl) (by kernel_rfl) (v_pick_f rfl rfl) (eX (by repeat constructor)) (dd rfl) ?_
          refine a_done (by kernel_rfl) ?_ _
          refine c_use (MEET (false) (by rw [c2']; simp)) (by repeat (first | exact trivial | refine ⟨rfl, ?_⟩)) (eX (by repeat constructor))
      · skip
        refine c_held [BlkR b3 78 [lv, wv], BlkR b4 90 [.int .i64 z.1, .string z.2.1, .int .i64 z.2.2], Sl eHs lv L, Sl eHs wv W, Sl eHs sv sm] rfl ?_
        refine a_take 0 rfl (by kernel_rfl) (by kernel_rfl) (by kernel_rfl) (v_move rfl) (eX (by repeat constructor)) (dd rfl) ?_
        refine a_take 1 rfl (by kernel_rfl) (by kernel_rfl) (by kernel_rfl) (v_move rfl) (eX (by repeat constructor)) (dd rfl) ?_
        refine a_take 2 rfl (by kernel_rfl) (by kernel_rfl) (by kernel_rfl) ((by first | exact v_indexAddrN Try.underlying76 ti90 rfl rfl (hX (by repeat constructor)) (by omega) | exact v_indexAddr Try.underlying76 ti90 rfl rfl (hX (by repeat constructor)) (by omega))) (eX (by repeat constructor)) (dd rfl) ?_
        refine a_take 3 rfl (by kernel_rfl) (by kernel_rfl) (by kernel_rfl) (v_fieldAddrC 0 Try.underlying90 rfl ti3 (by decide) rfl) (eX (by repeat constructor)) (dd rfl) ?_
        refine a_take 4 rfl (by kernel_rfl) (by kernel_rfl) (by kernel_rfl) ((by first | exact v_load_cell lone3 rfl (hX (by repeat constructor)) | exact v_load_fld lone3 rfl (by repeat (first|exact el1 (by omega)|exact el2 (by omega)|exact el3 (by omega)|apply Elem.there)) (by (try apply FldS.map); apply FldS.fst; (try apply FldS.map); first | exact FldS.int _ | exact FldS.str | exact FldS.bool | exact FldS.raw))) (eX (by repeat constructor)) (dd rfl) ?_
        refine a_take 5 rfl (by kernel_rfl) (by kernel_rfl) (by kernel_rfl) (v_fieldAddrC 0 Try.underlying90 rfl ti3 (by decide) rfl) (eX (by repeat constructor)) (dd rfl) ?_
        refine a_take 6 rfl (by kernel_rfl) (by kernel_rfl) (by kernel_rfl) (v_load lone3 rfl (hX (by repeat constructor)) rfl) (eX (by repeat constructor)) (dd rfl) ?_
        refine a_take 7 rfl (by kernel_rfl) (by kernel_rfl) (by kernel_rfl) (v_ne rfl rfl) (eX (by repeat constructor)) (dd rfl) ?_
        refine a_take 8 rfl (by kernel_rfl) (by kernel_rfl) (by kernel_rfl) (v_move rfl) (eX (by repeat constructor)) (dd rfl) ?_
        refine a_know (s := 38) rfl (show _ = Value.bool false from congrArg Value.bool (decide_eq_false c1)) ?_
        refine a_take_off 9 rfl rfl rfl rfl (by kernel_rfl) (by kernel_rfl) (by kernel_rfl) (eX (by repeat constructor)) (dd rfl) ?_
        refine a_take 10 rfl (by kernel_rfl) (by kernel_rfl) (by kernel_rfl) (v_pick_f rfl rfl) (eX (by repeat constructor)) (dd rfl) ?_
        refine a_take 11 rfl (by kernel_rfl) (by kernel_rfl) (by kernel_rfl) (v_move rfl) (eX (by repeat constructor)) (dd rfl) ?_
        refine a_take_off 12 rfl rfl rfl rfl (by kernel_rfl) (by kernel_rfl) (by kernel_rfl) (eX (by repeat constructor)) (dd rfl) ?_
        refine a_take_off 13 rfl rfl rfl rfl (by kernel_rfl) (by kernel_rfl) (by kernel_rfl) (eX (by repeat constructor)) (dd rfl) ?_
        refine a_take_off 14 rfl rfl rfl rfl (by kernel_rfl) (by kernel_rfl) (by kernel_rfl) (eX (by repeat constructor)) (dd rfl) ?_
        refine a_take_off 15 rfl rfl rfl rfl (by kernel_rfl) (by kernel_rfl) (by kernel_rfl) (eX (by repeat constructor)) (dd rfl) ?_
        refine a_take_off 16 rfl rfl rfl rfl (by kernel_rfl) (by kernel_rfl) (by kernel_rfl) (eX (by repeat constructor)) (dd rfl) ?_
        refine a_take 17 rfl (by kernel_rfl) (by kernel_rfl) (by kernel_rfl) (v_pick_f rfl rfl) (eX (by repeat constructor)) (dd rfl) ?_
        refine a_done (by kernel_rfl) ?_ _
        refine c_use (MEET (false) (by rw [decide_eq_false c1]; rfl)) (by repeat (first | exact trivial | refine ⟨rfl, ?_⟩)) (eX (by repeat constructor))
  · refine c_exit rfl ?_
    refine c_seq ?_
    refine c_region ?_
    refine o_val (v_assign rfl) (dd rfl) ?_
    refine o_nil ?_
    refine c_ret1 Try.func73 rfl rfl fun w O hS => ?_
    refine ⟨(), congrArg Value.bool (Bool.eq_false_iff.2 fun h => ?_).symm, trivial, trivial⟩
    obtain ⟨x, hx, h2⟩ := List.any_eq_true.1 h
    obtain ⟨j, hj, rfl⟩ := List.mem_iff_getElem.1 hx
    rw [hall j hj (by omega)] at h2; cases h2
end Go.Proofs.Ytnamhhmfnokfiaa
namespace Go.Proofs.Ytnamhhmfnokfiaa
open Go Go.SL
def leftR (L W : List Hs) (left : List Hs) : List Hs := left.filter fun x => blockedR L W x left
def itR (L W : List Hs) : Nat → List Hs
  | 0 => W
  | k + 1 => leftR L W (itR L W k)
theorem left_le (L W left : List Hs) : (leftR L W left).length ≤ left.length := List.length_filter_le _ _
theorem left_fix {L W left : List Hs} (h : (leftR L W left).length = left.length) : leftR L W left = left := by
  unfold leftR at *
  exact List.filter_eq_self.2 (List.length_filter_eq_length_iff.1 h)
attribute [local irreducible] Cfg Kont StepK Val Con Qops Any Sl Own Blk BlkR Rd Pu ExA AllA Has Pick Ent Elem Beside Callable TI Lone OwnO AndA
set_option maxRecDepth 100000 in
theorem stuckR_con (lv wv : Value) (L W : List Hs) (hL : L.length ≤ 1000) (hW : W.length ≤ 1000) :
    Con Try.prog 44 [.agg #[lv, wv]] [Sl eHs lv L, Sl eHs wv W] (γ := Value × List Hs) (fun r => r.1) (fun r => ∃ k, r.2 = itR L W k ∧ leftR L W r.2 = r.2) (fun r => [Sl eHs r.1 r.2]) := by
  refine con_of Try.func44 rfl (dd rfl) fun w0 O0 => ?_
  refine c_seq ?_
  refine c_region ?_
  refine o_step (s_box rfl (dd rfl) (fun b1 => ?_))
  refine o_val (v_assign rfl) (dd rfl) ?_
  refine o_nil ?_
  refine c_seq ?_
  refine c_region ?_
  refine o_val (v_fieldAddrC 1 Try.underlying78 rfl ti76 (by decide) rfl) (dd rfl) ?_
  refine o_val (v_load lone76 rfl (hX (by repeat constructor)) rfl) (dd rfl) ?_
  refine o_val (v_assign rfl) (dd rfl) ?_
  refine o_nil ?_
  refine c_block ?_
  refine c_loopR (γ := Nat × Value × List Hs) [(1, _), (2, _)] (fun g => g.2.2.length) (fun g => g.2.2 = itR L W g.1 ∧ g.2.2.length ≤ 1000) (fun g => [(3, g.2.1)]) (fun g => [Sl eHs g.2.1 g.2.2, Blk b1 78 [lv, wv], Sl eHs lv L, Sl eHs wv W]) ((0, wv, W)) (⟨rfl, hW⟩) (by repeat (first | exact trivial | refine ⟨rfl, ?_⟩)) (eX (by repeat constructor)) ?_
  rintro ⟨k, fv, left⟩ ⟨hk, hl⟩ IH
  dsimp only at hk hl ⊢
  try dsimp only [List.cons_append, List.nil_append]
  refine c_block ?_
  refine c_seq ?_
  refine c_region ?_
  refine o_val (v_assign rfl) (dd rfl) ?_
  refine o_nil ?_
  refine c_seq ?_
  refine c_seq ?_
  refine c_region ?_
  refine o_val (v_assign rfl) (dd rfl) ?_
  refine o_nil ?_
  refine c_block ?_
  refine c_ent (Ent.beside (b := Own eHs 90 (.slice none 0 0) ([] : List Hs)) (fun w O _ => Own.nil eHs 90 w _)) ?_
  refine c_loopR (γ := Nat × Value) [(1, _), (2, _), (3, _)] (fun g => left.length - g.1) (fun g => g.1 ≤ left.length) (fun g => [(5, .int .i64 g.1), (4, g.2)]) (fun g => [Own eHs 90 g.2 ((left.take g.1).filter fun x => blockedR L W x left), Sl eHs fv left, Blk b1 78 [lv, wv], Sl eHs lv L, Sl eHs wv W]) ((0, .slice none 0 0)) (Nat.zero_le _) (by repeat (first | exact trivial | refine ⟨rfl, ?_⟩)) (eX (by repeat constructor)) ?_
  rintro ⟨i, u⟩ hi IH2
  dsimp only at hi ⊢
  have hql : ((left.take i).filter fun x => blockedR L W x left).length ≤ 1000 := Nat.le_trans (List.length_filter_le _ _) (by simp; omega)
  try dsimp only [List.cons_append, List.nil_append]
  refine c_seq ?_
  refine c_seq ?_
  refine c_region ?_
  refine o_val (v_move rfl) (dd rfl) ?_
  refine o_val (v_move rfl) (dd rfl) ?_
  refine o_val ((by first | exact v_len_form Try.underlying76 rfl | exact v_len_sl Try.underlying76 rfl (hX (by repeat constructor)))) (dd rfl) ?_
  refine o_val (v_lt rfl rfl) (dd rfl) ?_
  refine o_nil ?_
  refine c_cond_p rfl (fun hlt => ?_) (fun hlt => ?_)
  · have hi' : i < left.length := by omega
    refine c_skip ?_
    refine c_seq ?_
    refine c_block ?_
    refine c_seq ?_
    refine c_held [BlkR b1 78 [lv, wv], Sl eHs fv left, Sl eHs lv L, Sl eHs wv W] rfl ?_
    refine a_take 0 rfl (by kernel_rfl) (by kernel_rfl) (by kernel_rfl) (v_load_all ⟨_, Try.underlying78⟩ ti78 rfl (hX (by repeat constructor)) rfl) (eX (by repeat constructor)) (dd rfl) ?_
    refine a_take 1 rfl (by kernel_rfl) (by kernel_rfl) (by kernel_rfl) (v_move rfl) (eX (by repeat constructor)) (dd rfl) ?_
    refine a_take 2 rfl (by kernel_rfl) (by kernel_rfl) (by kernel_rfl) (v_move rfl) (eX (by repeat constructor)) (dd rfl) ?_
    refine a_take 3 rfl (by kernel_rfl) (by kernel_rfl) (by kernel_rfl) ((by first | exact v_indexAddrN Try.underlying76 ti90 rfl rfl (hX (by repeat constructor)) (by omega) | exact v_indexAddr Try.underlying76 ti90 rfl rfl (hX (by repeat constructor)) (by omega))) (eX (by repeat constructor)) (dd rfl) ?_
    refine a_take 4 rfl (by kernel_rfl) (by kernel_rfl) (by kernel_rfl) (v_load_p (by repeat (first | exact PEnc.int _ | exact PEnc.str | exact PEnc.bool | exact PEnc.byte | exact PEnc.raw | apply PEnc.pair | apply PEnc.map)) ⟨_, Try.underlying90⟩ ti90 rfl (by repeat (first|exact el1 (by omega)|exact el2 (by omega)|exact el3 (by omega)|apply Elem.there))) (eX (by repeat constructor)) (dd rfl) ?_
    refine a_take 5 rfl (by kernel_rfl) (by kernel_rfl) (by kernel_rfl) (v_move rfl) (eX (by repeat constructor)) (dd rfl) ?_
    refine a_one 6 rfl (by kernel_rfl) (s_callf cl73 (blockedR_con lv wv fv L W left (left[i]'hi') hL hW hl) rfl (dd rfl) (pXs (by repeat constructor)) (fun _ _ => a_on (eX (by repeat constructor)) ?_))
    refine a_done (by kernel_rfl) ?_ _
    refine c_cond rfl (fun hb => ?_) (fun hb => ?_)
    · refine c_region ?_
      refine o_val (v_move rfl) (dd rfl) ?_
      refine o_val (v_move rfl) (dd rfl) ?_
      refine o_val (v_move rfl) (dd rfl) ?_
      refine o_val ((by first | exact v_indexAddrN Try.underlying76 ti90 rfl rfl (hX (by repeat constructor)) (by omega) | exact v_indexAddr Try.underlying76 ti90 rfl rfl (hX (by repeat constructor)) (by omega))) (dd rfl) ?_
      refine o_val (v_load_p (by repeat (first | exact PEnc.int _ | exact PEnc.str | exact PEnc.bool | exact PEnc.byte | exact PEnc.raw | apply PEnc.pair | apply PEnc.map)) ⟨_, Try.underlying90⟩ ti90 rfl (by repeat (first|exact el1 (by omega)|exact el2 (by omega)|exact el3 (by omega)|apply Elem.there))) (dd rfl) ?_
      refine o_step (s_buildSlice Try.underlying76 ti90 rfl rfl rfl (by decide) (by decide) (beside_agg1 (Beside.rd fun w O => hs_rd w O (left[i]'hi'))) rfl rfl (dd rfl) fun v1 => ?_)
      refine o_step (s_append Try.underlying76 ti90 rfl (by decide) rfl rfl (dd rfl) (pB (by repeat constructor)) (pX (by repeat constructor)) rfl (by (first | omega | (simp only [maxLen, List.length_append, List.length_drop, List.length_take, List.length_nil, List.length_cons]; omega))) (by (first | omega | (simp only [maxLen, List.length_append, List.length_drop, List.length_take, List.length_nil, List.length_cons]; omega))) fun v2 => ?_)
      refine o_val (v_assign rfl) (dd rfl) ?_
      refine o_nil ?_
      refine c_inBlock ?_
      refine c_region ?_
      refine o_val (v_move rfl) (dd rfl) ?_
      refine o_val ((by first | exact v_add64 rfl rfl (by omega) | exact v_add rfl rfl)) (dd rfl) ?_
      refine o_val (v_assign rfl) (dd rfl) ?_
      refine o_nil ?_
      refine c_use (IH2 (i + 1, v2) (by dsimp only; omega) (by dsimp only; omega)) (by repeat (first | exact trivial | refine ⟨rfl, ?_⟩)) ?_
      dsimp only
      rw [filtY (q := fun x => blockedR L W x left) hi' hb]
      exact (eX (by repeat constructor))
    · refine c_skip ?_
      refine c_inBlock ?_
      refine c_region ?_
      refine o_val (v_move rfl) (dd rfl) ?_
      refine o_val ((by first | exact v_add64 rfl rfl (by omega) | exact v_add rfl rfl)) (dd rfl) ?_
      refine o_val (v_assign rfl) (dd rfl) ?_
      refine o_nil ?_
      refine c_use (IH2 (i + 1, u) (by dsimp only; omega) (by dsimp only; omega)) (by repeat (first | exact trivial | refine ⟨rfl, ?_⟩)) ?_
      dsimp only
      rw [filtN (q := fun x => blockedR L W x left) hi' hb]
      exact (eX (by repeat constructor))
  · have hie : i = left.length := by omega
    have hle := left_le L W left
    rw [hie, List.take_length] at hql ⊢
    rw [show (left.filter fun x => blockedR L W x left) = leftR L W left from rfl] at hql ⊢
    refine c_exit rfl ?_
    refine c_seq ?_
    refine c_seq ?_
    refine c_region ?_
    refine o_val (v_move rfl) (dd rfl) ?_
    refine o_val ((by first | exact v_len_form Try.underlying76 rfl | exact v_len_sl Try.underlying76 rfl (hX (by repeat constructor)))) (dd rfl) ?_
    refine o_val (v_move rfl) (dd rfl) ?_
    refine o_val ((by first | exact v_len_form Try.underlying76 rfl | exact v_len_sl Try.underlying76 rfl (hX (by repeat constructor)))) (dd rfl) ?_
    refine o_val (v_eq rfl rfl) (dd rfl) ?_
    refine o_nil ?_
    refine c_cond_p rfl (fun heq => ?_) (fun heq => ?_)
    · have hfix : leftR L W left = left := left_fix (by omega)
      refine c_seq ?_
      refine c_region ?_
      refine o_val (v_move rfl) (dd rfl) ?_
      refine o_val (v_assign rfl) (dd rfl) ?_
      refine o_nil ?_
      refine c_ret1 Try.func44 rfl rfl fun w O hS => ?_
      exact ⟨(fv, left), rfl, ⟨k, hk, hfix⟩, Ent.get hS (eX (by repeat constructor))⟩
    · refine c_skip ?_
      refine c_region ?_
      refine o_val (v_move rfl) (dd rfl) ?_
      refine o_val (v_assign rfl) (dd rfl) ?_
      refine o_nil ?_
      refine c_inBlock ?_
      refine c_use (IH ((k + 1, u, leftR L W left)) (by first | omega | (dsimp only; omega)) (⟨by show leftR L W left = leftR L W (itR L W k); rw [hk], hql⟩)) (by repeat (first | exact trivial | refine ⟨rfl, ?_⟩)) (eX (by repeat constructor))
end Go.Proofs.Ytnamhhmfnokfiaa
namespace Go.Proofs.Ytnamhhmfnokfiaa
open Go Go.SL
def putI (x : Int) : List Int → List Int
  | [] => [x]
  | y :: r => if x < y then x :: y :: r else y :: putI x r
def serveR : Nat → List Hs → List Hs → List Int → List Hs × List Hs × List Int
  | 0, L, W, out => (L, W, out)
  | k + 1, L, W, out => match firstR L W with
    | none => (L, W, out)
    | some w => serveR k (getsR L w) (withoutR W w.1) (putI w.1 out)
theorem without_lt {W : List Hs} {w : Hs} (h : w ∈ W) : (withoutR W w.1).length < W.length := by
  unfold withoutR
  have h1 := List.length_filter_le (fun x : Hs => decide (x.1 ≠ w.1)) W
  rcases Nat.lt_or_ge (W.filter fun x : Hs => decide (x.1 ≠ w.1)).length W.length with h2 | h2
  · exact h2
  · have h3 := List.length_filter_eq_length_iff.1 (Nat.le_antisymm h1 h2) w h
    simp at h3
theorem first_mem {L W : List Hs} {w : Hs} (h : firstR L W = some w) : w ∈ W := List.mem_of_find?_eq_some h
theorem serve_fuel : ∀ (n : Nat) (L W : List Hs) (out : List Int), W.length ≤ n → serveR n L W out = serveR W.length L W out
  | 0, L, W, out, h => by rw [Nat.le_zero.1 h]
  | n + 1, L, W, out, h => by
    cases hf : firstR L W with
    | none =>
      have e : ∀ k, serveR k L W out = (L, W, out) := fun k => by cases k <;> simp [serveR, hf]
      rw [e, e]
    | some w =>
      have hlt := without_lt (first_mem hf)
      obtain ⟨m, hm⟩ : ∃ m, W.length = m + 1 := ⟨W.length - 1, by omega⟩
      rw [hm]
      simp only [serveR, hf]
      rw [serve_fuel n _ _ _ (by omega), serve_fuel m _ _ _ (by omega)]
  termination_by n => n
  decreasing_by all_goals omega
theorem serve_step {L W : List Hs} {out : List Int} {w : Hs} (hf : firstR L W = some w) : serveR W.length L W out = serveR (withoutR W w.1).length (getsR L w) (withoutR W w.1) (putI w.1 out) := by
  have hlt := without_lt (first_mem hf)
  obtain ⟨m, hm⟩ : ∃ m, W.length = m + 1 := ⟨W.length - 1, by omega⟩
  rw [hm]
  simp only [serveR, hf]
  exact serve_fuel m _ _ _ (by omega)
theorem serve_end {L W : List Hs} {out : List Int} (hf : firstR L W = none) : serveR W.length L W out = (L, W, out) := by
  cases h : W.length <;> simp [serveR, hf]
def freeR (L W : List Hs) (o : Int) : List Hs × List Hs × List Int := serveR (withoutR W o).length (withoutR L o) (withoutR W o) []
end Go.Proofs.Ytnamhhmfnokfiaa
namespace Go.Proofs.Ytnamhhmfnokfiaa
open Go Go.SL
/-- Behind j of those who got something. -/
def PutJ (x : Int) (l : List Int) (j : Nat) (done : Bool) (out : List Int) : Prop :=
  j ≤ l.length ∧ out.length ≤ j + 1 ∧ if done = true then putI x l = out ++ l.drop j else out = l.take j ∧ putI x l = l.take j ++ putI x (l.drop j)
theorem putI_len (x : Int) : ∀ l : List Int, (putI x l).length = l.length + 1
  | [] => rfl
  | y :: l => by
    unfold putI
    split
    · rfl
    · rw [List.length_cons, putI_len x l, List.length_cons]
theorem gets_len (L : List Hs) (w : Hs) : (getsR L w).length ≤ L.length + 1 := by
  unfold getsR
  have := List.length_filter_le (fun x : Hs => !hasP w.1 w.2.1 x) L
  simp; omega
theorem putJ_0 (x : Int) (l : List Int) : PutJ x l 0 false [] := ⟨Nat.zero_le _, Nat.zero_le _, by simp⟩
theorem putJ_hit {x : Int} {l out : List Int} {j : Nat} (h : PutJ x l j false out) (hj : j < l.length) (hc : x < l[j]) : PutJ x l (j + 1) true (out ++ [x] ++ [l[j]]) := by
  obtain ⟨h1, h2, h3, h4⟩ := h
  have h5 : out.length ≤ j := by rw [h3]; simp; omega
  refine ⟨hj, by simp; omega, ?_⟩
  rw [if_pos rfl, h4, List.drop_eq_getElem_cons hj, putI, if_pos hc, h3]
  simp
theorem putJ_miss {x : Int} {l out : List Int} {j : Nat} {done : Bool} (h : PutJ x l j done out) (hj : j < l.length) (hc : ¬ (done = false ∧ x < l[j])) : PutJ x l (j + 1) done (out ++ [l[j]]) := by
  obtain ⟨h1, h2, h3⟩ := h
  refine ⟨hj, by simp; omega, ?_⟩
  cases done with
  | true =>
    rw [if_pos rfl] at h3 ⊢
    rw [h3, List.drop_eq_getElem_cons hj]; simp
  | false =>
    rw [if_neg (by simp)] at h3 ⊢
    obtain ⟨h4, h5⟩ := h3
    refine ⟨by rw [h4, List.take_succ_eq_append_getElem hj], ?_⟩
    rw [h5, List.drop_eq_getElem_cons hj, putI, if_neg fun k => hc ⟨rfl, k⟩, List.take_succ_eq_append_getElem hj, List.append_assoc]
    rfl
theorem putJ_end {x : Int} {l out : List Int} {done : Bool} (h : PutJ x l l.length done out) : (if done = true then out else out ++ [x]) = putI x l := by
  obtain ⟨_, _, h3⟩ := h
  cases done with
  | true => rw [if_pos rfl] at h3 ⊢; rw [h3]; simp
  | false =>
    rw [if_neg (by simp)] at h3 ⊢
    obtain ⟨h4, h5⟩ := h3
    rw [h5, h4]; simp [putI]
attribute [local irreducible] Cfg Kont StepK Val Con Qops Any Sl Own Blk BlkR Rd Pu ExA AllA Has Pick Ent Elem Beside Callable TI Lone OwnO AndA
set_option maxRecDepth 100000 in
theorem freeR_con (lv wv : Value) (L W : List Hs) (o : Int) (hL : L.length ≤ 500) (hW : W.length ≤ 500) :
    Con Try.prog 62 [.agg #[lv, wv], .int .i64 o] [Sl eHs lv L, Sl eHs wv W] (γ := Value × Value × Value) (fun r => .tuple #[.agg #[r.1, r.2.1], r.2.2]) (fun _ => True) (fun r => [Sl eHs r.1 (freeR L W o).1, Sl eHs r.2.1 (freeR L W o).2.1, Own (eInt .i64) 3 r.2.2 (freeR L W o).2.2]) := by
  refine con_of Try.func62 rfl (dd rfl) fun w0 O0 => ?_
  refine c_seq ?_
  refine c_region ?_
  refine o_step (s_box rfl (dd rfl) (fun b2 => ?_))
  refine o_step (s_alloc ti78 (dd rfl) (fun b4 => ?_))
  refine o_val (v_assign rfl) (dd rfl) ?_
  refine o_nil ?_
  refine c_seq ?_
  refine c_region ?_
  refine o_val (v_assign rfl) (dd rfl) ?_
  refine o_nil ?_
  refine c_seq ?_
  refine c_seq ?_
  refine c_region ?_
  refine o_val (v_assign rfl) (dd rfl) ?_
  refine o_nil ?_
  refine c_block ?_
  refine c_ent (Ent.beside (b := Own eHs 90 (.slice none 0 0) ([] : List Hs)) (fun w O _ => Own.nil eHs 90 w _)) ?_
  refine c_loopR (γ := Nat × Value) [(1, _), (2, _), (4, _), (5, _)] (fun g => L.length - g.1) (fun g => g.1 ≤ L.length) (fun g => [(7, .int .i64 g.1), (6, g.2)]) (fun g => [Own eHs 90 g.2 (withoutR (L.take g.1) o), Blk b2 78 [lv, wv], Blk b4 78 [.slice none 0 0, .slice none 0 0], Sl eHs lv L, Sl eHs wv W]) ((0, .slice none 0 0)) (Nat.zero_le _) (by repeat (first | exact trivial | refine ⟨rfl, ?_⟩)) (eX (by repeat constructor)) ?_
  rintro ⟨i, u⟩ hi IH
  dsimp only at hi ⊢
  have hql : (withoutR (L.take i) o).length ≤ 500 := Nat.le_trans (List.length_filter_le _ _) (by simp; omega)
  try dsimp only [List.cons_append, List.nil_append]
  refine c_seq ?_
  refine c_seq ?_
  refine c_region ?_
  refine o_val (v_move rfl) (dd rfl) ?_
  refine o_val (v_fieldAddrC 0 Try.underlying78 rfl ti76 (by decide) rfl) (dd rfl) ?_
  refine o_val (v_load lone76 rfl (hX (by repeat constructor)) rfl) (dd rfl) ?_
  refine o_val ((by first | exact v_len_form Try.underlying76 rfl | exact v_len_sl Try.underlying76 rfl (hX (by repeat constructor)))) (dd rfl) ?_
  refine o_val (v_lt rfl rfl) (dd rfl) ?_
  refine o_nil ?_
  refine c_cond_p rfl (fun hlt => ?_) (fun hlt => ?_)
  · have hi' : i < L.length := by omega
    refine c_skip ?_
    refine c_seq ?_
    refine c_block ?_
    refine c_seq ?_
    refine c_region ?_
    refine o_val (v_fieldAddrC 0 Try.underlying78 rfl ti76 (by decide) rfl) (dd rfl) ?_
    refine o_val (v_load lone76 rfl (hX (by repeat constructor)) rfl) (dd rfl) ?_
    refine o_val (v_move rfl) (dd rfl) ?_
    refine o_val ((by first | exact v_indexAddrN Try.underlying76 ti90 rfl rfl (hX (by repeat constructor)) (by omega) | exact v_indexAddr Try.underlying76 ti90 rfl rfl (hX (by repeat constructor)) (by omega))) (dd rfl) ?_
    refine o_val (v_fieldAddrC 0 Try.underlying90 rfl ti3 (by decide) rfl) (dd rfl) ?_
    refine o_val ((by first | exact v_load_cell lone3 rfl (hX (by repeat constructor)) | exact v_load_fld lone3 rfl (by repeat (first|exact el1 (by omega)|exact el2 (by omega)|exact el3 (by omega)|apply Elem.there)) (by (try apply FldS.map); apply FldS.fst; (try apply FldS.map); first | exact FldS.int _ | exact FldS.str | exact FldS.bool | exact FldS.raw))) (dd rfl) ?_
    refine o_val (v_move rfl) (dd rfl) ?_
    refine o_val (v_ne rfl rfl) (dd rfl) ?_
    refine o_nil ?_
    refine c_cond_p rfl (fun hh => ?_) (fun hh => ?_)
    · refine c_region ?_
      refine o_val (v_move rfl) (dd rfl) ?_
      refine o_val (v_fieldAddrC 0 Try.underlying78 rfl ti76 (by decide) rfl) (dd rfl) ?_
      refine o_val (v_load lone76 rfl (hX (by repeat constructor)) rfl) (dd rfl) ?_
      refine o_val (v_move rfl) (dd rfl) ?_
      refine o_val ((by first | exact v_indexAddrN Try.underlying76 ti90 rfl rfl (hX (by repeat constructor)) (by omega) | exact v_indexAddr Try.underlying76 ti90 rfl rfl (hX (by repeat constructor)) (by omega))) (dd rfl) ?_
      refine o_val (v_load_p (by repeat (first | exact PEnc.int _ | exact PEnc.str | exact PEnc.bool | exact PEnc.byte | exact PEnc.raw | apply PEnc.pair | apply PEnc.map)) ⟨_, Try.underlying90⟩ ti90 rfl (by repeat (first|exact el1 (by omega)|exact el2 (by omega)|exact el3 (by omega)|apply Elem.there))) (dd rfl) ?_
      refine o_step (s_buildSlice Try.underlying76 ti90 rfl rfl rfl (by decide) (by decide) (beside_agg1 (Beside.rd fun w O => hs_rd w O (L[i]'hi'))) rfl rfl (dd rfl) fun v1 => ?_)
      refine o_step (s_append Try.underlying76 ti90 rfl (by decide) rfl rfl (dd rfl) (pB (by repeat constructor)) (pX (by repeat constructor)) rfl (by (first | omega | (simp only [maxLen, List.length_append, List.length_drop, List.length_take, List.length_nil, List.length_cons]; omega))) (by (first | omega | (simp only [maxLen, List.length_append, List.length_drop, List.length_take, List.length_nil, List.length_cons]; omega))) fun v2 => ?_)
      refine o_val (v_assign rfl) (dd rfl) ?_
      refine o_nil ?_
      refine c_inBlock ?_
      refine c_region ?_
      refine o_val (v_move rfl) (dd rfl) ?_
      refine o_val ((by first | exact v_add64 rfl rfl (by omega) | exact v_add rfl rfl)) (dd rfl) ?_
      refine o_val (v_assign rfl) (dd rfl) ?_
      refine o_nil ?_
      refine c_use (IH (i + 1, v2) (by dsimp only; omega) (by dsimp only; omega)) (by repeat (first | exact trivial | refine ⟨rfl, ?_⟩)) ?_
      dsimp only
      rw [show withoutR (L.take (i + 1)) o = withoutR (L.take i) o ++ [L[i]'hi'] from filtY hi' (decide_eq_true hh)]
      exact (eX (by repeat constructor))
    · refine c_skip ?_
      refine c_inBlock ?_
      refine c_region ?_
      refine o_val (v_move rfl) (dd rfl) ?_
      refine o_val ((by first | exact v_add64 rfl rfl (by omega) | exact v_add rfl rfl)) (dd rfl) ?_
      refine o_val (v_assign rfl) (dd rfl) ?_
      refine o_nil ?_
      refine c_use (IH (i + 1, u) (by dsimp only; omega) (by dsimp only; omega)) (by repeat (first | exact trivial | refine ⟨rfl, ?_⟩)) ?_
      dsimp only
      rw [show withoutR (L.take (i + 1)) o = withoutR (L.take i) o from filtN hi' (decide_eq_false hh)]
      exact (eX (by repeat constructor))
  · have hie : i = L.length := by omega
    rw [hie, List.take_length] at hql ⊢
    refine c_exit rfl ?_
    refine c_seq ?_
    refine c_region ?_
    refine o_val (v_move rfl) (dd rfl) ?_
    refine o_val (v_fieldAddrC 0 Try.underlying78 rfl ti76 (by decide) rfl) (dd rfl) ?_
    refine o_step (s_store1 ti76 rfl rfl (by first | exact OneC.lit rfl | exact OneC.sl (hX (by repeat constructor)) ) (pB (by repeat constructor)) (by first | decide | exact Nat.le_of_ble_eq_true rfl | simp) (by first | (dsimp only [List.set_cons_succ, List.set_cons_zero]; first | done | exact rfl) | rfl) (?_))
    refine o_nil ?_
    refine c_seq ?_
    refine c_region ?_
    refine o_val (v_load_all ⟨_, Try.underlying78⟩ ti78 rfl (hX (by repeat constructor)) rfl) (dd rfl) ?_
    refine o_val (v_move rfl) (dd rfl) ?_
    refine o_step (s_callf_keep cl99 (withoutR_con u wv (withoutR L o) W o (by omega)) rfl (dd rfl) (rX (by repeat constructor)) (fun _ => sX) (fun r _ => ?_))
    refine o_step (s_store_all ti78 rfl rfl (by first | exact CellsV.lit rfl | exact CellsV.one (by first | exact OneC.lit rfl | exact OneC.sl (hX (by repeat constructor)) )) (by repeat (first | exact OneAll.nil | (refine OneAll.cons ?_ ?_; · first | exact OneC.lit rfl | exact OneC.sl (hX (by repeat constructor)) ) | exact OneAll.rd (hX (by repeat constructor)))) rfl (pB (by repeat constructor)) rfl (?_))
    refine o_nil ?_
    refine c_seq ?_
    refine c_region ?_
    refine o_val (v_assign rfl) (dd rfl) ?_
    refine o_nil ?_
    refine c_block ?_
    have hr1 : (withoutR W o).length ≤ 500 := Nat.le_trans (List.length_filter_le _ _) hW
    refine c_ent (Ent.beside (b := Own (eInt .i64) 3 (.slice none 0 0) ([] : List Int)) (fun w O _ => Own.nil (eInt .i64) 3 w _)) ?_
    refine c_loopR (γ := Value × Value × Value × List Hs × List Hs × List Int) [(2, _), (4, _), (5, _)] (fun g => g.2.2.2.2.1.length) (fun g => serveR g.2.2.2.2.1.length g.2.2.2.1 g.2.2.2.2.1 g.2.2.2.2.2 = freeR L W o ∧ g.2.2.2.1.length + g.2.2.2.2.1.length ≤ 1000 ∧ g.2.2.2.2.1.length + g.2.2.2.2.2.length ≤ 500) (fun g => [(8, g.2.2.1)]) (fun g => [Sl eHs g.1 g.2.2.2.1, Sl eHs g.2.1 g.2.2.2.2.1, Own (eInt .i64) 3 g.2.2.1 g.2.2.2.2.2, Blk b2 78 [g.1, g.2.1], Blk b4 78 [.slice none 0 0, .slice none 0 0]]) ((u, r, .slice none 0 0, withoutR L o, withoutR W o, [])) (⟨rfl, by dsimp only; omega, by simpa using hr1⟩) (by repeat (first | exact trivial | refine ⟨rfl, ?_⟩)) (eX (by repeat constructor)) ?_
    rintro ⟨l1, w1, ov, L1, W1, out⟩ ⟨hF, hb1, hb2⟩ IH2
    dsimp only at hF hb1 hb2 ⊢
    try dsimp only [List.cons_append, List.nil_append]
    refine c_block ?_
    refine c_seq ?_
    refine c_region ?_
    refine o_val (v_load_all ⟨_, Try.underlying78⟩ ti78 rfl (hX (by repeat constructor)) rfl) (dd rfl) ?_
    obtain hf | ⟨x, hf⟩ : firstR L1 W1 = none ∨ ∃ x, firstR L1 W1 = some x := by cases firstR L1 W1 <;> simp
    · skip
      refine o_step (s_callf cl100 (firstR_con l1 w1 L1 W1 (by omega) (by omega)) rfl (dd rfl) (pXs (by repeat constructor)) fun _ _ => ?_)
      refine o_val (v_move rfl) (dd rfl) ?_
      refine o_val (v_extract rfl rfl) (dd rfl) ?_
      refine o_val (v_extract rfl rfl) (dd rfl) ?_
      rw [hf]
      dsimp only [Option.getD_none, Option.isSome_none, hsV, hs0]
      refine o_step (s_alloc ti90 (dd rfl) (fun b9 => ?_))
      refine o_step (s_store_all ti90 rfl rfl (by first | exact CellsV.lit rfl | exact CellsV.one (by first | exact OneC.lit rfl | exact OneC.sl (hX (by repeat constructor)) )) (by repeat (first | exact OneAll.nil | (refine OneAll.cons ?_ ?_; · first | exact OneC.lit rfl | exact OneC.sl (hX (by repeat constructor)) ) | exact OneAll.rd (hX (by repeat constructor)))) rfl (pB (by repeat constructor)) rfl (?_))
      refine o_val (v_assign rfl) (dd rfl) ?_
      refine o_nil ?_
      refine c_seq ?_
      refine c_seq ?_
      refine c_region ?_
      refine o_val (v_move rfl) (dd rfl) ?_
      refine o_val (v_not rfl) (dd rfl) ?_
      refine o_nil ?_
      refine c_cond_t rfl ?_
      refine c_seq ?_
      refine c_region ?_
      refine o_val (v_load_all ⟨_, Try.underlying78⟩ ti78 rfl (hX (by repeat constructor)) rfl) (dd rfl) ?_
      refine o_val (v_move rfl) (dd rfl) ?_
      refine o_step (s_store_all ti78 rfl rfl (by first | exact CellsV.lit rfl | exact CellsV.one (by first | exact OneC.lit rfl | exact OneC.sl (hX (by repeat constructor)) )) (by repeat (first | exact OneAll.nil | (refine OneAll.cons ?_ ?_; · first | exact OneC.lit rfl | exact OneC.sl (hX (by repeat constructor)) ) | exact OneAll.rd (hX (by repeat constructor)))) rfl (pB (by repeat constructor)) rfl (?_))
      refine o_val (v_assign rfl) (dd rfl) ?_
      refine o_nil ?_
      refine c_ret_ct Try.func62 rfl ⟨_, Try.underlying78⟩ ti78 rfl rfl (hX (by repeat constructor)) fun w O hS => ?_
      have hg : freeR L W o = (L1, W1, out) := hF.symm.trans (serve_end hf)
      refine ⟨(l1, w1, ov), rfl, trivial, ?_⟩
      rw [hg]
      exact Ent.get hS (eX (by repeat constructor))
    · skip
      refine o_step (s_callf cl100 (firstR_con l1 w1 L1 W1 (by omega) (by omega)) rfl (dd rfl) (pXs (by repeat constructor)) fun _ _ => ?_)
      refine o_val (v_move rfl) (dd rfl) ?_
      refine o_val (v_extract rfl rfl) (dd rfl) ?_
      refine o_val (v_extract rfl rfl) (dd rfl) ?_
      rw [hf]
      dsimp only [Option.getD_some, Option.isSome_some, hsV]
      refine o_step (s_alloc ti90 (dd rfl) (fun b9 => ?_))
      refine o_step (s_store_all ti90 rfl rfl (by first | exact CellsV.lit rfl | exact CellsV.one (by first | exact OneC.lit rfl | exact OneC.sl (hX (by repeat constructor)) )) (by repeat (first | exact OneAll.nil | (refine OneAll.cons ?_ ?_; · first | exact OneC.lit rfl | exact OneC.sl (hX (by repeat constructor)) ) | exact OneAll.rd (hX (by repeat constructor)))) rfl (pB (by repeat constructor)) rfl (?_))
      refine o_val (v_assign rfl) (dd rfl) ?_
      refine o_nil ?_
      refine c_seq ?_
      refine c_seq ?_
      refine c_region ?_
      refine o_val (v_move rfl) (dd rfl) ?_
      refine o_val (v_not rfl) (dd rfl) ?_
      refine o_nil ?_
      refine c_cond_f rfl ?_
      refine c_skip ?_
      refine c_seq ?_
      have hwl := without_lt (first_mem hf)
      have hgl := gets_len L1 x
      refine c_heldk 6 [BlkR b2 78 [l1, w1], BlkR b9 90 [.int .i64 x.1, .string x.2.1, .int .i64 x.2.2], Sl eHs l1 L1, Sl eHs w1 W1] rfl ?_
      refine k_take 0 rfl (by kernel_rfl) (by kernel_rfl) (by kernel_rfl) rfl (by kernel_rfl) (v_load_all ⟨_, Try.underlying78⟩ ti78 rfl (hX (by repeat constructor)) rfl) (eX (by repeat constructor)) (dd rfl) ?_
      refine k_take 1 rfl (by kernel_rfl) (by kernel_rfl) (by kernel_rfl) rfl (by kernel_rfl) (v_fieldAddrC 0 Try.underlying90 rfl ti3 (by decide) rfl) (eX (by repeat constructor)) (dd rfl) ?_
      refine k_take 2 rfl (by kernel_rfl) (by kernel_rfl) (by kernel_rfl) rfl (by kernel_rfl) (v_load lone3 rfl (hX (by repeat constructor)) rfl) (eX (by repeat constructor)) (dd rfl) ?_
      refine k_take 4 rfl (by kernel_rfl) (by kernel_rfl) (by kernel_rfl) rfl (by kernel_rfl) (v_load_all ⟨_, Try.underlying90⟩ ti90 rfl (hX (by repeat constructor)) rfl) (eX (by repeat constructor)) (dd rfl) ?_
      refine k_one 3 rfl (by kernel_rfl) fun hc_ => (s_callf_keep cl99 (withoutR_con l1 w1 L1 W1 x.1 (by omega)) rfl (dd rfl) (rX (by repeat constructor)) (fun _ => sX) (fun r2 _ => k_on hc_ (eX (by repeat constructor)) ?_))
      refine k_one 5 rfl (by kernel_rfl) fun hc_ => (s_callf_keep cl98 (getsR_con l1 r2 L1 (withoutR W1 x.1) x (by omega)) rfl (dd rfl) (rX (by repeat constructor)) (fun _ => sX) (fun r3 _ => k_on hc_ (eX (by repeat constructor)) ?_))
      refine k_one 6 rfl (by kernel_rfl) fun hc_ => (s_store_all ti78 rfl rfl (by first | exact CellsV.lit rfl | exact CellsV.one (by first | exact OneC.lit rfl | exact OneC.sl (hX (by repeat constructor)) )) (by repeat (first | exact OneAll.nil | (refine OneAll.cons ?_ ?_; · first | exact OneC.lit rfl | exact OneC.sl (hX (by repeat constructor)) ) | exact OneAll.rd (hX (by repeat constructor)))) rfl (pB (by repeat constructor)) rfl (k_last hc_ (by kernel_rfl) ?_))
      refine k_done (by kernel_rfl) ?_ _
      refine c_seq ?_
      refine c_region ?_
      refine o_val (v_assign rfl) (dd rfl) ?_
      refine o_nil ?_
      refine c_seq ?_
      refine c_region ?_
      refine o_val (v_assign rfl) (dd rfl) ?_
      refine o_nil ?_
      refine c_seq ?_
      refine c_seq ?_
      refine c_region ?_
      refine o_val (v_assign rfl) (dd rfl) ?_
      refine o_nil ?_
      refine c_block ?_
      refine c_ent (Ent.beside (b := Own (eInt .i64) 3 (.slice none 0 0) ([] : List Int)) (fun w O _ => Own.nil (eInt .i64) 3 w _)) ?_
      refine c_loopR (γ := Nat × Value × Bool × List Int) [(2, _), (4, _), (5, _), (8, _), (9, _), (10, _), (42, _), (43, _), (44, _), (45, _), (46, _), (47, _), (48, _), (51, _), (52, _), (53, _), (54, _), (55, _), (56, _)] (fun g => out.length - g.1) (fun g => PutJ x.1 out g.1 g.2.2.1 g.2.2.2) (fun g => [(13, .int .i64 g.1), (11, g.2.1), (12, .bool g.2.2.1)]) (fun g => [Own (eInt .i64) 3 g.2.1 g.2.2.2, Own (eInt .i64) 3 ov out, Own eHs 90 r3 (getsR L1 x), Own eHs 90 r2 (withoutR W1 x.1), Blk b2 78 [r3, r2], Blk b4 78 [.slice none 0 0, .slice none 0 0], Blk b9 90 [.int .i64 x.1, .string x.2.1, .int .i64 x.2.2]]) ((0, .slice none 0 0, false, [])) ((putJ_0 x.1 out)) (by repeat (first | exact trivial | refine ⟨rfl, ?_⟩)) (eX (by repeat constructor)) ?_
      rintro ⟨j, mv, done, m⟩ hJ IH3
      dsimp only at hJ ⊢
      have hj := hJ.1
      have hml := hJ.2.1
      try dsimp only [List.cons_append, List.nil_append]
      refine c_seq ?_
      refine c_seq ?_
      refine c_region ?_
      refine o_val (v_move rfl) (dd rfl) ?_
      refine o_val (v_move rfl) (dd rfl) ?_
      refine o_val ((by first | exact v_len_form Try.underlying35 rfl | exact v_len_sl Try.underlying35 rfl (hX (by repeat constructor)))) (dd rfl) ?_
      refine o_val (v_lt rfl rfl) (dd rfl) ?_
      refine o_nil ?_
      refine c_cond_p rfl (fun hlt2 => ?_) (fun hlt2 => ?_)
      · have hj' : j < out.length := by omega
        refine c_skip ?_
        refine c_seq ?_
        refine c_block ?_
        refine c_seq ?_
        refine c_seq ?_
        refine c_env (env' := [(2, _), (4, _), (5, _), (8, _), (9, _), (10, _), (11, _), (12, _), (13, _), (42, _), (43, _), (44, _), (45, _), (46, _), (47, _), (48, _), (51, _), (52, _), (53, _), (54, _), (55, _), (56, _), (57, _), (58, _), (59, _), (60, _)]) (by repeat (first | exact trivial | refine ⟨rfl, ?_⟩)) ?_
        refine c_joinb (d := 73) (decide (done = false ∧ x.1 < out[j]'hj')) ?_ ?_
        rotate_left
        · intro J
          refine c_quiet rfl (by kernel_rfl) ?_
          refine q_val (v_move rfl) (dd rfl) ?_
          refine q_val (v_not rfl) (dd rfl) ?_
          refine q_val (v_move rfl) (dd rfl) ?_
          first | refine q_guard_t rfl rfl (fun g65 => ?_) (fun g65 => ?_) | refine q_guard rfl rfl (fun g65 => ?_) (fun g65 => ?_)
          · refine q_val (v_move rfl) (dd rfl) ?_
            refine q_on rfl rfl ?_
            refine q_val (v_move rfl) (dd rfl) ?_
            refine q_on rfl rfl ?_
            refine q_val ((by first | exact v_indexAddrN Try.underlying35 ti3 rfl rfl (hX (by repeat constructor)) (by omega) | exact v_indexAddr Try.underlying35 ti3 rfl rfl (hX (by repeat constructor)) (by omega))) (dd rfl) ?_
            refine q_on rfl rfl ?_
            refine q_val (v_load_int lone3 rfl (by repeat (first | exact Elem.sl (List.getElem?_eq_getElem (by omega)) | exact Elem.own (List.getElem?_eq_getElem (by omega)) | exact Elem.ownO (List.getElem?_eq_getElem (by omega)) | apply Elem.there))) (dd rfl) ?_
            refine q_on rfl rfl ?_
            refine q_val (v_fieldAddrC 0 Try.underlying90 rfl ti3 (by decide) rfl) (dd rfl) ?_
            refine q_on rfl rfl ?_
            refine q_val (v_load lone3 rfl (hX (by repeat constructor)) rfl) (dd rfl) ?_
            refine q_on rfl rfl ?_
            refine q_val (v_gt rfl rfl) (dd rfl) ?_
            refine q_val (v_pick_t rfl rfl) (dd rfl) ?_
            refine q_nil ?_
            exact c_use J ⟨Env.as rfl (congrArg Value.bool (by first | rfl | (simp_all; done) | (simp_all; omega) | (simp; omega))), (by repeat (first | exact trivial | refine ⟨rfl, ?_⟩))⟩ (by first | exact Ent.refl _ | exact eX (by repeat constructor))
          · refine q_off rfl rfl rfl (dd rfl) ?_
            refine q_off rfl rfl rfl (dd rfl) ?_
            refine q_off rfl rfl rfl (dd rfl) ?_
            refine q_off rfl rfl rfl (dd rfl) ?_
            refine q_off rfl rfl rfl (dd rfl) ?_
            refine q_off rfl rfl rfl (dd rfl) ?_
            refine q_off rfl rfl rfl (dd rfl) ?_
            refine q_val (v_pick_f rfl rfl) (dd rfl) ?_
            refine q_nil ?_
            exact c_use J ⟨Env.as rfl (congrArg Value.bool (by first | rfl | (simp_all; done) | (simp_all; omega) | (simp; omega))), (by repeat (first | exact trivial | refine ⟨rfl, ?_⟩))⟩ (by first | exact Ent.refl _ | exact eX (by repeat constructor))
        refine c_cond_p rfl (fun hh => ?_) (fun hh => ?_)
        · refine c_seq ?_
          refine c_region ?_
          refine o_val (v_move rfl) (dd rfl) ?_
          refine o_val (v_fieldAddrC 0 Try.underlying90 rfl ti3 (by decide) rfl) (dd rfl) ?_
          refine o_val (v_load lone3 rfl (hX (by repeat constructor)) rfl) (dd rfl) ?_
          refine o_step (s_buildSlice Try.underlying35 ti3 rfl rfl rfl (by decide) (by decide) (beside_int .i64 [x.1]) rfl rfl (dd rfl) fun v1 => ?_)
          refine o_step (s_append Try.underlying35 ti3 rfl (by decide) rfl rfl (dd rfl) (pB (by repeat constructor)) (pX (by repeat constructor)) rfl (by (first | omega | (simp only [maxLen, List.length_append, List.length_drop, List.length_take, List.length_nil, List.length_cons]; omega))) (by (first | omega | (simp only [maxLen, List.length_append, List.length_drop, List.length_take, List.length_nil, List.length_cons]; omega))) fun v2 => ?_)
          refine o_val (v_assign rfl) (dd rfl) ?_
          refine o_nil ?_
          refine c_region ?_
          refine o_val (v_assign rfl) (dd rfl) ?_
          refine o_nil ?_
          refine c_region ?_
          refine o_val (v_move rfl) (dd rfl) ?_
          refine o_val (v_move rfl) (dd rfl) ?_
          refine o_val (v_move rfl) (dd rfl) ?_
          refine o_val ((by first | exact v_indexAddrN Try.underlying35 ti3 rfl rfl (hX (by repeat constructor)) (by omega) | exact v_indexAddr Try.underlying35 ti3 rfl rfl (hX (by repeat constructor)) (by omega))) (dd rfl) ?_
          refine o_val (v_load_int lone3 rfl (by repeat (first | exact Elem.sl (List.getElem?_eq_getElem (by omega)) | exact Elem.own (List.getElem?_eq_getElem (by omega)) | exact Elem.ownO (List.getElem?_eq_getElem (by omega)) | apply Elem.there))) (dd rfl) ?_
          refine o_step (s_buildSlice Try.underlying35 ti3 rfl rfl rfl (by decide) (by decide) (beside_int .i64 [out[j]'hj']) rfl rfl (dd rfl) fun v3 => ?_)
          refine o_step (s_append Try.underlying35 ti3 rfl (by decide) rfl rfl (dd rfl) (pB (by repeat constructor)) (pX (by repeat constructor)) rfl (by (first | omega | (simp only [maxLen, List.length_append, List.length_drop, List.length_take, List.length_nil, List.length_cons]; omega))) (by (first | omega | (simp only [maxLen, List.length_append, List.length_drop, List.length_take, List.length_nil, List.length_cons]; omega))) fun v4 => ?_)
          refine o_val (v_assign rfl) (dd rfl) ?_
          refine o_nil ?_
          refine c_inBlock ?_
          refine c_region ?_
          refine o_val (v_move rfl) (dd rfl) ?_
          refine o_val ((by first | exact v_add64 rfl rfl (by omega) | exact v_add rfl rfl)) (dd rfl) ?_
          refine o_val (v_assign rfl) (dd rfl) ?_
          refine o_nil ?_
          refine c_use (IH3 ((j + 1, v4, true, m ++ [x.1] ++ [out[j]'hj'])) (by first | omega | (dsimp only; omega)) ((by obtain ⟨rfl, h2⟩ := hh; exact putJ_hit hJ hj' h2))) (by repeat (first | exact trivial | refine ⟨rfl, ?_⟩)) (eX (by repeat constructor))
        · refine c_skip ?_
          refine c_region ?_
          refine o_val (v_move rfl) (dd rfl) ?_
          refine o_val (v_move rfl) (dd rfl) ?_
          refine o_val (v_move rfl) (dd rfl) ?_
          refine o_val ((by first | exact v_indexAddrN Try.underlying35 ti3 rfl rfl (hX (by repeat constructor)) (by omega) | exact v_indexAddr Try.underlying35 ti3 rfl rfl (hX (by repeat constructor)) (by omega))) (dd rfl) ?_
          refine o_val (v_load_int lone3 rfl (by repeat (first | exact Elem.sl (List.getElem?_eq_getElem (by omega)) | exact Elem.own (List.getElem?_eq_getElem (by omega)) | exact Elem.ownO (List.getElem?_eq_getElem (by omega)) | apply Elem.there))) (dd rfl) ?_
          refine o_step (s_buildSlice Try.underlying35 ti3 rfl rfl rfl (by decide) (by decide) (beside_int .i64 [out[j]'hj']) rfl rfl (dd rfl) fun v3 => ?_)
          refine o_step (s_append Try.underlying35 ti3 rfl (by decide) rfl rfl (dd rfl) (pB (by repeat constructor)) (pX (by repeat constructor)) rfl (by (first | omega | (simp only [maxLen, List.length_append, List.length_drop, List.length_take, List.length_nil, List.length_cons]; omega))) (by (first | omega | (simp only [maxLen, List.length_append, List.length_drop, List.length_take, List.length_nil, List.length_cons]; omega))) fun v4 => ?_)
          refine o_val (v_assign rfl) (dd rfl) ?_
          refine o_nil ?_
          refine c_inBlock ?_
          refine c_region ?_
          refine o_val (v_move rfl) (dd rfl) ?_
          refine o_val ((by first | exact v_add64 rfl rfl (by omega) | exact v_add rfl rfl)) (dd rfl) ?_
          refine o_val (v_assign rfl) (dd rfl) ?_
          refine o_nil ?_
          refine c_use (IH3 ((j + 1, v4, done, m ++ [out[j]'hj'])) (by first | omega | (dsimp only; omega)) ((putJ_miss hJ hj' hh))) (by repeat (first | exact trivial | refine ⟨rfl, ?_⟩)) (eX (by repeat constructor))
      · have hje : j = out.length := by omega
        subst hje
        have hend := putJ_end hJ
        refine c_exit rfl ?_
        refine c_seq ?_
        refine c_seq ?_
        refine c_region ?_
        refine o_val (v_move rfl) (dd rfl) ?_
        refine o_val (v_not rfl) (dd rfl) ?_
        refine o_nil ?_
        refine c_joinR (γ := Value) [(2, _), (4, _), (5, _), (8, _), (9, _), (10, _), (12, _), (13, _), (42, _), (43, _), (44, _), (45, _), (46, _), (47, _), (48, _), (51, _), (52, _), (53, _), (54, _), (55, _), (56, _), (57, _), (58, _), (59, _), (60, _), (86, _), (87, _)] (fun _ => True) (fun u => [(11, u)]) (fun u => [Own (eInt .i64) 3 u (putI x.1 out), Own eHs 90 r3 (getsR L1 x), Own eHs 90 r2 (withoutR W1 x.1), Blk b2 78 [r3, r2], Blk b4 78 [.slice none 0 0, .slice none 0 0]]) (by repeat (first | exact trivial | refine ⟨rfl, ?_⟩)) ?_ ?_
        · rintro mv2 -
          dsimp only [List.cons_append, List.nil_append]
          have hpl := putI_len x.1 out
          refine c_region ?_
          refine o_val (v_move rfl) (dd rfl) ?_
          refine o_val (v_assign rfl) (dd rfl) ?_
          refine o_nil ?_
          refine c_inBlock ?_
          refine c_use (IH2 ((r3, r2, mv2, getsR L1 x, withoutR W1 x.1, putI x.1 out)) (by first | omega | (dsimp only; omega)) (⟨(serve_step hf).symm.trans hF, by dsimp only; omega, by dsimp only; omega⟩)) (by repeat (first | exact trivial | refine ⟨rfl, ?_⟩)) (eX (by repeat constructor))
        · intro MEET
          skip
          refine c_cond rfl (fun hd => ?_) (fun hd => ?_)
          · have hd' : done = false := by simpa using hd
            rw [if_neg (by rw [hd']; simp)] at hend
            refine c_region ?_
            refine o_val (v_move rfl) (dd rfl) ?_
            refine o_val (v_fieldAddrC 0 Try.underlying90 rfl ti3 (by decide) rfl) (dd rfl) ?_
            refine o_val (v_load lone3 rfl (hX (by repeat constructor)) rfl) (dd rfl) ?_
            refine o_step (s_buildSlice Try.underlying35 ti3 rfl rfl rfl (by decide) (by decide) (beside_int .i64 [x.1]) rfl rfl (dd rfl) fun v1 => ?_)
            refine o_step (s_append Try.underlying35 ti3 rfl (by decide) rfl rfl (dd rfl) (pB (by repeat constructor)) (pX (by repeat constructor)) rfl (by (first | omega | (simp only [maxLen, List.length_append, List.length_drop, List.length_take, List.length_nil, List.length_cons]; omega))) (by (first | omega | (simp only [maxLen, List.length_append, List.length_drop, List.length_take, List.length_nil, List.length_cons]; omega))) fun v2 => ?_)
            refine o_val (v_assign rfl) (dd rfl) ?_
            refine o_nil ?_
            rw [hend]
            refine c_use (MEET (v2) (trivial)) (by repeat (first | exact trivial | refine ⟨rfl, ?_⟩)) (eX (by repeat constructor))
          · have hd' : done = true := by simpa using hd
            rw [if_pos hd'] at hend
            rw [hend]
            refine c_skip ?_
            refine c_use (MEET (mv) (trivial)) (by repeat (first | exact trivial | refine ⟨rfl, ?_⟩)) (eX (by repeat constructor))
end Go.Proofs.Ytnamhhmfnokfiaa
namespace Go.Proofs.Ytnamhhmfnokfiaa
open Go Go.SL
theorem idxF_any {α : Type} (p : α → Bool) (xs : List α) : decide (0 ≤ idxF p xs) = xs.any p := by
  rcases idxF_cases p xs with ⟨h1, h2⟩ | ⟨i, hi, h1, h2, _⟩
  · rw [decide_eq_false (by omega)]
    refine (Bool.eq_false_iff.2 fun h => ?_).symm
    obtain ⟨x, hx, h3⟩ := List.any_eq_true.1 h
    rw [h2 x hx] at h3; cases h3
  · rw [decide_eq_true (by omega)]
    exact (List.any_eq_true.2 ⟨xs[i], List.getElem_mem hi, h2⟩).symm
attribute [local irreducible] Cfg Kont StepK Val Con Qops Any Sl Own Blk BlkR Rd Pu ExA AllA Has Pick Ent Elem Beside Callable TI Lone OwnO AndA
set_option maxRecDepth 100000 in
theorem containsFunc_I {gp : FuncId} {caps : List Value} {R : A} {p : Int → Bool} (clp : Callable Try.prog gp) (v : Value) (xs : List Int) (hp : ∀ x ∈ xs, Con Try.prog gp (.int .i64 x :: caps) [R] (γ := Unit) (fun _ => .bool (p x)) (fun _ => True) (fun _ => [R])) (hx : xs.length ≤ 9223372036854775807) :
    Con Try.prog 70 [v, .func (.func gp) #[] caps.toArray] [Own (eInt .i64) 3 v xs, R] (γ := Unit) (fun _ => .bool (xs.any p)) (fun _ => True) (fun _ => [Own (eInt .i64) 3 v xs, R]) := by
  refine con_of Try.func70 rfl (dd rfl) fun w0 O0 => ?_
  refine c_seq ?_
  refine c_region ?_
  refine o_val (v_assign rfl) (dd rfl) ?_
  refine o_nil ?_
  refine c_seq ?_
  refine c_region ?_
  refine o_val (v_move rfl) (dd rfl) ?_
  refine o_val (v_move rfl) (dd rfl) ?_
  refine o_step (s_callf cl104 (indexFunc_I clp v xs hp hx) rfl (dd rfl) (pXs (by repeat constructor)) fun _ _ => ?_)
  refine o_val (v_ge rfl rfl) (dd rfl) ?_
  refine o_val (v_assign rfl) (dd rfl) ?_
  refine o_nil ?_
  rw [idxF_any]
  refine c_ret1 Try.func70 rfl rfl fun w O hS => ?_
  exact ⟨(), rfl, trivial, Ent.get hS (eX (by repeat constructor))⟩
end Go.Proofs.Ytnamhhmfnokfiaa
namespace Go.Proofs.Ytnamhhmfnokfiaa
open Go Go.SL
abbrev Op12 := Int × Int × ByteArray × Int
abbrev eOp12 : Enc Op12 := ePair (eInt .i64) (ePair (eInt .i64) (ePair eStr (eInt .i64)))
attribute [local irreducible] Cfg Kont StepK Val Con Qops Any Sl Own Blk BlkR Rd Pu ExA AllA Has Pick Ent Elem Beside Callable TI Lone OwnO AndA
set_option maxRecDepth 100000 in
theorem few12_con (v : Value) (l : List Op12) (hl : l.length ≤ 8796093022207) :
    Con Try.prog 36 [v] [Sl eOp12 v l] (γ := Bool) (fun b => .bool b) (fun b => b = true → l.length ≤ 40) (fun _ => []) := by
  refine con_of Try.func36 rfl (dd rfl) fun w0 O0 => ?_
  refine c_seq ?_
  refine c_region ?_
  refine o_val (v_assign rfl) (dd rfl) ?_
  refine o_nil ?_
  refine c_seq ?_
  refine c_region ?_
  refine o_val (v_assign rfl) (dd rfl) ?_
  refine o_nil ?_
  refine c_seq ?_
  refine c_seq ?_
  refine c_region ?_
  refine o_val (v_move rfl) (dd rfl) ?_
  refine o_val ((by first | exact v_len_form Try.underlying69 rfl | exact v_len_sl Try.underlying69 rfl (hX (by repeat constructor)))) (dd rfl) ?_
  refine o_val (v_move rfl) (dd rfl) ?_
  refine o_nil ?_
  refine c_block ?_
  refine c_loopR (γ := Nat × Int) [(0, _), (2, _), (6, _), (7, _)] (fun g => l.length - g.1) (fun g => g.1 ≤ l.length) (fun g => [(8, .int .i64 g.1), (3, .int .i64 g.2)]) (fun _ => [Sl eOp12 v l]) ((0, 0)) (Nat.zero_le _) (by repeat (first | exact trivial | refine ⟨rfl, ?_⟩)) (eX (by repeat constructor)) ?_
  rintro ⟨i, n⟩ hi IH
  dsimp only at hi ⊢
  try dsimp only [List.cons_append, List.nil_append]
  refine c_seq ?_
  refine c_region ?_
  refine o_val (v_lt rfl rfl) (dd rfl) ?_
  refine o_nil ?_
  refine c_seq ?_
  refine c_cond_p rfl (fun hlt => ?_) (fun hlt => ?_)
  · have hi' : i < l.length := by omega
    refine c_skip ?_
    refine c_seq ?_
    refine c_block ?_
    refine c_seq ?_
    refine c_region ?_
    refine o_val ((by first | exact v_indexAddrN Try.underlying69 ti80 rfl rfl (hX (by repeat constructor)) (by omega) | exact v_indexAddr Try.underlying69 ti80 rfl rfl (hX (by repeat constructor)) (by omega))) (dd rfl) ?_
    refine o_val (v_load_p (by repeat (first | exact PEnc.int _ | exact PEnc.str | exact PEnc.bool | exact PEnc.byte | exact PEnc.raw | apply PEnc.pair | apply PEnc.map)) ⟨_, Try.underlying80⟩ ti80 rfl (by repeat (first|exact el1 (by omega)|exact el2 (by omega)|exact el3 (by omega)|apply Elem.there))) (dd rfl) ?_
    refine o_step (s_alloc ti80 (dd rfl) (fun b5 => ?_))
    refine o_step (s_store_all ti80 rfl rfl (by first | exact CellsV.lit rfl | exact CellsV.one (by first | exact OneC.lit rfl | exact OneC.sl (hX (by repeat constructor)) )) (by repeat (first | exact OneAll.nil | (refine OneAll.cons ?_ ?_; · first | exact OneC.lit rfl | exact OneC.sl (hX (by repeat constructor)) ) | exact OneAll.rd (hX (by repeat constructor)))) rfl (pB (by repeat constructor)) rfl (?_))
    refine o_nil ?_
    refine c_region ?_
    refine o_val (v_move rfl) (dd rfl) ?_
    refine o_val (v_fieldAddrC 2 Try.underlying80 rfl ti9 (by decide) rfl) (dd rfl) ?_
    refine o_val (v_load lone9 rfl (hX (by repeat constructor)) rfl) (dd rfl) ?_
    refine o_val (v_len_str Try.underlying9 rfl) (dd rfl) ?_
    refine o_val ((by first | exact v_add64 rfl rfl (by omega) | exact v_add rfl rfl)) (dd rfl) ?_
    refine o_val (v_assign rfl) (dd rfl) ?_
    refine o_nil ?_
    refine c_inBlock ?_
    refine c_region ?_
    refine o_val ((by first | exact v_add64 rfl rfl (by omega) | exact v_add rfl rfl)) (dd rfl) ?_
    refine o_val (v_move rfl) (dd rfl) ?_
    refine o_nil ?_
    refine c_use (IH ((i + 1, _)) (by first | omega | (dsimp only; omega)) (by dsimp only; omega)) (by repeat (first | exact trivial | refine ⟨rfl, ?_⟩)) (eX (by repeat constructor))
  · refine c_exit rfl ?_
    refine c_seq ?_
    refine c_region ?_
    refine o_val (v_move rfl) (dd rfl) ?_
    refine o_val ((by first | exact v_len_form Try.underlying69 rfl | exact v_len_sl Try.underlying69 rfl (hX (by repeat constructor)))) (dd rfl) ?_
    refine o_val (v_le rfl rfl) (dd rfl) ?_
    refine o_val (v_move rfl) (dd rfl) ?_
    refine o_guard_t rfl rfl (fun hle => ?_) (fun hle => ?_)
    · refine o_val (v_move rfl) (dd rfl) ?_
      refine o_on rfl rfl ?_
      refine o_val (v_le rfl rfl) (dd rfl) ?_
      refine o_val (v_pick_t rfl rfl) (dd rfl) ?_
      refine o_val (v_assign rfl) (dd rfl) ?_
      refine o_nil ?_
      refine c_ret1 Try.func36 rfl rfl fun w O hS => ?_
      exact ⟨_, rfl, fun _ => by omega, trivial⟩
    · refine o_off rfl rfl rfl (dd rfl) ?_
      refine o_off rfl rfl rfl (dd rfl) ?_
      refine o_val (v_pick_f rfl rfl) (dd rfl) ?_
      refine o_val (v_assign rfl) (dd rfl) ?_
      refine o_nil ?_
      refine c_ret1 Try.func36 rfl rfl fun w O hS => ?_
      exact ⟨false, rfl, (fun h => by cases h), trivial⟩
set_option maxRecDepth 100000 in
theorem numbers_con (a b : Value) (xs ys : List Int) (hx : xs.length ≤ 1000000) (hy : ys.length ≤ 1000000) :
    Con Try.prog 63 [a, b] [Sl (eInt .i64) a xs, Sl (eInt .i64) b ys] (γ := Unit) (fun _ => .bool (decide (xs = ys))) (fun _ => True) (fun _ => []) := by
  refine con_of Try.func63 rfl (dd rfl) fun w0 O0 => ?_
  refine c_seq ?_
  refine c_region ?_
  refine o_val (v_assign rfl) (dd rfl) ?_
  refine o_nil ?_
  refine c_seq ?_
  refine c_seq ?_
  refine c_region ?_
  refine o_val (v_move rfl) (dd rfl) ?_
  refine o_val ((by first | exact v_len_form Try.underlying35 rfl | exact v_len_sl Try.underlying35 rfl (hX (by repeat constructor)))) (dd rfl) ?_
  refine o_val (v_move rfl) (dd rfl) ?_
  refine o_val ((by first | exact v_len_form Try.underlying35 rfl | exact v_len_sl Try.underlying35 rfl (hX (by repeat constructor)))) (dd rfl) ?_
  refine o_val (v_ne rfl rfl) (dd rfl) ?_
  refine o_nil ?_
  refine c_cond_p rfl (fun hne => ?_) (fun hne => ?_)
  · refine c_seq ?_
    refine c_region ?_
    refine o_val (v_assign rfl) (dd rfl) ?_
    refine o_nil ?_
    refine c_ret1 Try.func63 rfl rfl fun w O hS => ?_
    exact ⟨(), congrArg Value.bool (decide_eq_false fun h => hne (by rw [h])).symm, trivial, trivial⟩
  · have hlen : xs.length = ys.length := by omega
    refine c_skip ?_
    refine c_seq ?_
    refine c_seq ?_
    refine c_region ?_
    refine o_val (v_move rfl) (dd rfl) ?_
    refine o_val ((by first | exact v_len_form Try.underlying35 rfl | exact v_len_sl Try.underlying35 rfl (hX (by repeat constructor)))) (dd rfl) ?_
    refine o_val (v_move rfl) (dd rfl) ?_
    refine o_nil ?_
    refine c_block ?_
    refine c_loopQ (γ := Nat) [(0, _), (1, _), (4, _), (12, _)] (fun k => xs.length - k) (fun k => k ≤ xs.length ∧ ∀ (j : Nat) (hj : j < xs.length), j < k → xs[j] = ys[j]'(by omega)) (fun k => [(13, .int .i64 k)]) (0) (⟨Nat.zero_le _, fun _ _ h => by omega⟩) (by repeat (first | exact trivial | refine ⟨rfl, ?_⟩)) ?_
    rintro k ⟨hk, hall⟩ IH
    try dsimp only [List.cons_append, List.nil_append]
    refine c_seq ?_
    refine c_region ?_
    refine o_val (v_lt rfl rfl) (dd rfl) ?_
    refine o_nil ?_
    refine c_seq ?_
    refine c_cond_p rfl (fun hlt => ?_) (fun hlt => ?_)
    · have hlt' : k < xs.length := by omega
      have hlt2 : k < ys.length := by omega
      refine c_skip ?_
      refine c_seq ?_
      refine c_block ?_
      refine c_seq ?_
      refine c_region ?_
      refine o_val (v_move rfl) (dd rfl) ?_
      refine o_val (v_assign rfl) (dd rfl) ?_
      refine o_nil ?_
      refine c_seq ?_
      refine c_quiet rfl (by kernel_rfl) ?_
      refine q_val (v_move rfl) (dd rfl) ?_
      refine q_val (v_move rfl) (dd rfl) ?_
      refine q_val ((by first | exact v_indexAddrN Try.underlying35 ti3 rfl rfl (hX (by repeat constructor)) (by omega) | exact v_indexAddr Try.underlying35 ti3 rfl rfl (hX (by repeat constructor)) (by omega))) (dd rfl) ?_
      refine q_val (v_load_int lone3 rfl (by repeat (first | exact Elem.sl (List.getElem?_eq_getElem (by omega)) | exact Elem.own (List.getElem?_eq_getElem (by omega)) | exact Elem.ownO (List.getElem?_eq_getElem (by omega)) | apply Elem.there))) (dd rfl) ?_
      refine q_val (v_move rfl) (dd rfl) ?_
      refine q_val (v_move rfl) (dd rfl) ?_
      refine q_val ((by first | exact v_indexAddrN Try.underlying35 ti3 rfl rfl (hX (by repeat constructor)) (by omega) | exact v_indexAddr Try.underlying35 ti3 rfl rfl (hX (by repeat constructor)) (by omega))) (dd rfl) ?_
      refine q_val (v_load_int lone3 rfl (by repeat (first | exact Elem.sl (List.getElem?_eq_getElem (by omega)) | exact Elem.own (List.getElem?_eq_getElem (by omega)) | exact Elem.ownO (List.getElem?_eq_getElem (by omega)) | apply Elem.there))) (dd rfl) ?_
      refine q_val (v_ne rfl rfl) (dd rfl) ?_
      refine q_nil ?_
      refine c_cond_p rfl (fun hs => ?_) (fun hs => ?_)
      · refine c_seq ?_
        refine c_region ?_
        refine o_val (v_assign rfl) (dd rfl) ?_
        refine o_nil ?_
        refine c_ret1 Try.func63 rfl rfl fun w O hS => ?_
        exact ⟨(), congrArg Value.bool (decide_eq_false fun h => hs (by subst h; rfl)).symm, trivial, trivial⟩
      · have hs' : xs[k] = ys[k] := Classical.not_not.1 hs
        refine c_skip ?_
        refine c_inBlock ?_
        refine c_region ?_
        refine o_val ((by first | exact v_add64 rfl rfl (by omega) | exact v_add rfl rfl)) (dd rfl) ?_
        refine o_val (v_move rfl) (dd rfl) ?_
        refine o_nil ?_
        refine c_use (IH (k + 1) (by first | omega | (dsimp only; omega)) (⟨by omega, fun j hj hjk => (Nat.lt_succ_iff_lt_or_eq.1 hjk).elim (hall j hj) fun h => by subst h; exact hs'⟩)) (by repeat (first | exact trivial | refine ⟨rfl, ?_⟩)) (eX (by repeat constructor))
    · refine c_exit rfl ?_
      refine c_seq ?_
      refine c_region ?_
      refine o_val (v_assign rfl) (dd rfl) ?_
      refine o_nil ?_
      refine c_ret1 Try.func63 rfl rfl fun w O hS => ?_
      exact ⟨(), congrArg Value.bool (decide_eq_true (List.ext_getElem hlen fun i hi hi' => hall i hi (by omega))).symm, trivial, trivial⟩
end Go.Proofs.Ytnamhhmfnokfiaa
/- slices.Insert of one element. -/
namespace Go.Proofs.Ytnamhhmfnokfiaa
open Go Go.SL
theorem extern_overlaps : Extern.find Try.f112 = some (Extern.SlicesOverlaps.overlaps #[133, 133] #[4]) := by kernel_rfl
def fW (p : Int × Int) : List Value := [.int .i64 p.1, .int .i64 p.2]
theorem encF_W : EncF (ePair (eInt .i64) (eInt .i64)) fW := EncF.pair (EncF.int .i64) (EncF.int .i64)
theorem fW_one {xs : List (Int × Int)} : ∀ v ∈ xs.flatMap fW, v.oneCell' = true := fun v hv => by
  obtain ⟨p, _, hp⟩ := List.mem_flatMap.1 hv
  simp only [fW, List.mem_cons, List.not_mem_nil, or_false] at hp
  rcases hp with rfl | rfl <;> rfl
theorem ins1 {cur A y B : List Value} {a : Nat} (ha : cur.take a = A) (hal : A.length = a) (hl : a + y.length + B.length ≤ cur.length) :
    ((cur.take a ++ y ++ cur.drop (a + y.length)).take (a + y.length) ++ B ++ (cur.take a ++ y ++ cur.drop (a + y.length)).drop (a + y.length + B.length)).take (a + y.length + B.length) = A ++ y ++ B ∧
      ((cur.take a ++ y ++ cur.drop (a + y.length)).take (a + y.length) ++ B ++ (cur.take a ++ y ++ cur.drop (a + y.length)).drop (a + y.length + B.length)).length = cur.length := by
  rw [ha]
  have e1 : (A ++ y ++ cur.drop (a + y.length)).take (a + y.length) = A ++ y := List.take_left' (by simp [hal])
  rw [e1]
  exact ⟨List.take_left' (by simp [hal]; omega), by simp [hal]; omega⟩
theorem ins2 {cur A y B : List Value} {a : Nat} (ha : cur.take a = A) (hal : A.length = a) (hl : a + y.length + B.length ≤ cur.length) :
    (((cur.take (a + y.length) ++ B ++ cur.drop (a + y.length + B.length)).take a ++ y ++ (cur.take (a + y.length) ++ B ++ cur.drop (a + y.length + B.length)).drop (a + y.length))).take (a + y.length + B.length) = A ++ y ++ B ∧
      (((cur.take (a + y.length) ++ B ++ cur.drop (a + y.length + B.length)).take a ++ y ++ (cur.take (a + y.length) ++ B ++ cur.drop (a + y.length + B.length)).drop (a + y.length))).length = cur.length := by
  have e0 : (cur.take (a + y.length)).length = a + y.length := by simp; omega
  have e1 : (cur.take (a + y.length) ++ B ++ cur.drop (a + y.length + B.length)).take a = A := by
    rw [List.append_assoc, List.take_append_of_le_length (by omega), List.take_take, Nat.min_eq_left (by omega), ha]
  have e2 : (cur.take (a + y.length) ++ B ++ cur.drop (a + y.length + B.length)).drop (a + y.length) = B ++ cur.drop (a + y.length + B.length) := by
    rw [List.append_assoc]; exact List.drop_left' e0
  rw [e1, e2]
  refine ⟨?_, by simp [hal]; omega⟩
  rw [← List.append_assoc]
  exact List.take_left' (by simp [hal]; omega)
theorem ins1' {cur A y B : List Value} {a o1 o2 : Nat} (ha : cur.take a = A) (hal : A.length = a) (hl : a + y.length + B.length ≤ cur.length) (h1 : o1 = a) (h2 : o2 = a + y.length) :
    ∃ c1 c2, cur.take o1 ++ y ++ cur.drop (o1 + y.length) = c1 ∧ c1.length = cur.length ∧ c1.take o2 ++ B ++ c1.drop (o2 + B.length) = c2 ∧ c2.length = cur.length ∧ c2.take (a + y.length + B.length) = A ++ y ++ B := by
  subst h1 h2
  obtain ⟨i1, i2⟩ := ins1 ha hal hl
  exact ⟨_, _, rfl, by simp; omega, rfl, i2, i1⟩
theorem ins2' {cur A y B : List Value} {a o1 o2 : Nat} (ha : cur.take a = A) (hal : A.length = a) (hl : a + y.length + B.length ≤ cur.length) (h1 : o1 = a) (h2 : o2 = a + y.length) :
    ∃ c1 c2, cur.take o2 ++ B ++ cur.drop (o2 + B.length) = c1 ∧ c1.length = cur.length ∧ c1.take o1 ++ y ++ c1.drop (o1 + y.length) = c2 ∧ c2.length = cur.length ∧ c2.take (a + y.length + B.length) = A ++ y ++ B := by
  subst h1 h2
  obtain ⟨i1, i2⟩ := ins2 ha hal hl
  exact ⟨_, _, rfl, by simp; omega, rfl, i2, i1⟩
theorem cutV_ne {g off l h c n : Nat} (hc : c ≠ l) : cutV (some ⟨g, off, none⟩) l h c n = .slice (some ⟨g, off + l * n, none⟩) (h - l) (c - l) := by
  simp only [Go.SL.cutV, if_neg hc, Option.map_some]
  rw [addr_add]
theorem flat_cells {cur : List Value} {xs : List (Int × Int)} (h : cur.take (xs.length * 2) = xs.flatMap fW) (k m : Nat) : ∀ j v, (((xs.drop k).take m).flatMap fW)[j]? = some v → cur[k * 2 + j]? = some v := by
  intro j v hj
  have hl : ∀ x : Int × Int, (fW x).length = 2 := fun _ => rfl
  have h1 := flat_drop hl xs k
  have h2 := flat_take hl (xs.drop k) m
  rw [← h2, ← h1, ← h, List.getElem?_take] at hj
  split at hj
  · rw [List.getElem?_drop, List.getElem?_take] at hj
    split at hj
    · exact hj
    · cases hj
  · cases hj
attribute [local irreducible] Cfg Kont StepK Val Con Qops Any Sl Own Blk BlkR Rd Pu ExA AllA Has Pick Ent Elem Beside Callable TI Lone OwnO AndA
set_option maxRecDepth 100000 in
theorem insert_W (v u : Value) (xs : List (Int × Int)) (k : Nat) (y : Int × Int) (hk : k ≤ xs.length) (hx : xs.length ≤ 100000) :
    Con Try.prog 84 [v, .int .i64 k, u] [Own (ePair (eInt .i64) (eInt .i64)) 137 v xs, Own (ePair (eInt .i64) (eInt .i64)) 137 u [y]] (γ := Value) (fun r => r) (fun _ => True)
      (fun r => [Own (ePair (eInt .i64) (eInt .i64)) 137 r (xs.take k ++ [y] ++ xs.drop k)]) := by
  refine Con.own (v := u) (xs := [y]) (Has.there Has.here) (fun _ h => by cases h) ?_
  rintro gy capy rfl hcapy
  simp only [List.length_cons, List.length_nil, Nat.zero_add] at hcapy ⊢
  refine Con.own (v := v) (xs := xs) Has.here ?_ ?_
  · rintro rfl rfl
    obtain rfl : k = 0 := by simpa using hk
    refine con_of Try.func84 rfl (dd rfl) fun w0 O0 => ?_
    refine c_seq ?_
    refine c_region ?_
    refine o_val (v_assign rfl) (dd rfl) ?_
    refine o_nil ?_
    refine c_seq ?_
    refine c_region ?_
    refine o_val (v_move rfl) (dd rfl) ?_
    refine o_val (v_move rfl) (dd rfl) ?_
    refine o_val (v_slice Try.underlying133 ti137 rfl (.inr ⟨_, _, _, rfl, rfl, by omega, rfl⟩) (.inl ⟨rfl, rfl, rfl⟩) (.inl ⟨rfl, rfl⟩) (by omega) (by omega) (by omega)) (dd rfl) ?_
    refine o_nil ?_
    refine c_seq ?_
    refine c_region ?_
    refine o_val (v_move rfl) (dd rfl) ?_
    refine o_val ((by first | exact v_len_form Try.underlying133 rfl | exact v_len_sl Try.underlying133 rfl (hX (by repeat constructor)))) (dd rfl) ?_
    refine o_val (v_assign rfl) (dd rfl) ?_
    refine o_nil ?_
    refine c_seq ?_
    refine c_seq ?_
    refine c_region ?_
    refine o_val (v_move rfl) (dd rfl) ?_
    refine o_val (v_eq rfl rfl) (dd rfl) ?_
    refine o_nil ?_
    refine c_cond_f rfl ?_
    refine c_skip ?_
    refine c_seq ?_
    refine c_region ?_
    refine o_val (v_move rfl) (dd rfl) ?_
    refine o_val ((by first | exact v_len_form Try.underlying133 rfl | exact v_len_sl Try.underlying133 rfl (hX (by repeat constructor)))) (dd rfl) ?_
    refine o_val (v_assign rfl) (dd rfl) ?_
    refine o_nil ?_
    refine c_seq ?_
    refine c_seq ?_
    refine c_region ?_
    refine o_val (v_move rfl) (dd rfl) ?_
    refine o_val (v_move rfl) (dd rfl) ?_
    refine o_val (v_eq rfl rfl) (dd rfl) ?_
    refine o_nil ?_
    refine c_cond_t rfl ?_
    refine c_seq ?_
    refine c_region ?_
    refine o_val (v_move rfl) (dd rfl) ?_
    refine o_val (v_move rfl) (dd rfl) ?_
    refine o_step (s_append Try.underlying133 ti137 rfl (by decide) rfl rfl (dd rfl) (pB (by repeat constructor)) (pX (by repeat constructor)) rfl (by (first | omega | (simp only [maxLen, List.length_append, List.length_drop, List.length_take, List.length_nil, List.length_cons]; omega))) (by (first | omega | (simp only [maxLen, List.length_append, List.length_drop, List.length_take, List.length_nil, List.length_cons]; omega))) fun v1 => ?_)
    refine o_val (v_assign rfl) (dd rfl) ?_
    refine o_nil ?_
    refine c_ret1 Try.func84 rfl rfl fun w O hS => ?_
    exact ⟨_, rfl, trivial, Ent.get hS (eX (by repeat constructor))⟩
  · rintro g cap rfl hcap
    refine con_of Try.func84 rfl (dd rfl) fun w0 O0 => ?_
    refine c_seq ?_
    refine c_region ?_
    refine o_val (v_assign rfl) (dd rfl) ?_
    refine o_nil ?_
    refine c_seq ?_
    refine c_region ?_
    refine o_val (v_move rfl) (dd rfl) ?_
    refine o_val (v_move rfl) (dd rfl) ?_
    refine o_val (v_slice Try.underlying133 ti137 rfl (.inr ⟨_, _, _, rfl, rfl, by omega, rfl⟩) (.inl ⟨rfl, rfl, rfl⟩) (.inl ⟨rfl, rfl⟩) (by omega) (by omega) (by omega)) (dd rfl) ?_
    refine o_nil ?_
    refine c_seq ?_
    refine c_region ?_
    refine o_val (v_move rfl) (dd rfl) ?_
    refine o_val ((by first | exact v_len_form Try.underlying133 rfl | exact v_len_sl Try.underlying133 rfl (hX (by repeat constructor)))) (dd rfl) ?_
    refine o_val (v_assign rfl) (dd rfl) ?_
    refine o_nil ?_
    refine c_seq ?_
    refine c_seq ?_
    refine c_region ?_
    refine o_val (v_move rfl) (dd rfl) ?_
    refine o_val (v_eq rfl rfl) (dd rfl) ?_
    refine o_nil ?_
    refine c_cond_f rfl ?_
    refine c_skip ?_
    refine c_seq ?_
    refine c_region ?_
    refine o_val (v_move rfl) (dd rfl) ?_
    refine o_val ((by first | exact v_len_form Try.underlying133 rfl | exact v_len_sl Try.underlying133 rfl (hX (by repeat constructor)))) (dd rfl) ?_
    refine o_val (v_assign rfl) (dd rfl) ?_
    refine o_nil ?_
    refine c_seq ?_
    refine c_seq ?_
    refine c_region ?_
    refine o_val (v_move rfl) (dd rfl) ?_
    refine o_val (v_move rfl) (dd rfl) ?_
    refine o_val (v_eq rfl rfl) (dd rfl) ?_
    refine o_nil ?_
    refine c_cond_p rfl (fun hkn => ?_) (fun hkn => ?_)
    · obtain rfl : k = xs.length := by omega
      refine c_seq ?_
      refine c_region ?_
      refine o_val (v_move rfl) (dd rfl) ?_
      refine o_val (v_move rfl) (dd rfl) ?_
      refine o_step (s_append Try.underlying133 ti137 rfl (by decide) rfl rfl (dd rfl) (pB (by repeat constructor)) (pX (by repeat constructor)) rfl (by (first | omega | (simp only [maxLen, List.length_append, List.length_drop, List.length_take, List.length_nil, List.length_cons]; omega))) (by (first | omega | (simp only [maxLen, List.length_append, List.length_drop, List.length_take, List.length_nil, List.length_cons]; omega))) fun v1 => ?_)
      refine o_val (v_assign rfl) (dd rfl) ?_
      refine o_nil ?_
      refine c_ret1 Try.func84 rfl rfl fun w O hS => ?_
      refine ⟨_, rfl, trivial, ?_⟩
      rw [List.take_length, List.drop_length, List.append_nil]
      exact Ent.get hS (eX (by repeat constructor))
    · have hlt : k < xs.length := by omega
      refine c_own_open encF_W fun cur _ h2 h3 h4 h5 => c_swap (c_own_open encF_W fun cury _ h6 h7 h8 h9 => ?_)
      have h4' : cur.length = cap * 2 := h4
      have h5' : cur.take (xs.length * 2) = xs.flatMap fW := h5
      have h9' : cury.take 2 = fW y := by
        have h9 : cury.take (1 * 2) = [y].flatMap fW := h9
        simpa [fW] using h9
      have hfl : ∀ x : Int × Int, (fW x).length = 2 := fun _ => rfl
      have hA : ((xs.take k).flatMap fW).length = k * 2 := by rw [flat_len hfl]; simp; omega
      have hB : ((xs.drop k).flatMap fW).length = (xs.length - k) * 2 := by rw [flat_len hfl]; simp
      have hk2 : cur.take (k * 2) = (xs.take k).flatMap fW := by rw [← flat_take hfl, ← h5', List.take_take, Nat.min_eq_left (by omega)]
      have hcyb : ∀ j v, (fW y)[j]? = some v → cury[0 + j]? = some v := fun j v hj => by
        rw [Nat.zero_add]
        rw [← h9', List.getElem?_take] at hj
        split at hj
        · exact hj
        · cases hj
      refine c_skip ?_
      refine c_seq ?_
      refine c_seq ?_
      refine c_region ?_
      refine o_val (v_move rfl) (dd rfl) ?_
      refine o_val (v_move rfl) (dd rfl) ?_
      refine o_val ((by first | exact v_add64 rfl rfl (by omega) | exact v_add rfl rfl)) (dd rfl) ?_
      refine o_val (v_move rfl) (dd rfl) ?_
      refine o_val (v_cap Try.underlying133 rfl) (dd rfl) ?_
      refine o_val (v_gt rfl rfl) (dd rfl) ?_
      refine o_nil ?_
      refine c_cond_p rfl (fun hroom => ?_) (fun hroom => ?_)
      · refine c_seq ?_
        refine c_region ?_
        refine o_val (v_move rfl) (dd rfl) ?_
        refine o_val (v_move rfl) (dd rfl) ?_
        refine o_val (v_slice Try.underlying133 ti137 rfl (.inl ⟨rfl, rfl⟩) (.inr ⟨_, _, _, rfl, rfl, by omega, rfl⟩) (.inl ⟨rfl, rfl⟩) (by omega) (by omega) (by omega)) (dd rfl) ?_
        refine o_val (v_move rfl) (dd rfl) ?_
        refine o_val (v_move rfl) (dd rfl) ?_
        refine o_val ((by first | exact v_add64 rfl rfl (by omega) | exact v_add rfl rfl)) (dd rfl) ?_
        refine o_val (v_move rfl) (dd rfl) ?_
        refine o_val ((by first | exact v_sub64 rfl rfl (by omega) | exact v_sub rfl rfl)) (dd rfl) ?_
        simp only [Int.toNat_natCast, cutV_zero, show ((xs.length : Int) + ((1 : Nat) : Int) - (k : Int)) = ((xs.length + 1 - k : Nat) : Int) by omega]
        refine o_step (s_append_zeros ((xs.take k).flatMap fW) Try.underlying133 Try.underlying3 ti137 rfl (by decide) rfl rfl (Cells.blk (hX (by repeat constructor)) fun j v hj => by have := flat_cells h5' 0 k j v (by simpa using hj); simpa using this) hA (by omega) (by omega) (by omega) (by simp only [maxLen]; omega) (dd rfl) fun g2 cap2 cur2 k1 k2 k3 k4 => ?_)
        refine o_val (v_assign rfl) (dd rfl) ?_
        refine o_nil ?_
        refine c_seq ?_
        refine c_region ?_
        refine o_val (v_move rfl) (dd rfl) ?_
        refine o_val (v_move rfl) (dd rfl) ?_
        have k4' : cur2.take (k * 2) = (xs.take k).flatMap fW := k4
        have k3' : cur2.length = cap2 * 2 := k3
        obtain ⟨c1, c2, j1, j2, j3, j4, j5⟩ := ins1' (B := (xs.drop k).flatMap fW) (y := fW y) (o1 := 0 + k * 2) (o2 := 0 + (k + 1) * 2) k4' hA (by rw [hB, k3', hfl]; omega) (by omega) (by rw [hfl]; omega)
        refine o_val (v_slice Try.underlying133 ti137 rfl (.inr ⟨_, _, _, rfl, rfl, by omega, rfl⟩) (.inl ⟨rfl, rfl, rfl⟩) (.inl ⟨rfl, rfl⟩) (by omega) (by omega) (by omega)) (dd rfl) ?_
        refine o_val (v_move rfl) (dd rfl) ?_
        simp only [Int.toNat_natCast, Nat.add_sub_cancel' (show k ≤ xs.length + 1 by omega)]
        rw [cutV_ne (by omega)]
        refine o_step (s_copy 1 (fW y) Try.underlying133 ti137 rfl rfl (by omega) (Cells.blk (g := gy) (off := 0) (hX (by repeat constructor)) hcyb) rfl (fun v hv => fW_one (xs := [y]) v (by simpa using hv)) (dd rfl) (g := g2) (pB (by repeat constructor)) (by rw [hfl, k3']; omega) j1 ?_)
        refine o_nil ?_
        refine c_seq ?_
        refine c_held [] rfl ?_
        refine a_take 0 rfl (by kernel_rfl) (by kernel_rfl) (by kernel_rfl) (v_move rfl) (eX (by repeat constructor)) (dd rfl) ?_
        refine a_take 1 rfl (by kernel_rfl) (by kernel_rfl) (by kernel_rfl) (v_move rfl) (eX (by repeat constructor)) (dd rfl) ?_
        refine a_take 2 rfl (by kernel_rfl) (by kernel_rfl) (by kernel_rfl) (v_move rfl) (eX (by repeat constructor)) (dd rfl) ?_
        refine a_take 3 rfl (by kernel_rfl) (by kernel_rfl) (by kernel_rfl) ((by first | exact v_add64 rfl rfl (by omega) | exact v_add rfl rfl)) (eX (by repeat constructor)) (dd rfl) ?_
        refine a_take 4 rfl (by kernel_rfl) (by kernel_rfl) (by kernel_rfl) (v_slice Try.underlying133 ti137 rfl (.inr ⟨_, _, _, rfl, rfl, by omega, rfl⟩) (.inl ⟨rfl, rfl, rfl⟩) (.inl ⟨rfl, rfl⟩) (by omega) (by omega) (by omega)) (eX (by repeat constructor)) (dd rfl) ?_
        refine a_take 5 rfl (by kernel_rfl) (by kernel_rfl) (by kernel_rfl) (v_move rfl) (eX (by repeat constructor)) (dd rfl) ?_
        refine a_take 6 rfl (by kernel_rfl) (by kernel_rfl) (by kernel_rfl) (v_move rfl) (eX (by repeat constructor)) (dd rfl) ?_
        refine a_take 7 rfl (by kernel_rfl) (by kernel_rfl) (by kernel_rfl) (v_slice Try.underlying133 ti137 rfl (.inr ⟨_, _, _, rfl, rfl, by omega, rfl⟩) (.inl ⟨rfl, rfl, rfl⟩) (.inl ⟨rfl, rfl⟩) (by omega) (by omega) (by omega)) (eX (by repeat constructor)) (dd rfl) ?_
        simp only [Int.toNat_natCast, show ((k : Int) + ((1 : Nat) : Int)).toNat = k + 1 by omega]
        rw [cutV_ne (show cap2 ≠ k + 1 by omega), cutV_ne (show cap ≠ k by omega)]
        refine a_one 8 rfl (by kernel_rfl) (s_copy (xs.length - k) ((xs.drop k).flatMap fW) Try.underlying133 ti137 rfl rfl (by omega) (Cells.blk (g := g) (off := 0 + k * 2) (hX (by repeat constructor)) fun j v hj => by have := flat_cells h5' k xs.length j v (by rw [List.take_of_length_le (by simp)]; exact hj); rw [Nat.zero_add]; exact this) hB (fun v hv => fW_one v hv) (dd rfl) (g := g2) (pB (by repeat constructor)) (by rw [hB, j2, k3']; omega) j3 (a_on (eX (by repeat constructor)) ?_))
        refine a_done (by kernel_rfl) ?_ _
        refine c_seq ?_
        refine c_region ?_
        refine o_val (v_move rfl) (dd rfl) ?_
        refine o_val (v_assign rfl) (dd rfl) ?_
        refine o_nil ?_
        refine c_ret1 Try.func84 rfl rfl fun w O hS => ?_
        refine ⟨_, rfl, trivial, ?_⟩
        have e1 : xs.length + 1 = (xs.take k ++ [y] ++ xs.drop k).length := by simp; omega
        rw [show k + (xs.length + 1 - k) = xs.length + 1 by omega] at *
        rw [e1]
        have e2 : (xs.take k ++ [y] ++ xs.drop k).flatMap fW = (xs.take k).flatMap fW ++ fW y ++ (xs.drop k).flatMap fW := by simp
        refine Ent.get (Ent.get hS (eX (by repeat constructor))) (ent_own_close encF_W (by omega) k2 (j4.trans k3') ?_)
        rw [e2, ← j5, ← e1, hB, hfl]
        exact congrArg (fun n => List.take n c2) (show (xs.length + 1) * 2 = _ by omega)
      · have hroom' : xs.length + 1 ≤ cap := by omega
        obtain ⟨c1, c2, j1, j2, j3, j4, j5⟩ := ins2' (B := (xs.drop k).flatMap fW) (y := fW y) (o1 := 0 + k * 2) (o2 := 0 + (k + 1) * 2) hk2 hA (by rw [hB, h4', hfl]; omega) (by omega) (by rw [hfl]; omega)
        have hcap1 : cap ≠ k + 1 := by omega
        have hcap2 : cap ≠ k := by omega
        have hcury : cury ≠ [] := fun e => by rw [e] at h9'; simp [fW] at h9'
        refine c_skip ?_
        refine c_seq ?_
        refine c_region ?_
        refine o_val (v_move rfl) (dd rfl) ?_
        refine o_val (v_move rfl) (dd rfl) ?_
        refine o_val (v_move rfl) (dd rfl) ?_
        refine o_val ((by first | exact v_add64 rfl rfl (by omega) | exact v_add rfl rfl)) (dd rfl) ?_
        refine o_val (v_slice Try.underlying133 ti137 rfl (.inl ⟨rfl, rfl⟩) (.inr ⟨_, _, _, rfl, rfl, by omega, rfl⟩) (.inl ⟨rfl, rfl⟩) (by omega) (by omega) (by omega)) (dd rfl) ?_
        refine o_val (v_assign rfl) (dd rfl) ?_
        refine o_nil ?_
        refine c_seq ?_
        refine c_seq ?_
        refine c_region ?_
        refine o_val (v_move rfl) (dd rfl) ?_
        refine o_val (v_move rfl) (dd rfl) ?_
        refine o_val (v_move rfl) (dd rfl) ?_
        refine o_val (v_move rfl) (dd rfl) ?_
        refine o_val ((by first | exact v_add64 rfl rfl (by omega) | exact v_add rfl rfl)) (dd rfl) ?_
        simp only [cutV_zero, show ((xs.length : Int) + ((1 : Nat) : Int)).toNat = xs.length + 1 by omega]
        refine o_val (v_slice Try.underlying133 ti137 rfl (.inr ⟨_, _, _, rfl, rfl, by omega, rfl⟩) (.inl ⟨rfl, rfl, rfl⟩) (.inl ⟨rfl, rfl⟩) (by omega) (by omega) (by omega)) (dd rfl) ?_
        simp only [show ((k : Int) + ((1 : Nat) : Int)).toNat = k + 1 by omega]
        rw [cutV_ne hcap1]
        refine o_step (s_overlaps (ca' := cury) (cb' := cur) Try.func112 (by kernel_rfl) (by kernel_rfl) (by kernel_rfl) extern_overlaps Try.underlying133 ti137 rfl (dd rfl) (hX (by repeat constructor)) (hX (by repeat constructor)) (fun w O hs => blk_apart (pB (by repeat constructor)) (pB (by repeat constructor)) hs) (fun e => by rw [e] at h4'; simp at h4'; omega) ?_)
        refine o_val (v_not rfl) (dd rfl) ?_
        refine o_nil ?_
        refine c_cond_t rfl ?_
        refine c_seq ?_
        refine c_held [] rfl ?_
        refine a_take 0 rfl (by kernel_rfl) (by kernel_rfl) (by kernel_rfl) (v_move rfl) (eX (by repeat constructor)) (dd rfl) ?_
        refine a_take 1 rfl (by kernel_rfl) (by kernel_rfl) (by kernel_rfl) (v_move rfl) (eX (by repeat constructor)) (dd rfl) ?_
        refine a_take 2 rfl (by kernel_rfl) (by kernel_rfl) (by kernel_rfl) (v_move rfl) (eX (by repeat constructor)) (dd rfl) ?_
        refine a_take 3 rfl (by kernel_rfl) (by kernel_rfl) (by kernel_rfl) ((by first | exact v_add64 rfl rfl (by omega) | exact v_add rfl rfl)) (eX (by repeat constructor)) (dd rfl) ?_
        refine a_take 4 rfl (by kernel_rfl) (by kernel_rfl) (by kernel_rfl) (v_slice Try.underlying133 ti137 rfl (.inr ⟨_, _, _, rfl, rfl, by omega, rfl⟩) (.inl ⟨rfl, rfl, rfl⟩) (.inl ⟨rfl, rfl⟩) (by omega) (by omega) (by omega)) (eX (by repeat constructor)) (dd rfl) ?_
        refine a_take 5 rfl (by kernel_rfl) (by kernel_rfl) (by kernel_rfl) (v_move rfl) (eX (by repeat constructor)) (dd rfl) ?_
        refine a_take 6 rfl (by kernel_rfl) (by kernel_rfl) (by kernel_rfl) (v_move rfl) (eX (by repeat constructor)) (dd rfl) ?_
        refine a_take 7 rfl (by kernel_rfl) (by kernel_rfl) (by kernel_rfl) (v_slice Try.underlying133 ti137 rfl (.inr ⟨_, _, _, rfl, rfl, by omega, rfl⟩) (.inl ⟨rfl, rfl, rfl⟩) (.inl ⟨rfl, rfl⟩) (by omega) (by omega) (by omega)) (eX (by repeat constructor)) (dd rfl) ?_
        simp only [Int.toNat_natCast, show ((k : Int) + ((1 : Nat) : Int)).toNat = k + 1 by omega]
        rw [cutV_ne hcap1, cutV_ne hcap2]
        refine a_one 8 rfl (by kernel_rfl) (s_copy (xs.length - k) ((xs.drop k).flatMap fW) Try.underlying133 ti137 rfl rfl (by omega) (Cells.blk (g := g) (off := 0 + k * 2) (hX (by repeat constructor)) fun j v hj => by have := flat_cells h5' k xs.length j v (by rw [List.take_of_length_le (by simp)]; exact hj); rw [Nat.zero_add]; exact this) hB (fun v hv => fW_one v hv) (dd rfl) (g := g) (pB (by repeat constructor)) (by rw [hB, h4']; omega) j1 (a_on (eX (by repeat constructor)) ?_))
        refine a_done (by kernel_rfl) ?_ _
        refine c_seq ?_
        refine c_region ?_
        refine o_val (v_move rfl) (dd rfl) ?_
        refine o_val (v_move rfl) (dd rfl) ?_
        refine o_val (v_slice Try.underlying133 ti137 rfl (.inr ⟨_, _, _, rfl, rfl, by omega, rfl⟩) (.inl ⟨rfl, rfl, rfl⟩) (.inl ⟨rfl, rfl⟩) (by omega) (by omega) (by omega)) (dd rfl) ?_
        refine o_val (v_move rfl) (dd rfl) ?_
        simp only [Int.toNat_natCast]
        rw [cutV_ne hcap2]
        refine o_step (s_copy 1 (fW y) Try.underlying133 ti137 rfl rfl (by omega) (Cells.blk (g := gy) (off := 0) (hX (by repeat constructor)) hcyb) rfl (fun v hv => fW_one (xs := [y]) v (by simpa using hv)) (dd rfl) (g := g) (pB (by repeat constructor)) (by rw [hfl, j2, h4']; omega) j3 ?_)
        refine o_nil ?_
        refine c_seq ?_
        refine c_region ?_
        refine o_val (v_move rfl) (dd rfl) ?_
        refine o_val (v_assign rfl) (dd rfl) ?_
        refine o_nil ?_
        refine c_ret1 Try.func84 rfl rfl fun w O hS => ?_
        refine ⟨_, rfl, trivial, ?_⟩
        have e1 : xs.length + 1 = (xs.take k ++ [y] ++ xs.drop k).length := by simp; omega
        rw [e1]
        have e2 : (xs.take k ++ [y] ++ xs.drop k).flatMap fW = (xs.take k).flatMap fW ++ fW y ++ (xs.drop k).flatMap fW := by simp
        refine Ent.get (Ent.get hS (eX (by repeat constructor))) (ent_own_close encF_W (by omega) h3 (j4.trans h4') ?_)
        rw [e2, ← j5, ← e1, hB, hfl]
        exact congrArg (fun n => List.take n c2) (show (xs.length + 1) * 2 = _ by omega)
end Go.Proofs.Ytnamhhmfnokfiaa
/- Orders of strings and numbers: sorted rows, rows without repeats. -/
namespace Go.Proofs.Ytnamhhmfnokfiaa
open Go Go.SL

def ltS (a b : ByteArray) : Bool := Op.bytesLess a.data.toList b.data.toList
theorem bl_irrefl : ∀ x : List UInt8, Op.bytesLess x x = false
  | [] => rfl
  | a :: x => by simp [Op.bytesLess, bl_irrefl x]
theorem bl_trans : ∀ {x y z : List UInt8}, Op.bytesLess x y = true → Op.bytesLess y z = true → Op.bytesLess x z = true
  | _, _, [], _, h => by simp [Op.bytesLess] at h
  | _, [], _ :: _, h, _ => by simp [Op.bytesLess] at h
  | [], _ :: _, _ :: _, _, _ => rfl
  | a :: x, b :: y, c :: z, h, k => by
    simp only [Op.bytesLess, Bool.or_eq_true, decide_eq_true_iff, Bool.and_eq_true, beq_iff_eq] at h k ⊢
    rcases h with h | ⟨rfl, h⟩ <;> rcases k with k | ⟨rfl, k⟩
    · exact .inl (UInt8.lt_trans h k)
    · exact .inl h
    · exact .inl k
    · exact .inr ⟨rfl, bl_trans h k⟩
theorem bl_tri : ∀ {x y : List UInt8}, Op.bytesLess x y = false → Op.bytesLess y x = false → x = y
  | [], [], _, _ => rfl
  | [], _ :: _, h, _ => by simp [Op.bytesLess] at h
  | _ :: _, [], _, h => by simp [Op.bytesLess] at h
  | a :: x, b :: y, h, k => by
    simp only [Op.bytesLess, Bool.or_eq_false_iff, decide_eq_false_iff_not, Bool.and_eq_false_iff, beq_eq_false_iff_ne] at h k
    have hab : a = b := by
      have h1 := h.1; have k1 := k.1
      rw [UInt8.lt_iff_toNat_lt] at h1 k1
      exact UInt8.toNat_inj.1 (by omega)
    subst hab
    rw [bl_tri (h.2.resolve_left (by simp)) (k.2.resolve_left (by simp))]
theorem ltS_irrefl (a : ByteArray) : ltS a a = false := bl_irrefl _
theorem ltS_trans {a b c : ByteArray} (h : ltS a b = true) (k : ltS b c = true) : ltS a c = true := bl_trans h k
theorem ltS_tri {a b : ByteArray} (h : ltS a b = false) (k : ltS b a = false) : a = b := by
  have := bl_tri h k
  cases a; cases b; simp only at this; congr 1; exact Array.ext' this
theorem ltS_asymm {a b : ByteArray} (h : ltS a b = true) : ltS b a = false := by
  cases k : ltS b a with
  | false => rfl
  | true => have := ltS_trans h k; rw [ltS_irrefl] at this; cases this

/-- Two rising rows of the same members are the same. -/
theorem rising_eq {α : Type} {lt : α → α → Prop} (irr : ∀ a, ¬ lt a a) (tr : ∀ a b c, lt a b → lt b c → lt a c) : ∀ {l r : List α}, l.Pairwise lt → r.Pairwise lt → (∀ x, x ∈ l ↔ x ∈ r) → l = r
  | [], [], _, _, _ => rfl
  | [], b :: r, _, _, h => by have := (h b).2 (by simp); cases this
  | a :: l, [], _, _, h => by have := (h a).1 (by simp); cases this
  | a :: l, b :: r, hl, hr, h => by
    obtain ⟨h1, h2⟩ := List.pairwise_cons.1 hl
    obtain ⟨k1, k2⟩ := List.pairwise_cons.1 hr
    have hab : a = b := by
      rcases List.mem_cons.1 ((h a).1 (by simp)) with e | e
      · exact e
      · rcases List.mem_cons.1 ((h b).2 (by simp)) with e' | e'
        · exact e'.symm
        · exact absurd (tr _ _ _ (h1 b e') (k1 a e)) (irr a)
    subst hab
    rw [rising_eq irr tr h2 k2 fun x => ?_]
    constructor
    · intro hx
      rcases List.mem_cons.1 ((h x).1 (by simp [hx])) with e | e
      · subst e; exact absurd (h1 x hx) (irr x)
      · exact e
    · intro hx
      rcases List.mem_cons.1 ((h x).2 (by simp [hx])) with e | e
      · subst e; exact absurd (k1 x hx) (irr x)
      · exact e
/-- Of a sorted row, each once. -/
theorem compact_spec {α : Type} [Inhabited α] [DecidableEq α] {lt : α → α → Prop} (irr : ∀ a, ¬ lt a a) (tr : ∀ a b c, lt a b → lt b c → lt a c) {d : List α} (hs : d.Pairwise fun a b => lt a b ∨ a = b) :
    (Lib.compact d).Pairwise lt ∧ ∀ x, x ∈ Lib.compact d ↔ x ∈ d := by
  have key : ∀ m, m ≤ d.length → (Lib.compactUpTo d.toArray m).Pairwise lt ∧ (∀ x, x ∈ Lib.compactUpTo d.toArray m ↔ x ∈ d.take m) ∧ ∀ x ∈ d.take m, ∀ y, d[m - 1]? = some y → 0 < m → lt x y ∨ x = y := by
    intro m
    induction m with
    | zero => exact fun _ => ⟨by simp [Lib.compactUpTo], by simp [Lib.compactUpTo], by simp⟩
    | succ m ih =>
      intro hm
      obtain ⟨h1, h2, h3⟩ := ih (by omega)
      have hlt : m < d.length := by omega
      have hget : d.toArray[m]! = d[m] := by simp [hlt]
      have htk : d.take (m + 1) = d.take m ++ [d[m]] := List.take_succ_eq_append_getElem hlt
      have h4 : ∀ x ∈ d.take (m + 1), lt x d[m] ∨ x = d[m] := by
        intro x hx
        obtain ⟨j, hj, rfl⟩ := List.mem_iff_getElem.1 hx
        simp only [List.length_take] at hj
        rw [List.getElem_take]
        rcases Nat.lt_or_ge j m with h | h
        · exact List.pairwise_iff_getElem.1 hs j m (by omega) hlt h
        · have : j = m := by omega
          subst this; exact .inr rfl
      rw [Lib.compactUpTo_succ]
      refine ⟨?_, ?_, ?_⟩
      · by_cases hk : Lib.keeps d.toArray m = true
        · rw [if_pos hk, hget]
          refine List.pairwise_append.2 ⟨h1, by simp, fun x hx y hy => ?_⟩
          rw [List.mem_singleton.1 hy]
          have hx' := (h2 x).1 hx
          rcases h4 x (by rw [htk]; exact List.mem_append_left _ hx') with h | h
          · exact h
          · -- x equals d[m], though d[m] differs from the one ahead of it
            subst h
            exfalso
            have hm0 : 0 < m := by
              rcases Nat.eq_zero_or_pos m with h0 | h0
              · subst h0; simp at hx'
              · exact h0
            simp only [Lib.keeps, decide_eq_true_iff] at hk
            have hne := hk.resolve_left (by omega)
            have hm1 : m - 1 < d.length := by omega
            rw [hget, show d.toArray[m - 1]! = d[m - 1] by simp [hm1]] at hne
            have e1 : lt d[m] d[m - 1] ∨ d[m] = d[m - 1] := h3 _ hx' d[m - 1] (List.getElem?_eq_getElem hm1) hm0
            have e2 : lt d[m - 1] d[m] ∨ d[m - 1] = d[m] := List.pairwise_iff_getElem.1 hs (m - 1) m hm1 hlt (by omega)
            rcases e1 with e1 | e1
            · rcases e2 with e2 | e2
              · exact irr _ (tr _ _ _ e1 e2)
              · exact hne e2.symm
            · exact hne e1
        · rw [if_neg hk, List.append_nil]; exact h1
      · intro x
        rw [htk]
        by_cases hk : Lib.keeps d.toArray m = true
        · rw [if_pos hk, hget, List.mem_append, List.mem_append, h2 x]
        · rw [if_neg hk, List.append_nil, h2 x, List.mem_append]
          constructor
          · exact .inl
          · rintro (h | h)
            · exact h
            · rw [List.mem_singleton.1 h]
              simp only [Lib.keeps, decide_eq_true_iff, not_or, Classical.not_not] at hk
              have hm1 : m - 1 < d.length := by omega
              rw [hget, show d.toArray[m - 1]! = d[m - 1] by simp [hm1]] at hk
              rw [hk.2]
              exact List.mem_iff_getElem.2 ⟨m - 1, by simp; omega, by rw [List.getElem_take]⟩
      · intro x hx y hy _
        simp only [Nat.add_sub_cancel, List.getElem?_eq_getElem hlt, Option.some.injEq] at hy
        subst hy
        exact h4 x hx
  have := key d.length (Nat.le_refl _)
  rw [List.take_length] at this
  exact ⟨by simpa [Lib.compact] using this.1, by simpa [Lib.compact] using this.2.1⟩
theorem leS_iff (a b : List UInt8) : decide (a ≤ b) = !Op.bytesLess b a := by
  rw [Go.Proofs.bytesLess_eq]
  by_cases h : b < a
  · rw [decide_eq_true h, decide_eq_false (by rw [List.not_le]; exact h)]; rfl
  · rw [decide_eq_false h, decide_eq_true (List.not_lt.1 h)]; rfl
def leS (a b : ByteArray) : Prop := ltS a b = true ∨ a = b
theorem sortS_mem (xs : List ByteArray) (x : ByteArray) : x ∈ sortS xs ↔ x ∈ xs := by
  simp only [sortS, List.mem_map, List.mem_mergeSort]
  constructor
  · rintro ⟨l, ⟨y, hy, rfl⟩, rfl⟩; exact hy
  · intro h; exact ⟨sbs x, ⟨x, h, rfl⟩, rfl⟩
theorem sortS_sorted (xs : List ByteArray) : (sortS xs).Pairwise fun a b => ltS a b = true ∨ a = b := by
  unfold sortS
  refine List.Pairwise.map (R := fun a b : List UInt8 => decide (a ≤ b) = true) bss ?_ ?_
  · intro a b h
    rw [leS_iff] at h
    have h' : Op.bytesLess b a = false := by simpa using h
    cases k : Op.bytesLess a b with
    | true => exact .inl k
    | false => exact .inr (by rw [bl_tri k h'])
  · refine List.pairwise_mergeSort (fun a b c => ?_) (fun a b => ?_) _
    · simp only [leS_iff, Bool.not_eq_true']
      intro h k
      cases g : Op.bytesLess c a with
      | false => rfl
      | true =>
        exfalso
        cases g1 : Op.bytesLess a b with
        | true => have := bl_trans g g1; rw [k] at this; cases this
        | false => have := bl_tri g1 h; subst this; rw [k] at g; cases g
    · simp only [leS_iff, Bool.or_eq_true, Bool.not_eq_true']
      cases g : Op.bytesLess b a with
      | false => exact .inl rfl
      | true =>
        right
        cases g1 : Op.bytesLess a b with
        | false => rfl
        | true => have := bl_trans g g1; rw [bl_irrefl] at this; cases this
theorem sortI_mem (xs : List Int) (x : Int) : x ∈ sortI xs ↔ x ∈ xs := List.mem_mergeSort
theorem sortI_sorted (xs : List Int) : (sortI xs).Pairwise fun a b => a < b ∨ a = b := by
  refine List.Pairwise.imp (R := fun a b : Int => decide (a ≤ b) = true) ?_ (List.pairwise_mergeSort (fun a b c h k => ?_) (fun a b => ?_) _)
  · intro a b h
    have : a ≤ b := by simpa using h
    omega
  · simp at h k ⊢; omega
  · simp; omega
theorem inhabited_sbs : (default : List UInt8) = [] := rfl
/-- The members, each once, rising. -/
def setS (xs : List ByteArray) : List ByteArray := compS (sortS xs)
def setI (xs : List Int) : List Int := compI (sortI xs)
theorem setS_spec (xs : List ByteArray) : (setS xs).Pairwise (fun a b => ltS a b = true) ∧ ∀ x, x ∈ setS xs ↔ x ∈ xs := by
  have h := compact_spec (lt := fun a b : List UInt8 => Op.bytesLess a b = true) (fun a => by simp [bl_irrefl]) (fun a b c => bl_trans) (d := (sortS xs).map sbs) (List.Pairwise.map sbs (fun a b h => by
    rcases h with h | h
    · exact .inl h
    · exact .inr (by rw [h])) (sortS_sorted xs))
  refine ⟨List.Pairwise.map bss (fun a b h => h) h.1, fun x => ?_⟩
  unfold setS compS
  rw [List.mem_map, ← sortS_mem xs x]
  constructor
  · rintro ⟨l, hl, rfl⟩
    obtain ⟨y, hy, rfl⟩ := List.mem_map.1 ((h.2 l).1 hl)
    exact hy
  · intro hx
    exact ⟨sbs x, (h.2 _).2 (List.mem_map.2 ⟨x, hx, rfl⟩), rfl⟩
theorem setI_spec (xs : List Int) : (setI xs).Pairwise (fun a b => a < b) ∧ ∀ x, x ∈ setI xs ↔ x ∈ xs := by
  have h := compact_spec (lt := fun a b : Int => a < b) (fun a => by omega) (fun a b c => by omega) (sortI_sorted xs)
  exact ⟨h.1, fun x => by rw [← sortI_mem xs x]; exact h.2 x⟩
/-- A rising row that has the members of another one. -/
theorem sortI_of_rising {xs ys : List Int} (hy : ys.Pairwise (· < ·)) (hn : xs.Nodup) (hm : ∀ x, x ∈ xs ↔ x ∈ ys) : sortI xs = ys := by
  refine rising_eq (lt := (· < ·)) (fun a => by omega) (fun a b c => by omega) ?_ hy fun x => by rw [sortI_mem, hm]
  have h1 := sortI_sorted xs
  have h2 : (sortI xs).Nodup := (List.mergeSort_perm xs _).nodup_iff.2 hn
  exact (List.Pairwise.and h1 h2).imp fun ⟨a, b⟩ => a.resolve_right b
end Go.Proofs.Ytnamhhmfnokfiaa

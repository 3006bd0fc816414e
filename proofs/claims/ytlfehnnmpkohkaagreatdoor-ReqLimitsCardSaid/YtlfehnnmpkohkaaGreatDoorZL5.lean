/- ReqLimits: for every input it returns true, and its arguments read behind the call as before. Conditions: the listed variables are laid as the card ties them. -/
import Derived.Test.YtlfehnnmpkohkaaGreatDoorZL4
import Derived.Laws.OwnMore
import Derived.Lib.SlBytesConst
import Derived.Test.YtlfehnnmpkohkaaGreatDoorRows
import Derived.Lay
import Derived.Stop.LaidErr
import Derived.Lib.LaidTab
import Derived.Test.YtlfehnnmpkohkaaGreatDoorCards
import Derived.Test.YtlfehnnmpkohkaaGreatDoorTie
set_option linter.unusedVariables false
set_option linter.unusedSimpArgs false
/- Chapter 16: the bytes of requests and responses: the program's way. -/
namespace Go.Proofs.YtlfehnnmpkohkaaGreatDoor
open Go Go.SL Go.Lib
abbrev rqC (q : Rq9) (d f l : Value) : List Value := [.int .i64 q.1, .int .i64 q.2.1, .int .i64 q.2.2.1, .string q.2.2.2.1, .string q.2.2.2.2.1, d, f, l]
abbrev rsC (s : Rs9) (l i t n : Value) : List Value := [.int .i64 s.1, .int .i64 s.2.1, l, i, t, n]
def I64 (n : Int) : Prop := -9223372036854775808 ≤ n ∧ n ≤ 9223372036854775807
/-- Requests, and responses, that can be counted. -/
structure CountQ (q : Rq9) : Prop where
  kind : I64 q.1
  base : I64 q.2.1
  id : I64 q.2.2.1
  deps : q.2.2.2.2.2.1.length ≤ 1000000 ∧ ∀ n ∈ q.2.2.2.2.2.1, I64 n
  files : q.2.2.2.2.2.2.1.length ≤ 1000000
  prims : q.2.2.2.2.2.2.2.length ≤ 1000000 ∧ ∀ p ∈ q.2.2.2.2.2.2.2, CountP p
structure CountS (s : Rs9) : Prop where
  code : I64 s.1
  version : I64 s.2.1
  prims : s.2.2.1.length ≤ 1000000 ∧ ∀ p ∈ s.2.2.1, CountP p
  ids : s.2.2.2.1.length ≤ 1000000 ∧ ∀ n ∈ s.2.2.2.1, I64 n
  lines : s.2.2.2.2.1.length ≤ 1000000
  notes : s.2.2.2.2.2.length ≤ 1000000 ∧ ∀ n ∈ s.2.2.2.2.2, I64 n.1 ∧ n.2.1.length ≤ 1000000
attribute [local irreducible] Cfg Kont StepK Val Con Qops Any Sl Own Blk BlkR Rd Pu ExA AllA Has Pick Ent Elem Beside Callable TI Lone OwnO AndA
set_option maxRecDepth 100000 in
theorem numbers_con (b : Nat) (v u : Value) (l : List UInt8) (xs : List Int) (hx : xs.length ≤ 1000000) (hc : ∀ n ∈ xs, I64 n) (hl : l.length + (rowB xs).length ≤ 100000000000000) : Con Tryz.prog 52 [ptr b, u] [Blk b 89 [v], Own eByte 5 v l, G3, Sl (eInt .i64) u xs] (γ := Value) (fun _ => .tuple #[]) (fun _ => True) (fun g => [Blk b 89 [g], Own eByte 5 g (l ++ rowB xs)]) := by
  unfold rowB at *
  have hnum : (manyB numB xs).length = (numB xs.length).length + ((xs.map numB).flatten).length := by unfold manyB; simp
  refine con_of Tryz.func52 rfl (dd rfl) fun w0 O0 => ?_
  refine c_seq ?_
  refine c_region ?_
  refine o_val (v_move rfl) (dd rfl) ?_
  refine o_val (v_move rfl) (dd rfl) ?_
  refine o_val ((by first | exact v_len_form Tryz.underlying22 rfl | exact v_len_sl Tryz.underlying22 rfl (hX (by repeat constructor)))) (dd rfl) ?_
  refine o_step (s_callf cl50 (num_con b v l xs.length (by omega) (by omega)) rfl (dd rfl) (pXs (by repeat constructor)) fun v1 _ => ?_)
  refine o_nil ?_
  refine c_seq ?_
  refine c_region ?_
  refine o_val (v_move rfl) (dd rfl) ?_
  refine o_val ((by first | exact v_len_form Tryz.underlying22 rfl | exact v_len_sl Tryz.underlying22 rfl (hX (by repeat constructor)))) (dd rfl) ?_
  refine o_val (v_move rfl) (dd rfl) ?_
  refine o_nil ?_
  refine c_block ?_
  rw [show l ++ numB xs.length = l ++ (numB xs.length ++ ((xs.take 0).map numB).flatten) by simp]
  refine c_loopR (γ := Nat × Value) [(0, _), (10, _), (11, _)] (fun g => xs.length - g.1) (fun g => g.1 ≤ xs.length) (fun g => [(12, .int .i64 g.1)]) (fun g => [Blk b 89 [g.2], Own eByte 5 g.2 (l ++ (numB xs.length ++ ((xs.take g.1).map numB).flatten)), G3, Sl (eInt .i64) u xs]) ((0, v1)) (Nat.zero_le _) (by repeat (first | exact trivial | refine ⟨rfl, ?_⟩)) (eX (by repeat constructor)) ?_
  rintro ⟨k, r⟩ hk IH
  dsimp only at hk ⊢
  try dsimp only [List.cons_append, List.nil_append]
  refine c_seq ?_
  refine c_region ?_
  refine o_val (v_lt rfl rfl) (dd rfl) ?_
  refine o_nil ?_
  refine c_seq ?_
  refine c_cond_p rfl (fun hlt => ?_) (fun hlt => ?_)
  · have hk' : k < xs.length := by omega
    have hfp := flat_part numB hk'
    refine c_skip ?_
    refine c_seq ?_
    refine c_block ?_
    refine c_seq ?_
    refine c_region ?_
    refine o_val ((by first | exact v_indexAddrN Tryz.underlying22 ti3 rfl rfl (hX (by repeat constructor)) (by omega) | exact v_indexAddr Tryz.underlying22 ti3 rfl rfl (hX (by repeat constructor)) (by omega))) (dd rfl) ?_
    refine o_val (v_load_int lone3 rfl (by repeat (first | exact Elem.sl (List.getElem?_eq_getElem (by omega)) | exact Elem.own (List.getElem?_eq_getElem (by omega)) | exact Elem.ownO (List.getElem?_eq_getElem (by omega)) | apply Elem.there))) (dd rfl) ?_
    refine o_val (v_assign rfl) (dd rfl) ?_
    refine o_nil ?_
    refine c_region ?_
    refine o_val (v_move rfl) (dd rfl) ?_
    refine o_val (v_move rfl) (dd rfl) ?_
    refine o_step (s_callf cl50 (num_con b r (l ++ (numB xs.length ++ ((xs.take k).map numB).flatten)) xs[k] (hc _ (List.getElem_mem hk')) (by simp only [List.length_append]; omega)) rfl (dd rfl) (pXs (by repeat constructor)) fun v2 _ => ?_)
    refine o_nil ?_
    refine c_inBlock ?_
    refine c_region ?_
    refine o_val ((by first | exact v_add64 rfl rfl (by omega) | exact v_add rfl rfl)) (dd rfl) ?_
    refine o_val (v_move rfl) (dd rfl) ?_
    refine o_nil ?_
    rw [List.append_assoc, List.append_assoc, ← flat_next numB hk']
    refine c_use (IH ((k + 1, v2)) (by first | omega | (dsimp only; omega)) (by dsimp only; omega)) (by repeat (first | exact trivial | refine ⟨rfl, ?_⟩)) (eX (by repeat constructor))
  · have hke : k = xs.length := by omega
    refine c_exit rfl ?_
    refine c_end0 Tryz.func52 rfl fun w O hS => ?_
    exact ⟨r, rfl, trivial, by unfold manyB; rw [hke, List.take_length] at hS; exact Ent.get hS (eX (by repeat constructor))⟩
set_option maxRecDepth 100000 in
theorem pack_con (q : Rq9) (d f l : Value) (hq : CountQ q) (hl : (reqB q).length ≤ 100000000000000) : Con Tryz.prog 18 [.agg (rqC q d f l).toArray] [Sl (eInt .i64) d q.2.2.2.2.2.1, Sl eStr f q.2.2.2.2.2.2.1, Sl ePr l q.2.2.2.2.2.2.2, G3] (γ := Value) (fun g => g) (fun _ => True) (fun g => [Own eByte 5 g (reqB q)]) := by
  obtain ⟨k, bs, i, n, t, dl, fl, pl⟩ := q
  obtain ⟨h1, h2, h3, ⟨h4, h4'⟩, h5, h6, h6'⟩ := hq
  dsimp only [rqC] at h1 h2 h3 h4 h4' h5 h6 h6' ⊢
  unfold I64 at h1 h2 h3
  have hle : (reqB (k, bs, i, n, t, dl, fl, pl)).length = (numB k).length + (numB bs).length + (numB i).length + (textB n).length + (textB t).length + (rowB dl).length + (textsB fl).length + (primsB pl).length := by unfold reqB; simp only [List.length_append]
  have c1 := fun b => num_con b (.slice none 0 0) [] k h1 (by simp only [List.length_nil]; omega)
  rw [List.nil_append] at c1
  refine con_of Tryz.func18 rfl (dd rfl) fun w0 O0 => ?_
  refine c_seq ?_
  refine c_region ?_
  refine o_step (s_box rfl (dd rfl) (fun b1 => ?_))
  refine o_val (v_assign rfl) (dd rfl) ?_
  refine o_nil ?_
  refine c_seq ?_
  refine c_region ?_
  refine o_step (s_alloc ti89 (dd rfl) (fun b3 => ?_))
  refine o_nil ?_
  refine c_seq ?_
  refine c_region ?_
  refine o_val (v_fieldAddrC 0 Tryz.underlying32 rfl ti3 (by decide) rfl) (dd rfl) ?_
  refine o_val (v_load lone3 rfl (hX (by repeat constructor)) rfl) (dd rfl) ?_
  refine o_step (s_callf cl50 (c1 b3) rfl (dd rfl) (pXs (by repeat constructor)) fun v1 _ => ?_)
  refine o_nil ?_
  refine c_seq ?_
  refine c_region ?_
  refine o_val (v_fieldAddrC 1 Tryz.underlying32 rfl ti3 (by decide) rfl) (dd rfl) ?_
  refine o_val (v_load lone3 rfl (hX (by repeat constructor)) rfl) (dd rfl) ?_
  refine o_step (s_callf cl50 (num_con b3 v1 (numB k) bs h2 (by omega)) rfl (dd rfl) (pXs (by repeat constructor)) fun v2 _ => ?_)
  refine o_nil ?_
  refine c_seq ?_
  refine c_region ?_
  refine o_val (v_fieldAddrC 2 Tryz.underlying32 rfl ti3 (by decide) rfl) (dd rfl) ?_
  refine o_val (v_load lone3 rfl (hX (by repeat constructor)) rfl) (dd rfl) ?_
  refine o_step (s_callf cl50 (num_con b3 v2 (numB k ++ numB bs) i h3 (by simp only [List.length_append]; omega)) rfl (dd rfl) (pXs (by repeat constructor)) fun v3 _ => ?_)
  refine o_nil ?_
  refine c_seq ?_
  refine c_region ?_
  refine o_val (v_fieldAddrC 3 Tryz.underlying32 rfl ti9 (by decide) rfl) (dd rfl) ?_
  refine o_val (v_load lone9 rfl (hX (by repeat constructor)) rfl) (dd rfl) ?_
  refine o_step (s_callf cl51 (text_con b3 v3 (numB k ++ numB bs ++ numB i) n (by simp only [List.length_append]; omega)) rfl (dd rfl) (pXs (by repeat constructor)) fun v4 _ => ?_)
  refine o_nil ?_
  refine c_seq ?_
  refine c_region ?_
  refine o_val (v_fieldAddrC 4 Tryz.underlying32 rfl ti9 (by decide) rfl) (dd rfl) ?_
  refine o_val (v_load lone9 rfl (hX (by repeat constructor)) rfl) (dd rfl) ?_
  refine o_step (s_callf cl51 (text_con b3 v4 (numB k ++ numB bs ++ numB i ++ textB n) t (by simp only [List.length_append]; omega)) rfl (dd rfl) (pXs (by repeat constructor)) fun v5 _ => ?_)
  refine o_nil ?_
  refine c_seq ?_
  refine c_region ?_
  refine o_val (v_fieldAddrC 5 Tryz.underlying32 rfl ti22 (by decide) rfl) (dd rfl) ?_
  refine o_val (v_load lone22 rfl (hX (by repeat constructor)) rfl) (dd rfl) ?_
  refine o_step (s_callf cl52 (numbers_con b3 v5 d (numB k ++ numB bs ++ numB i ++ textB n ++ textB t) dl h4 h4' (by simp only [List.length_append]; omega)) rfl (dd rfl) (pXs (by repeat constructor)) fun v6 _ => ?_)
  refine o_nil ?_
  refine c_seq ?_
  refine c_region ?_
  refine o_val (v_fieldAddrC 6 Tryz.underlying32 rfl ti23 (by decide) rfl) (dd rfl) ?_
  refine o_val (v_load lone23 rfl (hX (by repeat constructor)) rfl) (dd rfl) ?_
  refine o_step (s_callf cl53 (texts_con b3 v6 f (numB k ++ numB bs ++ numB i ++ textB n ++ textB t ++ rowB dl) fl (by omega) (by simp only [List.length_append]; omega)) rfl (dd rfl) (pXs (by repeat constructor)) fun v7 _ => ?_)
  refine o_nil ?_
  refine c_seq ?_
  refine c_region ?_
  refine o_val (v_fieldAddrC 7 Tryz.underlying32 rfl ti30 (by decide) rfl) (dd rfl) ?_
  refine o_val (v_load lone30 rfl (hX (by repeat constructor)) rfl) (dd rfl) ?_
  refine o_step (s_callf cl54 (prims_con b3 v7 l (numB k ++ numB bs ++ numB i ++ textB n ++ textB t ++ rowB dl ++ textsB fl) pl (by omega) h6' (by simp only [List.length_append]; omega)) rfl (dd rfl) (pXs (by repeat constructor)) fun v8 _ => ?_)
  refine o_nil ?_
  refine c_seq ?_
  refine c_region ?_
  refine o_step (s_callf cl55 (bytes_con b3 v8 (reqB (k, bs, i, n, t, dl, fl, pl)) (by omega)) rfl (dd rfl) (pXs (by repeat constructor)) fun v9 _ => ?_)
  refine o_val (v_assign rfl) (dd rfl) ?_
  refine o_nil ?_
  refine c_ret1 Tryz.func18 rfl rfl fun w O hS => ?_
  exact ⟨v9, rfl, trivial, Ent.get hS (eX (by repeat constructor))⟩
theorem resB_len (s : Rs9) : (resB s).length = (numB s.1).length + (numB s.2.1).length + (primsB s.2.2.1).length + (rowB s.2.2.2.1).length + (textsB s.2.2.2.2.1).length + ((numB s.2.2.2.2.2.length).length + ((s.2.2.2.2.2.map noteB).flatten).length) := by unfold resB manyB; simp only [List.length_append]
set_option maxRecDepth 100000 in
theorem packRes_con (s : Rs9) (l i t n : Value) (hs : CountS s) (hl : (resB s).length ≤ 100000000000000) : Con Tryz.prog 26 [.agg (rsC s l i t n).toArray] [Sl ePr l s.2.2.1, Sl (eInt .i64) i s.2.2.2.1, Sl eStr t s.2.2.2.2.1, Sl eNt n s.2.2.2.2.2, G3] (γ := Value) (fun g => g) (fun _ => True) (fun g => [Own eByte 5 g (resB s)]) := by
  obtain ⟨c, ver, pl, il, tl, nl⟩ := s
  obtain ⟨h1, h2, ⟨h3, h3'⟩, ⟨h4, h4'⟩, h5, h6, h6'⟩ := hs
  have hle := resB_len (c, ver, pl, il, tl, nl)
  dsimp only [rsC] at h1 h2 h3 h3' h4 h4' h5 h6 h6' hle ⊢
  unfold I64 at h1 h2
  obtain ⟨base, hbase⟩ : ∃ base, base = numB c ++ numB ver ++ primsB pl ++ rowB il ++ textsB tl := ⟨_, rfl⟩
  have hbl : base.length = (numB c).length + (numB ver).length + (primsB pl).length + (rowB il).length + (textsB tl).length := by rw [hbase]; simp only [List.length_append]
  have hfull : resB (c, ver, pl, il, tl, nl) = base ++ (numB nl.length ++ (nl.map noteB).flatten) := by rw [hbase]; rfl
  have c1 := fun b => num_con b (.slice none 0 0) [] c h1 (by simp only [List.length_nil]; omega)
  rw [List.nil_append] at c1
  refine con_of Tryz.func26 rfl (dd rfl) fun w0 O0 => ?_
  refine c_seq ?_
  refine c_region ?_
  refine o_step (s_box rfl (dd rfl) (fun b1 => ?_))
  refine o_val (v_assign rfl) (dd rfl) ?_
  refine o_nil ?_
  refine c_seq ?_
  refine c_region ?_
  refine o_step (s_alloc ti89 (dd rfl) (fun b3 => ?_))
  refine o_nil ?_
  refine c_seq ?_
  refine c_region ?_
  refine o_val (v_fieldAddrC 0 Tryz.underlying55 rfl ti3 (by decide) rfl) (dd rfl) ?_
  refine o_val (v_load lone3 rfl (hX (by repeat constructor)) rfl) (dd rfl) ?_
  refine o_step (s_callf cl50 (c1 b3) rfl (dd rfl) (pXs (by repeat constructor)) fun v1 _ => ?_)
  refine o_nil ?_
  refine c_seq ?_
  refine c_region ?_
  refine o_val (v_fieldAddrC 1 Tryz.underlying55 rfl ti3 (by decide) rfl) (dd rfl) ?_
  refine o_val (v_load lone3 rfl (hX (by repeat constructor)) rfl) (dd rfl) ?_
  refine o_step (s_callf cl50 (num_con b3 v1 (numB c) ver h2 (by omega)) rfl (dd rfl) (pXs (by repeat constructor)) fun v2 _ => ?_)
  refine o_nil ?_
  refine c_seq ?_
  refine c_region ?_
  refine o_val (v_fieldAddrC 2 Tryz.underlying55 rfl ti30 (by decide) rfl) (dd rfl) ?_
  refine o_val (v_load lone30 rfl (hX (by repeat constructor)) rfl) (dd rfl) ?_
  refine o_step (s_callf cl54 (prims_con b3 v2 l (numB c ++ numB ver) pl (by omega) h3' (by simp only [List.length_append]; omega)) rfl (dd rfl) (pXs (by repeat constructor)) fun v3 _ => ?_)
  refine o_nil ?_
  refine c_seq ?_
  refine c_region ?_
  refine o_val (v_fieldAddrC 3 Tryz.underlying55 rfl ti22 (by decide) rfl) (dd rfl) ?_
  refine o_val (v_load lone22 rfl (hX (by repeat constructor)) rfl) (dd rfl) ?_
  refine o_step (s_callf cl52 (numbers_con b3 v3 i (numB c ++ numB ver ++ primsB pl) il h4 h4' (by simp only [List.length_append]; omega)) rfl (dd rfl) (pXs (by repeat constructor)) fun v4 _ => ?_)
  refine o_nil ?_
  refine c_seq ?_
  refine c_region ?_
  refine o_val (v_fieldAddrC 4 Tryz.underlying55 rfl ti23 (by decide) rfl) (dd rfl) ?_
  refine o_val (v_load lone23 rfl (hX (by repeat constructor)) rfl) (dd rfl) ?_
  refine o_step (s_callf cl53 (texts_con b3 v4 t (numB c ++ numB ver ++ primsB pl ++ rowB il) tl (by omega) (by simp only [List.length_append]; omega)) rfl (dd rfl) (pXs (by repeat constructor)) fun v5 _ => ?_)
  refine o_nil ?_
  refine c_seq ?_
  refine c_region ?_
  refine o_val (v_fieldAddrC 5 Tryz.underlying55 rfl ti53 (by decide) rfl) (dd rfl) ?_
  refine o_val (v_load lone53 rfl (hX (by repeat constructor)) rfl) (dd rfl) ?_
  refine o_val ((by first | exact v_len_form Tryz.underlying53 rfl | exact v_len_sl Tryz.underlying53 rfl (hX (by repeat constructor)))) (dd rfl) ?_
  rw [← hbase]
  refine o_step (s_callf cl50 (num_con b3 v5 base nl.length (by omega) (by omega)) rfl (dd rfl) (pXs (by repeat constructor)) fun v6 _ => ?_)
  refine o_nil ?_
  refine c_seq ?_
  refine c_seq ?_
  refine c_region ?_
  refine o_val (v_fieldAddrC 5 Tryz.underlying55 rfl ti53 (by decide) rfl) (dd rfl) ?_
  refine o_val (v_load lone53 rfl (hX (by repeat constructor)) rfl) (dd rfl) ?_
  refine o_val ((by first | exact v_len_form Tryz.underlying53 rfl | exact v_len_sl Tryz.underlying53 rfl (hX (by repeat constructor)))) (dd rfl) ?_
  refine o_val (v_move rfl) (dd rfl) ?_
  refine o_nil ?_
  refine c_block ?_
  rw [show base ++ numB nl.length = base ++ (numB nl.length ++ ((nl.take 0).map noteB).flatten) by simp]
  refine c_loopR (γ := Nat × Value) [(2, _), (3, _), (26, _), (27, _)] (fun g => nl.length - g.1) (fun g => g.1 ≤ nl.length) (fun g => [(28, .int .i64 g.1)]) (fun g => [Blk b3 89 [g.2], Own eByte 5 g.2 (base ++ (numB nl.length ++ ((nl.take g.1).map noteB).flatten)), G3, Sl eNt n nl]) ((0, v6)) (Nat.zero_le _) (by repeat (first | exact trivial | refine ⟨rfl, ?_⟩)) (eX (by repeat constructor)) ?_
  rintro ⟨k, r⟩ hk IH
  dsimp only at hk ⊢
  try dsimp only [List.cons_append, List.nil_append]
  refine c_seq ?_
  refine c_region ?_
  refine o_val (v_lt rfl rfl) (dd rfl) ?_
  refine o_nil ?_
  refine c_seq ?_
  refine c_cond_p rfl (fun hlt => ?_) (fun hlt => ?_)
  · have hk' : k < nl.length := by omega
    have hfp := flat_part noteB hk'
    obtain ⟨hn1, hn2⟩ := h6' _ (List.getElem_mem hk')
    have hnb : (noteB nl[k]).length = (numB nl[k].1).length + (flagB nl[k].2.2).length + (textsB nl[k].2.1).length := by unfold noteB; simp only [List.length_append]
    obtain ⟨pre, hpre⟩ : ∃ pre, pre = base ++ (numB nl.length ++ ((nl.take k).map noteB).flatten) := ⟨_, rfl⟩
    have hpl : pre.length = base.length + ((numB nl.length).length + ((nl.take k).map noteB).flatten.length) := by rw [hpre]; simp only [List.length_append]
    have hnx : pre ++ numB nl[k].1 ++ flagB nl[k].2.2 ++ textsB nl[k].2.1 = base ++ (numB nl.length ++ ((nl.take (k + 1)).map noteB).flatten) := by
      rw [flat_next noteB hk', hpre]; unfold noteB; simp only [List.append_assoc]
    rw [← hpre]
    refine c_skip ?_
    refine c_seq ?_
    refine c_block ?_
    refine c_seq ?_
    refine c_region ?_
    refine o_val ((by first | exact v_indexAddrN Tryz.underlying53 ti72 rfl rfl (hX (by repeat constructor)) (by omega) | exact v_indexAddr Tryz.underlying53 ti72 rfl rfl (hX (by repeat constructor)) (by omega))) (dd rfl) ?_
    refine o_step (s_load_shape ⟨_, Tryz.underlying72⟩ ti72 rfl (dd rfl) (by repeat (first|exact el1 (by omega)|exact el2 (by omega)|exact el3 (by omega)|apply Elem.there)) (nt_open) (fun g => ?_))
    refine o_step (s_alloc ti72 (dd rfl) (fun b5 => ?_))
    refine o_step (s_store_all ti72 rfl rfl (by first | exact CellsV.lit rfl | exact CellsV.one (by first | exact OneC.lit rfl | exact OneC.sl (hX (by repeat constructor)) )) (by repeat (first | exact OneAll.nil | (refine OneAll.cons ?_ ?_; · first | exact OneC.lit rfl | exact OneC.sl (hX (by repeat constructor)) ) | exact OneAll.rd (hX (by repeat constructor)))) rfl (pB (by repeat constructor)) rfl (?_))
    refine o_nil ?_
    refine c_seq ?_
    refine c_region ?_
    refine o_val (v_fieldAddrC 0 Tryz.underlying72 rfl ti3 (by decide) rfl) (dd rfl) ?_
    refine o_val (v_load lone3 rfl (hX (by repeat constructor)) rfl) (dd rfl) ?_
    refine o_step (s_callf cl50 (num_con b3 r pre nl[k].1 hn1 (by omega)) rfl (dd rfl) (pXs (by repeat constructor)) fun r1 _ => ?_)
    refine o_nil ?_
    refine c_seq ?_
    refine c_region ?_
    refine o_val (v_fieldAddrC 2 Tryz.underlying72 rfl ti4 (by decide) rfl) (dd rfl) ?_
    refine o_val (v_load lone4 rfl (hX (by repeat constructor)) rfl) (dd rfl) ?_
    refine o_step (s_callf cl74 (flag_con b3 r1 (pre ++ numB nl[k].1) nl[k].2.2 (by simp only [List.length_append]; omega)) rfl (dd rfl) (pXs (by repeat constructor)) fun r2 _ => ?_)
    refine o_nil ?_
    refine c_region ?_
    refine o_val (v_fieldAddrC 1 Tryz.underlying72 rfl ti23 (by decide) rfl) (dd rfl) ?_
    refine o_val (v_load lone23 rfl (hX (by repeat constructor)) rfl) (dd rfl) ?_
    refine o_step (s_callf cl53 (texts_con b3 r2 g (pre ++ numB nl[k].1 ++ flagB nl[k].2.2) nl[k].2.1 (by omega) (by simp only [List.length_append]; omega)) rfl (dd rfl) (pXs (by repeat constructor)) fun r3 _ => ?_)
    refine o_nil ?_
    refine c_inBlock ?_
    refine c_region ?_
    refine o_val ((by first | exact v_add64 rfl rfl (by omega) | exact v_add rfl rfl)) (dd rfl) ?_
    refine o_val (v_move rfl) (dd rfl) ?_
    refine o_nil ?_
    rw [hnx]
    refine c_use (IH ((k + 1, r3)) (by first | omega | (dsimp only; omega)) (by dsimp only; omega)) (by repeat (first | exact trivial | refine ⟨rfl, ?_⟩)) (eX (by repeat constructor))
  · have hke : k = nl.length := by omega
    have hall : base ++ (numB nl.length ++ ((nl.take k).map noteB).flatten) = resB (c, ver, pl, il, tl, nl) := by rw [hke, List.take_length, hfull]
    rw [hall]
    refine c_exit rfl ?_
    refine c_seq ?_
    refine c_region ?_
    refine o_step (s_callf cl55 (bytes_con b3 r (resB (c, ver, pl, il, tl, nl)) (by omega)) rfl (dd rfl) (pXs (by repeat constructor)) fun v9 _ => ?_)
    refine o_val (v_assign rfl) (dd rfl) ?_
    refine o_nil ?_
    refine c_ret1 Tryz.func26 rfl rfl fun w O hS => ?_
    exact ⟨v9, rfl, trivial, Ent.get hS (eX (by repeat constructor))⟩
end Go.Proofs.YtlfehnnmpkohkaaGreatDoor
/- Chapter 16: sizes of what is read. -/
namespace Go.Proofs.YtlfehnnmpkohkaaGreatDoor
open Go Go.Lib
theorem takeRep_step {n k : Nat} {s : St9} {out : List Int} (hk : k < n) : takeRep (n - k) s out = takeRep (n - (k + 1)) (takeNum s).1 (out ++ [(takeNum s).2]) := by
  rw [show n - k = (n - (k + 1)) + 1 by omega, takeRep]
theorem takeRep_end {n k : Nat} {s : St9} {out : List Int} (hk : n ≤ k) : takeRep (n - k) s out = (s, out) := by
  rw [show n - k = 0 by omega]; rfl
section
variable {α : Type} {take : St9 → St9 × α}
theorem repG_step {n k : Nat} {s : St9} {out : List α} (hk : k < n) : repG take (n - k) s out = repG take (n - (k + 1)) (take s).1 (out ++ [(take s).2]) := by
  rw [show n - k = (n - (k + 1)) + 1 by omega, repG]
theorem repG_end {n k : Nat} {s : St9} {out : List α} (hk : n ≤ k) : repG take (n - k) s out = (s, out) := by
  rw [show n - k = 0 by omega]; rfl
theorem repG_len : ∀ (k : Nat) (s : St9) (out : List α), (repG take k s out).2.length = out.length + k
  | 0, _, _ => rfl
  | k + 1, s, out => by rw [repG, repG_len k, List.length_append]; simp; omega
theorem repG_goes (hg : GoesP take) : ∀ (k : Nat) (s : St9) (out : List α), ∃ j, j ≤ s.1.length ∧ (repG take k s out).1.1 = s.1.drop j
  | 0, s, _ => ⟨0, Nat.zero_le _, rfl⟩
  | k + 1, s, out => by
    rw [repG]
    exact goes_trans (a := take s) (b := repG take k (take s).1 (out ++ [(take s).2])) (hg s) (repG_goes hg k _ _)
theorem repG_ok {ok : α → Prop} (hg : GoesP take) (ho : ∀ s, s.1.length ≤ big9 → ok (take s).2) : ∀ (k : Nat) (s : St9) (out : List α), s.1.length ≤ big9 → (∀ x ∈ out, ok x) → ∀ x ∈ (repG take k s out).2, ok x
  | 0, _, _, _, h => h
  | k + 1, s, out, hs, h => by
    rw [repG]
    refine repG_ok hg ho k _ _ (Nat.le_trans (goes_len hg s) hs) fun x hx => ?_
    rcases List.mem_append.1 hx with h1 | h1
    · exact h x h1
    · rw [List.mem_singleton.1 h1]; exact ho s hs
theorem manyP9_goes (hg : GoesP take) (m : Int) : GoesP (manyP9 take m) := fun s => goes_trans (a := takeNum s) (b := manyP9 take m s) (goes_num s) (repG_goes hg _ _ _)
theorem manyP9_len {m : Int} {n : Nat} {s : St9} (hm : m ≤ n) : (manyP9 take m s).2.length ≤ n := by
  unfold manyP9
  rw [repG_len]
  simp only [List.length_nil]
  omega
theorem manyP9_ok {ok : α → Prop} (hg : GoesP take) (ho : ∀ s, s.1.length ≤ big9 → ok (take s).2) {m : Int} {s : St9} (hs : s.1.length ≤ big9) : ∀ x ∈ (manyP9 take m s).2, ok x :=
  repG_ok hg ho _ _ _ (Nat.le_trans (goes_len goes_num s) hs) fun x hx => by cases hx
end
theorem goes_row (m : Int) : GoesP (takeRowP m) := fun s => by rw [rowP_G]; exact manyP9_goes goes_num m s
theorem row_len {m : Int} {n : Nat} {s : St9} (hm : m ≤ n) : (takeRowP m s).2.length ≤ n := by rw [rowP_G]; exact manyP9_len hm
theorem row_far {m : Int} {s : St9} (hs : s.1.length ≤ big9) : ∀ n ∈ (takeRowP m s).2, -far9 ≤ n ∧ n ≤ far9 := by
  rw [rowP_G]; exact manyP9_ok (ok := fun n : Int => -far9 ≤ n ∧ n ≤ far9) goes_num (fun s _ => num_far) hs
theorem goes_note : GoesP takeNote := fun s => by
  unfold takeNote
  exact goes_trans (b := takeTexts 1000 60 (takeFlag (takeNum s).1).1) (goes_trans (a := takeNum s) (b := takeFlag (takeNum s).1) (goes_num s) (goes_flag _)) (goes_some (goes_text 60) 1000 _)
theorem many_sum {α : Type} {put : α → List UInt8} {c : Nat} : ∀ {l : List α}, (∀ x ∈ l, (put x).length ≤ c) → ((l.map put).flatten).length ≤ l.length * c
  | [], _ => by simp
  | x :: l, h => by
    have h1 := h x (by simp)
    have h2 := many_sum (l := l) fun y hy => h y (by simp [hy])
    simp only [List.map_cons, List.flatten_cons, List.length_append, List.length_cons, Nat.add_mul]; omega
theorem manyB_le {α : Type} {put : α → List UInt8} {c n : Nat} {l : List α} (hn : l.length ≤ n) (h : ∀ x ∈ l, (put x).length ≤ c) : (manyB put l).length ≤ 40 + n * c := by
  have h1 := many_sum h
  have h2 := numB_len (l.length : Int)
  have h3 : l.length * c ≤ n * c := Nat.mul_le_mul_right c hn
  unfold manyB
  rw [List.length_append]
  omega
theorem rq_raw {s : St9} (h : s.1.length ≤ big9) : FineQ (rawReq (takeRowP 8) s).2 ∧ CountQ (rawReq (takeRowP 8) s).2 ∧ (reqB (rawReq (takeRowP 8) s).2).length ≤ 100000000 := by
  have h1 := Nat.le_trans (goes_len goes_num s) h
  have h2 := Nat.le_trans (goes_len goes_num (takeNum s).1) h1
  have h3 := Nat.le_trans (goes_len goes_num (takeNum (takeNum s).1).1) h2
  unfold rawReq
  dsimp only
  obtain ⟨s3, hs3⟩ : ∃ s3, s3 = (takeNum (takeNum (takeNum s).1).1).1 := ⟨_, rfl⟩
  rw [← hs3] at h3 ⊢
  have h4 := Nat.le_trans (goes_len (goes_text 24) s3) h3
  have h5 := Nat.le_trans (goes_len (goes_text 60) (takeText 24 s3).1) h4
  obtain ⟨s5, hs5⟩ : ∃ s5, s5 = (takeText 60 (takeText 24 s3).1).1 := ⟨_, rfl⟩
  rw [← hs5] at h5 ⊢
  have h6 := Nat.le_trans (goes_len (goes_row 8) s5) h5
  obtain ⟨s6, hs6⟩ : ∃ s6, s6 = (takeRowP 8 s5).1 := ⟨_, rfl⟩
  rw [← hs6] at h6 ⊢
  have h7 := Nat.le_trans (goes_len (goes_some (goes_text 24) 8) s6) h6
  have hfl : (takeTexts 8 24 s6).2.length ≤ 8 := some_len (by decide)
  have hft : ∀ x ∈ (takeTexts 8 24 s6).2, x.size ≤ big9 := some_ok (goes_text 24) (fun s hs => text_ok hs) h6
  have hpl : (takePrims 24 (takeTexts 8 24 s6).1).2.length ≤ 24 := some_len (by decide)
  have hps : ∀ p ∈ (takePrims 24 (takeTexts 8 24 s6).1).2, SizeP p := some_ok goes_prim (fun s hs => prim_ok hs) h7
  have hrl : (takeRowP 8 s5).2.length ≤ 8 := row_len (by decide)
  have hrf := row_far (m := 8) h5
  have n1 := numB_len (takeNum s).2
  have n2 := numB_len (takeNum (takeNum s).1).2
  have n3 := numB_len (takeNum (takeNum (takeNum s).1).1).2
  have t1 := text_len9 (m := 24) (s := s3)
  have t2 := text_len9 (m := 60) (s := (takeText 24 s3).1)
  have t3 := manyB_le (put := numB) (c := 40) hrl fun n _ => by have := numB_len n; omega
  have t4 := some_len9 (put := textB) (back_text 24) (m := 8) (s := s6)
  have t5 := some_len9 (put := primB) back_prim (m := 24) (s := (takeTexts 8 24 s6).1)
  refine ⟨⟨text_ok h3, text_ok h4, by dsimp only; omega, ⟨by dsimp only; omega, hft⟩, by dsimp only; omega, hps⟩, ⟨far_int num_far, far_int num_far, far_int num_far, ⟨by dsimp only; omega, fun n hn => far_int (hrf n hn)⟩, by dsimp only; omega, by dsimp only; omega, prims_count h7⟩, ?_⟩
  unfold reqB
  dsimp only
  simp only [List.length_append]
  unfold rowB textsB primsB
  unfold takeTexts takePrims at *
  have hb : big9 = 1000000 := rfl
  omega
theorem note_raw {s : St9} (h : s.1.length ≤ big9) : (-far9 ≤ (takeNote s).2.1 ∧ (takeNote s).2.1 ≤ far9) ∧ (takeNote s).2.2.1.length ≤ 1000 ∧ (noteB (takeNote s).2).length ≤ 1000200 := by
  have h1 := Nat.le_trans (goes_len goes_num s) h
  have h2 := Nat.le_trans (goes_len goes_flag (takeNum s).1) h1
  have n1 := numB_len (takeNum s).2
  have n2 : (flagB (takeFlag (takeNum s).1).2).length ≤ 40 := by cases (takeFlag (takeNum s).1).2 <;> decide +kernel
  have t1 := some_len9 (put := textB) (back_text 60) (m := 1000) (s := (takeFlag (takeNum s).1).1)
  unfold takeNote
  refine ⟨num_far, some_len (by decide), ?_⟩
  unfold noteB textsB takeTexts
  simp only [List.length_append]
  have hb : big9 = 1000000 := rfl
  omega
theorem rs_raw {s : St9} (h : s.1.length ≤ big9) : SizeS (rawRes (takeRowP 1000) (manyP9 takeNote 1000) s).2 ∧ CountS (rawRes (takeRowP 1000) (manyP9 takeNote 1000) s).2 ∧ (resB (rawRes (takeRowP 1000) (manyP9 takeNote 1000) s).2).length ≤ 10000000000 := by
  have h1 := Nat.le_trans (goes_len goes_num s) h
  have h2 := Nat.le_trans (goes_len goes_num (takeNum s).1) h1
  unfold rawRes
  dsimp only
  obtain ⟨s2, hs2⟩ : ∃ s2, s2 = (takeNum (takeNum s).1).1 := ⟨_, rfl⟩
  rw [← hs2] at h2 ⊢
  have h3 := Nat.le_trans (goes_len (goes_some goes_prim 1000) s2) h2
  obtain ⟨s3, hs3⟩ : ∃ s3, s3 = (takePrims 1000 s2).1 := ⟨_, rfl⟩
  have h3' : s3.1.length ≤ big9 := by rw [hs3]; exact h3
  rw [← hs3]
  have h4 := Nat.le_trans (goes_len (goes_row 1000) s3) h3'
  obtain ⟨s4, hs4⟩ : ∃ s4, s4 = (takeRowP 1000 s3).1 := ⟨_, rfl⟩
  rw [← hs4] at h4 ⊢
  have h5 := Nat.le_trans (goes_len (goes_some (goes_text 60) 1000) s4) h4
  obtain ⟨s5, hs5⟩ : ∃ s5, s5 = (takeTexts 1000 60 s4).1 := ⟨_, rfl⟩
  have h5' : s5.1.length ≤ big9 := by rw [hs5]; exact h5
  rw [← hs5]
  have hpl : (takePrims 1000 s2).2.length ≤ 1000 := some_len (by decide)
  have hps : ∀ p ∈ (takePrims 1000 s2).2, SizeP p := some_ok goes_prim (fun s hs => prim_ok hs) h2
  have hrl : (takeRowP 1000 s3).2.length ≤ 1000 := row_len (by decide)
  have hrf := row_far (m := 1000) h3'
  have htl : (takeTexts 1000 60 s4).2.length ≤ 1000 := some_len (by decide)
  have hnl : (manyP9 takeNote 1000 s5).2.length ≤ 1000 := manyP9_len (by decide)
  have hnn : ∀ n ∈ (manyP9 takeNote 1000 s5).2, (-far9 ≤ n.1 ∧ n.1 ≤ far9) ∧ n.2.1.length ≤ 1000 ∧ (noteB n).length ≤ 1000200 := manyP9_ok (ok := fun n : Nt9 => (-far9 ≤ n.1 ∧ n.1 ≤ far9) ∧ n.2.1.length ≤ 1000 ∧ (noteB n).length ≤ 1000200) goes_note (fun s hs => note_raw hs) h5'
  have n1 := numB_len (takeNum s).2
  have n2 := numB_len (takeNum (takeNum s).1).2
  have t1 := some_len9 (put := primB) back_prim (m := 1000) (s := s2)
  have t2 := manyB_le (put := numB) (c := 40) hrl fun n _ => by have := numB_len n; omega
  have t3 := some_len9 (put := textB) (back_text 60) (m := 1000) (s := s4)
  have t4 := manyB_le (put := noteB) (c := 1000200) hnl fun n hn => (hnn n hn).2.2
  refine ⟨⟨⟨by dsimp only; omega, fun p hp => ⟨(hps p hp).2.2.1.1, (hps p hp).2.2.2.1⟩⟩, by dsimp only; omega, by dsimp only; omega, by dsimp only; omega, fun n hn => by have := (hnn n hn).2.1; omega⟩, ⟨far_int num_far, far_int num_far, ⟨by dsimp only; omega, prims_count h2⟩, ⟨by dsimp only; omega, fun n hn => far_int (hrf n hn)⟩, by dsimp only; omega, by dsimp only; omega, fun n hn => ⟨far_int (hnn n hn).1, by have := (hnn n hn).2.1; omega⟩⟩, ?_⟩
  rw [resB_len]
  dsimp only
  have t5 : (numB (manyP9 takeNote 1000 s5).2.length).length + (((manyP9 takeNote 1000 s5).2.map noteB).flatten).length ≤ 40 + 1000 * 1000200 := by
    unfold manyB at t4
    rw [List.length_append] at t4
    exact t4
  unfold rowB textsB primsB
  unfold takeTexts takePrims at *
  have hb : big9 = 1000000 := rfl
  omega
end Go.Proofs.YtlfehnnmpkohkaaGreatDoor
/- Chapter 16: a row of numbers, a request, read of bytes: the program's way. -/
namespace Go.Proofs.YtlfehnnmpkohkaaGreatDoor
open Go Go.SL Go.Lib
attribute [local irreducible] Cfg Kont StepK Val Con Qops Any Sl Own Blk BlkR Rd Pu ExA AllA Has Pick Ent Elem Beside Callable TI Lone OwnO AndA
set_option maxRecDepth 100000 in
theorem take_con (i : Nat) (bv : Value) (s : St9) (many : Int) (hm : 0 ≤ many ∧ many ≤ 1000000) (te : TypeId) (pe : Value) : Con Tryz.prog 65 [ptr i, .int .i64 many] [Blk i 141 [bv, .bool s.2], Sl eByte bv s.1, G1 te pe, G3] (γ := Value × Value) (fun g => g.2) (fun _ => True) (fun g => [Blk i 141 [g.1, .bool (takeRowP many s).1.2], Sl eByte g.1 (takeRowP many s).1.1, Own (eInt .i64) 3 g.2 (takeRowP many s).2]) := by
  have hfar := num_far (s := s)
  have hN := inNum_con i bv s te pe
  unfold takeRowP
  obtain ⟨s1, n, hn⟩ : ∃ s1 n, takeNum s = (s1, n) := ⟨_, _, rfl⟩
  rw [hn] at hN hfar ⊢
  dsimp only at hN hfar ⊢
  unfold far9 at hfar
  obtain ⟨c, hc⟩ : ∃ c, c = (min (max n 0) many).toNat := ⟨_, rfl⟩
  have hcn : (c : Int) = min (max n 0) many := by omega
  rw [← hc]
  refine con_of Tryz.func65 rfl (dd rfl) fun w0 O0 => ?_
  refine c_seq ?_
  refine c_region ?_
  refine o_val (v_assign rfl) (dd rfl) ?_
  refine o_nil ?_
  refine c_seq ?_
  refine c_region ?_
  refine o_val (v_assign rfl) (dd rfl) ?_
  refine o_nil ?_
  refine c_seq ?_
  refine c_seq ?_
  refine c_region ?_
  refine o_val (v_move rfl) (dd rfl) ?_
  refine o_step (s_callf cl63 (hN) rfl (dd rfl) (pXs (by repeat constructor)) fun v1 _ => ?_)
  refine o_val (v_max rfl rfl) (dd rfl) ?_
  refine o_val (v_move rfl) (dd rfl) ?_
  refine o_val (v_min rfl rfl) (dd rfl) ?_
  refine o_val (v_move rfl) (dd rfl) ?_
  refine o_nil ?_
  refine c_block ?_
  rw [← hcn]
  refine c_loopR (γ := Nat × St9 × List Int × Value × Value) [(0, _), (4, _), (10, _)] (fun g => c - g.1) (fun g => g.1 ≤ c ∧ g.2.2.1.length = g.1 ∧ takeRep (c - g.1) g.2.1 g.2.2.1 = takeRep c s1 []) (fun g => [(11, .int .i64 g.1), (5, g.2.2.2.2)]) (fun g => [Blk i 141 [g.2.2.2.1, .bool g.2.1.2], Sl eByte g.2.2.2.1 g.2.1.1, Own (eInt .i64) 3 g.2.2.2.2 g.2.2.1, G1 te pe, G3]) ((0, s1, [], v1, .slice none 0 0)) (⟨Nat.zero_le _, rfl, rfl⟩) (by repeat (first | exact trivial | refine ⟨rfl, ?_⟩)) (eX (by repeat constructor)) ?_
  rintro ⟨k, sk, out, r, v⟩ ⟨hk, hlk, hTk⟩ IH
  dsimp only at hk hlk hTk ⊢
  try dsimp only [List.cons_append, List.nil_append]
  refine c_seq ?_
  refine c_region ?_
  refine o_val (v_lt rfl rfl) (dd rfl) ?_
  refine o_nil ?_
  refine c_seq ?_
  refine c_cond_p rfl (fun hlt => ?_) (fun hlt => ?_)
  · have hst := takeRep_step (n := c) (k := k) (s := sk) (out := out) (by omega)
    refine c_skip ?_
    refine c_seq ?_
    refine c_block ?_
    refine c_region ?_
    refine o_val (v_move rfl) (dd rfl) ?_
    refine o_val (v_move rfl) (dd rfl) ?_
    refine o_step (s_callf cl63 (inNum_con i r sk te pe) rfl (dd rfl) (pXs (by repeat constructor)) fun w2 _ => ?_)
    refine o_step (s_buildSlice Tryz.underlying22 ti3 rfl rfl rfl (by decide) (by decide) (beside_int .i64 [(takeNum sk).2]) rfl rfl (dd rfl) fun v2 => ?_)
    refine o_step (s_append Tryz.underlying22 ti3 rfl (by decide) rfl rfl (dd rfl) (pB (by repeat constructor)) (pX (by repeat constructor)) rfl (by (first | omega | (simp only [maxLen, List.length_append, List.length_drop, List.length_take, List.length_nil, List.length_cons]; omega))) (by (first | omega | (simp only [maxLen, List.length_append, List.length_drop, List.length_take, List.length_nil, List.length_cons]; omega))) fun v3 => ?_)
    refine o_val (v_assign rfl) (dd rfl) ?_
    refine o_nil ?_
    refine c_inBlock ?_
    refine c_region ?_
    refine o_val ((by first | exact v_add64 rfl rfl (by omega) | exact v_add rfl rfl)) (dd rfl) ?_
    refine o_val (v_move rfl) (dd rfl) ?_
    refine o_nil ?_
    refine c_use (IH ((k + 1, (takeNum sk).1, out ++ [(takeNum sk).2], w2, v3)) (by first | omega | (dsimp only; omega)) (⟨by dsimp only; omega, by simp [hlk], hst.symm.trans hTk⟩)) (by repeat (first | exact trivial | refine ⟨rfl, ?_⟩)) (eX (by repeat constructor))
  · have hend := takeRep_end (n := c) (k := k) (s := sk) (out := out) (by omega)
    rw [hend] at hTk
    refine c_exit rfl ?_
    refine c_seq ?_
    refine c_region ?_
    refine o_val (v_move rfl) (dd rfl) ?_
    refine o_val (v_assign rfl) (dd rfl) ?_
    refine o_nil ?_
    refine c_ret1 Tryz.func65 rfl rfl fun w O hS => ?_
    exact ⟨(r, v), rfl, trivial, by rw [← hTk]; exact Ent.get hS (eX (by repeat constructor))⟩
/-- What Parse, and UnpackRes, tell beside. -/
def errV (e : Int) (is : Bool) : Value := .int .i64 (if is then 0 else e)
def parseQ (l : List UInt8) : Rq9 := (parseP l).getD (zeroQ 0)
set_option maxRecDepth 100000 in
theorem parse_con (v : Value) (l : List UInt8) (hl : l.length ≤ big9) (te : TypeId) (pe : Value) : Con Tryz.prog 23 [v] [Sl eByte v l, G1 te pe, G3] (γ := Value × Value × Value)
    (fun g => .tuple #[.agg (rqC (parseQ l) g.1 g.2.1 g.2.2).toArray, errV 160 (parseP l).isSome]) (fun _ => True) (fun g => [Sl (eInt .i64) g.1 (parseQ l).2.2.2.2.2.1, Sl eStr g.2.1 (parseQ l).2.2.2.2.2.2.1, Sl ePr g.2.2 (parseQ l).2.2.2.2.2.2.2]) := by
  have hof := of_con v l (by unfold big9 at hl; omega)
  obtain ⟨hfine, hcount, hlen⟩ := rq_raw (s := (l, false)) hl
  have hP : parseP l = if (rawReq (takeRowP 8) (l, false)).1 = ([], false) ∧ RightQ (rawReq (takeRowP 8) (l, false)).2 ∧ reqB (rawReq (takeRowP 8) (l, false)).2 = l then some (rawReq (takeRowP 8) (l, false)).2 else none := rfl
  have c1 := fun i w => inNum_con i w (l, false) te pe
  obtain ⟨s1, k, h1⟩ : ∃ s1 k, takeNum (l, false) = (s1, k) := ⟨_, _, rfl⟩
  rw [h1] at c1
  have c2 := fun i w => inNum_con i w s1 te pe
  obtain ⟨s2, bs, h2⟩ : ∃ s2 k, takeNum s1 = (s2, k) := ⟨_, _, rfl⟩
  rw [h2] at c2
  have c3 := fun i w => inNum_con i w s2 te pe
  obtain ⟨s3, id, h3⟩ : ∃ s3 k, takeNum s2 = (s3, k) := ⟨_, _, rfl⟩
  rw [h3] at c3
  have c4 := fun i w => inText_con i w s3 24 te pe
  obtain ⟨s4, n, h4⟩ : ∃ s4 k, takeText 24 s3 = (s4, k) := ⟨_, _, rfl⟩
  rw [h4] at c4
  have c5 := fun i w => inText_con i w s4 60 te pe
  obtain ⟨s5, t, h5⟩ : ∃ s5 k, takeText 60 s4 = (s5, k) := ⟨_, _, rfl⟩
  rw [h5] at c5
  have c6 := fun i w => take_con i w s5 8 (by decide) te pe
  obtain ⟨s6, dl, h6⟩ : ∃ s6 k, takeRowP 8 s5 = (s6, k) := ⟨_, _, rfl⟩
  rw [h6] at c6
  have c7 := fun i w => inTexts_con i w s6 8 24 te pe
  obtain ⟨s7, fl, h7⟩ : ∃ s7 k, takeTexts 8 24 s6 = (s7, k) := ⟨_, _, rfl⟩
  rw [h7] at c7
  have l1 := Nat.le_trans (goes_len goes_num (l, false)) hl
  rw [h1] at l1
  have l2 := Nat.le_trans (goes_len goes_num s1) l1
  rw [h2] at l2
  have l3 := Nat.le_trans (goes_len goes_num s2) l2
  rw [h3] at l3
  have l4 := Nat.le_trans (goes_len (goes_text 24) s3) l3
  rw [h4] at l4
  have l5 := Nat.le_trans (goes_len (goes_text 60) s4) l4
  rw [h5] at l5
  have l6 := Nat.le_trans (goes_len (goes_row 8) s5) l5
  rw [h6] at l6
  have l7 := Nat.le_trans (goes_len (goes_some (goes_text 24) 8) s6) l6
  rw [show takeSome (takeText 24) 8 s6 = (s7, fl) from h7] at l7
  have c8 := fun i w => inPrims_con i w s7 24 l7 te pe
  obtain ⟨s8, pl, h8⟩ : ∃ s8 k, takePrims 24 s7 = (s8, k) := ⟨_, _, rfl⟩
  rw [h8] at c8
  have hraw : rawReq (takeRowP 8) (l, false) = (s8, (k, bs, id, n, t, dl, fl, pl)) := by unfold rawReq; simp only [h1, h2, h3, h4, h5, h6, h7, h8]
  rw [hraw] at hfine hcount hlen hP
  have hR := fun dv fv lv => reqRight_con (k, bs, id, n, t, dl, fl, pl) dv fv lv hfine
  have hK := fun dv fv lv => pack_con (k, bs, id, n, t, dl, fl, pl) dv fv lv hcount (Nat.le_trans hlen (by decide))
  have hdn := fun i w => done_con i w s8
  dsimp only [rqC] at c1 c2 c3 c4 c5 c6 c7 c8 hR hK hP
  refine con_of Tryz.func23 rfl (dd rfl) fun w0 O0 => ?_
  refine c_seq ?_
  refine c_region ?_
  refine o_step (s_alloc ti32 (dd rfl) (fun b2 => ?_))
  refine o_val (v_assign rfl) (dd rfl) ?_
  refine o_nil ?_
  refine c_seq ?_
  refine c_region ?_
  refine o_val (v_move rfl) (dd rfl) ?_
  refine o_step (s_callf cl62 (hof) rfl (dd rfl) (pXs (by repeat constructor)) fun g _ => ?_)
  refine o_val (v_assign rfl) (dd rfl) ?_
  refine o_nil ?_
  refine c_seq ?_
  refine c_region ?_
  refine o_val (v_move rfl) (dd rfl) ?_
  refine o_step (s_callf cl63 (c1 g.1 g.2) rfl (dd rfl) (pXs (by repeat constructor)) fun w1 _ => ?_)
  refine o_val (v_move rfl) (dd rfl) ?_
  refine o_step (s_callf cl63 (c2 g.1 w1) rfl (dd rfl) (pXs (by repeat constructor)) fun w2 _ => ?_)
  refine o_val (v_move rfl) (dd rfl) ?_
  refine o_step (s_callf cl63 (c3 g.1 w2) rfl (dd rfl) (pXs (by repeat constructor)) fun w3 _ => ?_)
  refine o_val (v_move rfl) (dd rfl) ?_
  refine o_step (s_callf cl64 (c4 g.1 w3) rfl (dd rfl) (pXs (by repeat constructor)) fun w4 _ => ?_)
  refine o_val (v_move rfl) (dd rfl) ?_
  refine o_step (s_callf cl64 (c5 g.1 w4) rfl (dd rfl) (pXs (by repeat constructor)) fun w5 _ => ?_)
  refine o_val (v_buildS (places := [(0, 1), (1, 1), (2, 1), (3, 1), (4, 1), (5, 1), (6, 1), (7, 1)]) (cells := [_, _, _, _, _, .slice none 0 0, .slice none 0 0, .slice none 0 0]) Tryz.underlying32 ti32 (by kernel_rfl) rfl (by repeat (first | exact PartsC.nil | (apply PartsC.one (by first | exact OneC.lit rfl | exact OneC.sl (hX (by repeat constructor)) )) | (apply PartsC.lit rfl))) rfl) (dd rfl) ?_
  refine o_step (s_alloc ti32 (dd rfl) (fun b5 => ?_))
  refine o_step (s_store_all ti32 rfl rfl (by first | exact CellsV.lit rfl | exact CellsV.one (by first | exact OneC.lit rfl | exact OneC.sl (hX (by repeat constructor)) )) (by repeat (first | exact OneAll.nil | (refine OneAll.cons ?_ ?_; · first | exact OneC.lit rfl | exact OneC.sl (hX (by repeat constructor)) ) | exact OneAll.rd (hX (by repeat constructor)))) rfl (pB (by repeat constructor)) rfl (?_))
  refine o_nil ?_
  refine c_seq ?_
  refine c_region ?_
  refine o_val (v_move rfl) (dd rfl) ?_
  refine o_step (s_callf cl65 (c6 g.1 w5) rfl (dd rfl) (pXs (by repeat constructor)) fun g6 _ => ?_)
  refine o_val (v_fieldAddrC 5 Tryz.underlying32 rfl ti22 (by decide) rfl) (dd rfl) ?_
  refine o_step (s_store1 ti22 rfl rfl (by first | exact OneC.lit rfl | exact OneC.sl (hX (by repeat constructor)) ) (pB (by repeat constructor)) (by first | decide | exact Nat.le_of_ble_eq_true rfl | simp) (by first | (dsimp only [List.set_cons_succ, List.set_cons_zero]; first | done | exact rfl) | rfl) (?_))
  refine o_nil ?_
  refine c_seq ?_
  refine c_region ?_
  refine o_val (v_move rfl) (dd rfl) ?_
  refine o_step (s_callf cl66 (c7 g.1 g6.1) rfl (dd rfl) (pXs (by repeat constructor)) fun g7 _ => ?_)
  refine o_val (v_fieldAddrC 6 Tryz.underlying32 rfl ti23 (by decide) rfl) (dd rfl) ?_
  refine o_step (s_store1 ti23 rfl rfl (by first | exact OneC.lit rfl | exact OneC.sl (hX (by repeat constructor)) ) (pB (by repeat constructor)) (by first | decide | exact Nat.le_of_ble_eq_true rfl | simp) (by first | (dsimp only [List.set_cons_succ, List.set_cons_zero]; first | done | exact rfl) | rfl) (?_))
  refine o_nil ?_
  refine c_seq ?_
  refine c_region ?_
  refine o_val (v_move rfl) (dd rfl) ?_
  refine o_step (s_callf cl67 (c8 g.1 g7.1) rfl (dd rfl) (pXs (by repeat constructor)) fun g8 _ => ?_)
  refine o_val (v_fieldAddrC 7 Tryz.underlying32 rfl ti30 (by decide) rfl) (dd rfl) ?_
  refine o_step (s_store1 ti30 rfl rfl (by first | exact OneC.lit rfl | exact OneC.sl (hX (by repeat constructor)) ) (pB (by repeat constructor)) (by first | decide | exact Nat.le_of_ble_eq_true rfl | simp) (by first | (dsimp only [List.set_cons_succ, List.set_cons_zero]; first | done | exact rfl) | rfl) (?_))
  refine o_nil ?_
  refine c_seq ?_
  refine c_seq ?_
  by_cases hd : s8 = ([], false)
  · rw [decide_eq_true hd] at hdn
    by_cases hr : RightQ (k, bs, id, n, t, dl, fl, pl)
    · rw [decide_eq_true hr] at hR
      refine c_held [BlkR g.1 141 [g8.1, .bool s8.2], Sl eByte g8.1 s8.1, BlkR b5 32 [.int .i64 k, .int .i64 bs, .int .i64 id, .string n, .string t, g6.2, g7.2, g8.2], Sl (eInt .i64) g6.2 dl, Sl eStr g7.2 fl, Sl ePr g8.2 pl, Sl eByte v l, G3] rfl ?_
      refine a_take 0 rfl (by kernel_rfl) (by kernel_rfl) (by kernel_rfl) (v_move rfl) (eX (by repeat constructor)) (dd rfl) ?_
      refine a_one 1 rfl (by kernel_rfl) (s_callf_keep cl68 (hdn g.1 g8.1) rfl (dd rfl) (rX (by repeat constructor)) (fun _ => sX) (fun _ _ => a_on (eX (by repeat constructor)) ?_))
      refine a_take 2 rfl (by kernel_rfl) (by kernel_rfl) (by kernel_rfl) (v_not rfl) (eX (by repeat constructor)) (dd rfl) ?_
      refine a_take 3 rfl (by kernel_rfl) (by kernel_rfl) (by kernel_rfl) (v_move rfl) (eX (by repeat constructor)) (dd rfl) ?_
      refine a_know (s := 31) rfl (show _ = Value.bool false from rfl) ?_
      refine a_take_on 4 rfl rfl rfl (by kernel_rfl) (by kernel_rfl) (by kernel_rfl) (v_load_all ⟨_, Tryz.underlying32⟩ ti32 rfl (hX (by repeat constructor)) rfl) (eX (by repeat constructor)) (dd rfl) ?_
      refine a_one_on 5 rfl rfl rfl (by kernel_rfl) (s_callf_keep cl12 (hR g6.2 g7.2 g8.2) rfl (dd rfl) (rX (by repeat constructor)) (fun _ => sX) (fun _ _ => a_on (eX (by repeat constructor)) ?_))
      refine a_take_on 6 rfl rfl rfl (by kernel_rfl) (by kernel_rfl) (by kernel_rfl) (v_not rfl) (eX (by repeat constructor)) (dd rfl) ?_
      refine a_take 7 rfl (by kernel_rfl) (by kernel_rfl) (by kernel_rfl) (v_pick_f rfl rfl) (eX (by repeat constructor)) (dd rfl) ?_
      refine a_take 8 rfl (by kernel_rfl) (by kernel_rfl) (by kernel_rfl) (v_move rfl) (eX (by repeat constructor)) (dd rfl) ?_
      refine a_know (s := 36) rfl (show _ = Value.bool false from rfl) ?_
      refine a_take_on 9 rfl rfl rfl (by kernel_rfl) (by kernel_rfl) (by kernel_rfl) (v_load_all ⟨_, Tryz.underlying32⟩ ti32 rfl (hX (by repeat constructor)) rfl) (eX (by repeat constructor)) (dd rfl) ?_
      refine a_take_on 12 rfl rfl rfl (by kernel_rfl) (by kernel_rfl) (by kernel_rfl) (v_move rfl) (eX (by repeat constructor)) (dd rfl) ?_
      refine a_take_on 13 rfl rfl rfl (by kernel_rfl) (by kernel_rfl) (by kernel_rfl) (v_conv_bytes Tryz.underlying38 Tryz.underlying5 Tryz.underlying9 rfl (hX (by repeat constructor))) (eX (by repeat constructor)) (dd rfl) ?_
      refine a_one_on 10 rfl rfl rfl (by kernel_rfl) (s_callf_keep cl18 (hK g6.2 g7.2 g8.2) rfl (dd rfl) (rX (by repeat constructor)) (fun _ => sX) (fun r6 _ => a_on (eX (by repeat constructor)) ?_))
      refine a_one_on 11 rfl rfl rfl (by kernel_rfl) (s_val (v_conv_bytes Tryz.underlying38 Tryz.underlying5 Tryz.underlying9 rfl (hX (by repeat constructor))) (dd rfl) (a_on (eX (by repeat constructor)) ?_))
      refine a_take_on 14 rfl rfl rfl (by kernel_rfl) (by kernel_rfl) (by kernel_rfl) (v_sne rfl rfl) (eX (by repeat constructor)) (dd rfl) ?_
      refine a_take 15 rfl (by kernel_rfl) (by kernel_rfl) (by kernel_rfl) (v_pick_f rfl rfl) (eX (by repeat constructor)) (dd rfl) ?_
      refine a_done (by kernel_rfl) ?_ _
      refine c_cond_p rfl (fun hne => ?_) (fun hne => ?_)
      · have hn : parseP l = none := by rw [hP, if_neg (fun h => hne (congrArg sB h.2.2))]
        have hq0 : parseQ l = zeroQ 0 := by unfold parseQ; rw [hn]; rfl
        refine c_seq ?_
        refine c_region ?_
        refine o_val (v_buildS (places := [(0, 1), (1, 1), (2, 1), (3, 1), (4, 1), (5, 1), (6, 1), (7, 1)]) (cells := [.int .i64 0, .int .i64 0, .int .i64 0, .string ⟨#[]⟩, .string ⟨#[]⟩, .slice none 0 0, .slice none 0 0, .slice none 0 0]) Tryz.underlying32 ti32 (by kernel_rfl) rfl (by repeat (first | exact PartsC.nil | (apply PartsC.one (by first | exact OneC.lit rfl | exact OneC.sl (hX (by repeat constructor)) )) | (apply PartsC.lit rfl))) rfl) (dd rfl) ?_
        refine o_step (s_store_all ti32 rfl rfl (by first | exact CellsV.lit rfl | exact CellsV.one (by first | exact OneC.lit rfl | exact OneC.sl (hX (by repeat constructor)) )) (by repeat (first | exact OneAll.nil | (refine OneAll.cons ?_ ?_; · first | exact OneC.lit rfl | exact OneC.sl (hX (by repeat constructor)) ) | exact OneAll.rd (hX (by repeat constructor)))) rfl (pB (by repeat constructor)) rfl (?_))
        refine o_val (v_assign rfl) (dd rfl) ?_
        refine o_nil ?_
        refine c_ret_ct Tryz.func23 rfl ⟨_, Tryz.underlying32⟩ ti32 rfl rfl (hX (by repeat constructor)) fun w O hS => ?_
        exact ⟨(.slice none 0 0, .slice none 0 0, .slice none 0 0), by rw [hq0, hn]; rfl, trivial, by rw [hq0]; exact Ent.get hS (eX (by repeat constructor))⟩
      · have hy : parseP l = some (k, bs, id, n, t, dl, fl, pl) := by rw [hP, if_pos ⟨hd, hr, sB_inj (Classical.not_not.1 hne)⟩]
        have hq1 : parseQ l = (k, bs, id, n, t, dl, fl, pl) := by unfold parseQ; rw [hy]; rfl
        refine c_skip ?_
        refine c_seq ?_
        refine c_region ?_
        refine o_val (v_load_all ⟨_, Tryz.underlying32⟩ ti32 rfl (hX (by repeat constructor)) rfl) (dd rfl) ?_
        refine o_step (s_store_all ti32 rfl rfl (by first | exact CellsV.lit rfl | exact CellsV.one (by first | exact OneC.lit rfl | exact OneC.sl (hX (by repeat constructor)) )) (by repeat (first | exact OneAll.nil | (refine OneAll.cons ?_ ?_; · first | exact OneC.lit rfl | exact OneC.sl (hX (by repeat constructor)) ) | exact OneAll.rd (hX (by repeat constructor)))) rfl (pB (by repeat constructor)) rfl (?_))
        refine o_val (v_assign rfl) (dd rfl) ?_
        refine o_nil ?_
        refine c_ret_ct Tryz.func23 rfl ⟨_, Tryz.underlying32⟩ ti32 rfl rfl (hX (by repeat constructor)) fun w O hS => ?_
        exact ⟨(g6.2, g7.2, g8.2), by rw [hq1, hy]; rfl, trivial, by rw [hq1]; exact Ent.get hS (eX (by repeat constructor))⟩
    · rw [decide_eq_false hr] at hR
      have hn : parseP l = none := by rw [hP, if_neg (fun h => hr h.2.1)]
      have hq0 : parseQ l = zeroQ 0 := by unfold parseQ; rw [hn]; rfl
      refine c_held [BlkR g.1 141 [g8.1, .bool s8.2], Sl eByte g8.1 s8.1, BlkR b5 32 [.int .i64 k, .int .i64 bs, .int .i64 id, .string n, .string t, g6.2, g7.2, g8.2], Sl (eInt .i64) g6.2 dl, Sl eStr g7.2 fl, Sl ePr g8.2 pl, Sl eByte v l, G3] rfl ?_
      refine a_take 0 rfl (by kernel_rfl) (by kernel_rfl) (by kernel_rfl) (v_move rfl) (eX (by repeat constructor)) (dd rfl) ?_
      refine a_one 1 rfl (by kernel_rfl) (s_callf_keep cl68 (hdn g.1 g8.1) rfl (dd rfl) (rX (by repeat constructor)) (fun _ => sX) (fun _ _ => a_on (eX (by repeat constructor)) ?_))
      refine a_take 2 rfl (by kernel_rfl) (by kernel_rfl) (by kernel_rfl) (v_not rfl) (eX (by repeat constructor)) (dd rfl) ?_
      refine a_take 3 rfl (by kernel_rfl) (by kernel_rfl) (by kernel_rfl) (v_move rfl) (eX (by repeat constructor)) (dd rfl) ?_
      refine a_know (s := 31) rfl (show _ = Value.bool false from rfl) ?_
      refine a_take_on 4 rfl rfl rfl (by kernel_rfl) (by kernel_rfl) (by kernel_rfl) (v_load_all ⟨_, Tryz.underlying32⟩ ti32 rfl (hX (by repeat constructor)) rfl) (eX (by repeat constructor)) (dd rfl) ?_
      refine a_one_on 5 rfl rfl rfl (by kernel_rfl) (s_callf_keep cl12 (hR g6.2 g7.2 g8.2) rfl (dd rfl) (rX (by repeat constructor)) (fun _ => sX) (fun _ _ => a_on (eX (by repeat constructor)) ?_))
      refine a_take_on 6 rfl rfl rfl (by kernel_rfl) (by kernel_rfl) (by kernel_rfl) (v_not rfl) (eX (by repeat constructor)) (dd rfl) ?_
      refine a_take 7 rfl (by kernel_rfl) (by kernel_rfl) (by kernel_rfl) (v_pick_f rfl rfl) (eX (by repeat constructor)) (dd rfl) ?_
      refine a_take 8 rfl (by kernel_rfl) (by kernel_rfl) (by kernel_rfl) (v_move rfl) (eX (by repeat constructor)) (dd rfl) ?_
      refine a_know (s := 36) rfl (show _ = Value.bool true from rfl) ?_
      refine a_take_off 9 rfl rfl rfl rfl (by kernel_rfl) (by kernel_rfl) (by kernel_rfl) (eX (by repeat constructor)) (dd rfl) ?_
      refine a_take_off 10 rfl rfl rfl rfl (by kernel_rfl) (by kernel_rfl) (by kernel_rfl) (eX (by repeat constructor)) (dd rfl) ?_
      refine a_take_off 11 rfl rfl rfl rfl (by kernel_rfl) (by kernel_rfl) (by kernel_rfl) (eX (by repeat constructor)) (dd rfl) ?_
      refine a_take_off 12 rfl rfl rfl rfl (by kernel_rfl) (by kernel_rfl) (by kernel_rfl) (eX (by repeat constructor)) (dd rfl) ?_
      refine a_take_off 13 rfl rfl rfl rfl (by kernel_rfl) (by kernel_rfl) (by kernel_rfl) (eX (by repeat constructor)) (dd rfl) ?_
      refine a_take_off 14 rfl rfl rfl rfl (by kernel_rfl) (by kernel_rfl) (by kernel_rfl) (eX (by repeat constructor)) (dd rfl) ?_
      refine a_take 15 rfl (by kernel_rfl) (by kernel_rfl) (by kernel_rfl) (v_pick_t rfl rfl) (eX (by repeat constructor)) (dd rfl) ?_
      refine a_done (by kernel_rfl) ?_ _
      refine c_cond_t rfl ?_
      refine c_seq ?_
      refine c_region ?_
      refine o_val (v_buildS (places := [(0, 1), (1, 1), (2, 1), (3, 1), (4, 1), (5, 1), (6, 1), (7, 1)]) (cells := [.int .i64 0, .int .i64 0, .int .i64 0, .string ⟨#[]⟩, .string ⟨#[]⟩, .slice none 0 0, .slice none 0 0, .slice none 0 0]) Tryz.underlying32 ti32 (by kernel_rfl) rfl (by repeat (first | exact PartsC.nil | (apply PartsC.one (by first | exact OneC.lit rfl | exact OneC.sl (hX (by repeat constructor)) )) | (apply PartsC.lit rfl))) rfl) (dd rfl) ?_
      refine o_step (s_store_all ti32 rfl rfl (by first | exact CellsV.lit rfl | exact CellsV.one (by first | exact OneC.lit rfl | exact OneC.sl (hX (by repeat constructor)) )) (by repeat (first | exact OneAll.nil | (refine OneAll.cons ?_ ?_; · first | exact OneC.lit rfl | exact OneC.sl (hX (by repeat constructor)) ) | exact OneAll.rd (hX (by repeat constructor)))) rfl (pB (by repeat constructor)) rfl (?_))
      refine o_val (v_assign rfl) (dd rfl) ?_
      refine o_nil ?_
      refine c_ret_ct Tryz.func23 rfl ⟨_, Tryz.underlying32⟩ ti32 rfl rfl (hX (by repeat constructor)) fun w O hS => ?_
      exact ⟨(.slice none 0 0, .slice none 0 0, .slice none 0 0), by rw [hq0, hn]; rfl, trivial, by rw [hq0]; exact Ent.get hS (eX (by repeat constructor))⟩
  · rw [decide_eq_false hd] at hdn
    have hn : parseP l = none := by rw [hP, if_neg (fun h => hd h.1)]
    have hq0 : parseQ l = zeroQ 0 := by unfold parseQ; rw [hn]; rfl
    refine c_held [BlkR g.1 141 [g8.1, .bool s8.2], Sl eByte g8.1 s8.1, BlkR b5 32 [.int .i64 k, .int .i64 bs, .int .i64 id, .string n, .string t, g6.2, g7.2, g8.2], Sl (eInt .i64) g6.2 dl, Sl eStr g7.2 fl, Sl ePr g8.2 pl, Sl eByte v l, G3] rfl ?_
    refine a_take 0 rfl (by kernel_rfl) (by kernel_rfl) (by kernel_rfl) (v_move rfl) (eX (by repeat constructor)) (dd rfl) ?_
    refine a_one 1 rfl (by kernel_rfl) (s_callf_keep cl68 (hdn g.1 g8.1) rfl (dd rfl) (rX (by repeat constructor)) (fun _ => sX) (fun _ _ => a_on (eX (by repeat constructor)) ?_))
    refine a_take 2 rfl (by kernel_rfl) (by kernel_rfl) (by kernel_rfl) (v_not rfl) (eX (by repeat constructor)) (dd rfl) ?_
    refine a_take 3 rfl (by kernel_rfl) (by kernel_rfl) (by kernel_rfl) (v_move rfl) (eX (by repeat constructor)) (dd rfl) ?_
    refine a_know (s := 31) rfl (show _ = Value.bool true from rfl) ?_
    refine a_take_off 4 rfl rfl rfl rfl (by kernel_rfl) (by kernel_rfl) (by kernel_rfl) (eX (by repeat constructor)) (dd rfl) ?_
    refine a_take_off 5 rfl rfl rfl rfl (by kernel_rfl) (by kernel_rfl) (by kernel_rfl) (eX (by repeat constructor)) (dd rfl) ?_
    refine a_take_off 6 rfl rfl rfl rfl (by kernel_rfl) (by kernel_rfl) (by kernel_rfl) (eX (by repeat constructor)) (dd rfl) ?_
    refine a_take 7 rfl (by kernel_rfl) (by kernel_rfl) (by kernel_rfl) (v_pick_t rfl rfl) (eX (by repeat constructor)) (dd rfl) ?_
    refine a_take 8 rfl (by kernel_rfl) (by kernel_rfl) (by kernel_rfl) (v_move rfl) (eX (by repeat constructor)) (dd rfl) ?_
    refine a_take_off 9 rfl rfl rfl rfl (by kernel_rfl) (by kernel_rfl) (by kernel_rfl) (eX (by repeat constructor)) (dd rfl) ?_
    refine a_take_off 10 rfl rfl rfl rfl (by kernel_rfl) (by kernel_rfl) (by kernel_rfl) (eX (by repeat constructor)) (dd rfl) ?_
    refine a_take_off 11 rfl rfl rfl rfl (by kernel_rfl) (by kernel_rfl) (by kernel_rfl) (eX (by repeat constructor)) (dd rfl) ?_
    refine a_take_off 12 rfl rfl rfl rfl (by kernel_rfl) (by kernel_rfl) (by kernel_rfl) (eX (by repeat constructor)) (dd rfl) ?_
    refine a_take_off 13 rfl rfl rfl rfl (by kernel_rfl) (by kernel_rfl) (by kernel_rfl) (eX (by repeat constructor)) (dd rfl) ?_
    refine a_take_off 14 rfl rfl rfl rfl (by kernel_rfl) (by kernel_rfl) (by kernel_rfl) (eX (by repeat constructor)) (dd rfl) ?_
    refine a_take 15 rfl (by kernel_rfl) (by kernel_rfl) (by kernel_rfl) (v_pick_t rfl rfl) (eX (by repeat constructor)) (dd rfl) ?_
    refine a_done (by kernel_rfl) ?_ _
    refine c_cond_t rfl ?_
    refine c_seq ?_
    refine c_region ?_
    refine o_val (v_buildS (places := [(0, 1), (1, 1), (2, 1), (3, 1), (4, 1), (5, 1), (6, 1), (7, 1)]) (cells := [.int .i64 0, .int .i64 0, .int .i64 0, .string ⟨#[]⟩, .string ⟨#[]⟩, .slice none 0 0, .slice none 0 0, .slice none 0 0]) Tryz.underlying32 ti32 (by kernel_rfl) rfl (by repeat (first | exact PartsC.nil | (apply PartsC.one (by first | exact OneC.lit rfl | exact OneC.sl (hX (by repeat constructor)) )) | (apply PartsC.lit rfl))) rfl) (dd rfl) ?_
    refine o_step (s_store_all ti32 rfl rfl (by first | exact CellsV.lit rfl | exact CellsV.one (by first | exact OneC.lit rfl | exact OneC.sl (hX (by repeat constructor)) )) (by repeat (first | exact OneAll.nil | (refine OneAll.cons ?_ ?_; · first | exact OneC.lit rfl | exact OneC.sl (hX (by repeat constructor)) ) | exact OneAll.rd (hX (by repeat constructor)))) rfl (pB (by repeat constructor)) rfl (?_))
    refine o_val (v_assign rfl) (dd rfl) ?_
    refine o_nil ?_
    refine c_ret_ct Tryz.func23 rfl ⟨_, Tryz.underlying32⟩ ti32 rfl rfl (hX (by repeat constructor)) fun w O hS => ?_
    exact ⟨(.slice none 0 0, .slice none 0 0, .slice none 0 0), by rw [hq0, hn]; rfl, trivial, by rw [hq0]; exact Ent.get hS (eX (by repeat constructor))⟩
end Go.Proofs.YtlfehnnmpkohkaaGreatDoor
/- Chapter 16: requests of bytes that are not too many; responses of bytes: the program's way. -/
namespace Go.Proofs.YtlfehnnmpkohkaaGreatDoor
open Go Go.SL Go.Lib
/-- What Unpack tells. -/
def unpackP (l : List UInt8) : Option Rq9 := if 3000 < l.length then none else parseP l
def unpackE (l : List UInt8) : Value := .int .i64 (if 3000 < l.length then 161 else if (parseP l).isSome then 0 else 160)
def unpackQ (l : List UInt8) : Rq9 := (unpackP l).getD (zeroQ 0)
attribute [local irreducible] Cfg Kont StepK Val Con Qops Any Sl Own Blk BlkR Rd Pu ExA AllA Has Pick Ent Elem Beside Callable TI Lone OwnO AndA
set_option maxRecDepth 100000 in
theorem unpack_con (v : Value) (l : List UInt8) (hl : l.length ≤ big9) (te : TypeId) (pe : Value) : Con Tryz.prog 20 [v] [Sl eByte v l, G1 te pe, G3] (γ := Value × Value × Value)
    (fun g => .tuple #[.agg (rqC (unpackQ l) g.1 g.2.1 g.2.2).toArray, unpackE l]) (fun _ => True) (fun g => [Sl (eInt .i64) g.1 (unpackQ l).2.2.2.2.2.1, Sl eStr g.2.1 (unpackQ l).2.2.2.2.2.2.1, Sl ePr g.2.2 (unpackQ l).2.2.2.2.2.2.2]) := by
  have hP := parse_con v l hl te pe
  refine con_of Tryz.func20 rfl (dd rfl) fun w0 O0 => ?_
  refine c_seq ?_
  refine c_region ?_
  refine o_step (s_alloc ti32 (dd rfl) (fun b2 => ?_))
  refine o_val (v_assign rfl) (dd rfl) ?_
  refine o_nil ?_
  refine c_seq ?_
  refine c_seq ?_
  refine c_region ?_
  refine o_val (v_move rfl) (dd rfl) ?_
  refine o_val ((by first | exact v_len_form Tryz.underlying38 rfl | exact v_len_sl Tryz.underlying38 rfl (hX (by repeat constructor)))) (dd rfl) ?_
  refine o_val (v_gt rfl rfl) (dd rfl) ?_
  refine o_nil ?_
  refine c_cond_p rfl (fun h => ?_) (fun h => ?_)
  · have hq : unpackQ l = zeroQ 0 := by unfold unpackQ unpackP; rw [if_pos (by omega)]; rfl
    have he : unpackE l = .int .i64 161 := by unfold unpackE; rw [if_pos (by omega)]
    rw [hq, he]
    refine c_seq ?_
    refine c_region ?_
    refine o_val (v_buildS (places := [(0, 1), (1, 1), (2, 1), (3, 1), (4, 1), (5, 1), (6, 1), (7, 1)]) (cells := [.int .i64 0, .int .i64 0, .int .i64 0, .string ⟨#[]⟩, .string ⟨#[]⟩, .slice none 0 0, .slice none 0 0, .slice none 0 0]) Tryz.underlying32 ti32 (by kernel_rfl) rfl (by repeat (first | exact PartsC.nil | (apply PartsC.one (by first | exact OneC.lit rfl | exact OneC.sl (hX (by repeat constructor)) )) | (apply PartsC.lit rfl))) rfl) (dd rfl) ?_
    refine o_step (s_store_all ti32 rfl rfl (by first | exact CellsV.lit rfl | exact CellsV.one (by first | exact OneC.lit rfl | exact OneC.sl (hX (by repeat constructor)) )) (by repeat (first | exact OneAll.nil | (refine OneAll.cons ?_ ?_; · first | exact OneC.lit rfl | exact OneC.sl (hX (by repeat constructor)) ) | exact OneAll.rd (hX (by repeat constructor)))) rfl (pB (by repeat constructor)) rfl (?_))
    refine o_val (v_assign rfl) (dd rfl) ?_
    refine o_nil ?_
    refine c_ret_ct Tryz.func20 rfl ⟨_, Tryz.underlying32⟩ ti32 rfl rfl (hX (by repeat constructor)) fun w O hS => ?_
    exact ⟨(.slice none 0 0, .slice none 0 0, .slice none 0 0), rfl, trivial, Ent.get hS (eX (by repeat constructor))⟩
  · have hq : unpackQ l = parseQ l := by unfold unpackQ unpackP; rw [if_neg (by omega)]; rfl
    have he : unpackE l = errV 160 (parseP l).isSome := by unfold unpackE; rw [if_neg (by omega)]; rfl
    rw [hq, he]
    clear hq
    generalize parseQ l = q at hP ⊢
    obtain ⟨k, bs, id, n, t, dl, fl, pl⟩ := q
    dsimp only [rqC] at hP ⊢
    refine c_skip ?_
    refine c_seq ?_
    refine c_region ?_
    refine o_val (v_move rfl) (dd rfl) ?_
    refine o_step (s_callf cl23 (hP) rfl (dd rfl) (pXs (by repeat constructor)) fun g _ => ?_)
    refine o_val (v_extract rfl rfl) (dd rfl) ?_
    refine o_val (v_extract rfl rfl) (dd rfl) ?_
    refine o_step (s_store_all ti32 rfl rfl (by first | exact CellsV.lit rfl | exact CellsV.one (by first | exact OneC.lit rfl | exact OneC.sl (hX (by repeat constructor)) )) (by repeat (first | exact OneAll.nil | (refine OneAll.cons ?_ ?_; · first | exact OneC.lit rfl | exact OneC.sl (hX (by repeat constructor)) ) | exact OneAll.rd (hX (by repeat constructor)))) rfl (pB (by repeat constructor)) rfl (?_))
    refine o_val (v_assign rfl) (dd rfl) ?_
    refine o_nil ?_
    refine c_ret_ct Tryz.func20 rfl ⟨_, Tryz.underlying32⟩ ti32 rfl rfl (hX (by repeat constructor)) fun w O hS => ?_
    exact ⟨g, rfl, trivial, Ent.get hS (eX (by repeat constructor))⟩
abbrev zeroS : Rs9 := (0, 0, [], [], [], [])
def resQ (l : List UInt8) : Rs9 := (resP l).getD zeroS
set_option maxRecDepth 100000 in
theorem unpackRes_con (v : Value) (l : List UInt8) (hl : l.length ≤ big9) (te : TypeId) (pe : Value) : Con Tryz.prog 30 [v] [Sl eByte v l, G1 te pe, G3] (γ := Value × Value × Value × Value)
    (fun g => .tuple #[.agg (rsC (resQ l) g.1 g.2.1 g.2.2.1 g.2.2.2).toArray, errV 160 (resP l).isSome]) (fun _ => True) (fun g => [Sl ePr g.1 (resQ l).2.2.1, Sl (eInt .i64) g.2.1 (resQ l).2.2.2.1, Sl eStr g.2.2.1 (resQ l).2.2.2.2.1, Sl eNt g.2.2.2 (resQ l).2.2.2.2.2]) := by
  have hof := of_con v l (by unfold big9 at hl; omega)
  obtain ⟨hsize, hcount, hlen⟩ := rs_raw (s := (l, false)) hl
  have hP : resP l = if (rawRes (takeRowP 1000) (manyP9 takeNote 1000) (l, false)).1 = ([], false) ∧ resB (rawRes (takeRowP 1000) (manyP9 takeNote 1000) (l, false)).2 = l then some (rawRes (takeRowP 1000) (manyP9 takeNote 1000) (l, false)).2 else none := rfl
  have c1 := fun i w => inNum_con i w (l, false) te pe
  obtain ⟨s1, c, h1⟩ : ∃ s1 k, takeNum (l, false) = (s1, k) := ⟨_, _, rfl⟩
  rw [h1] at c1
  have c2 := fun i w => inNum_con i w s1 te pe
  obtain ⟨s2, ver, h2⟩ : ∃ s2 k, takeNum s1 = (s2, k) := ⟨_, _, rfl⟩
  rw [h2] at c2
  have l1 := Nat.le_trans (goes_len goes_num (l, false)) hl
  rw [h1] at l1
  have l2 := Nat.le_trans (goes_len goes_num s1) l1
  rw [h2] at l2
  have c3 := fun i w => inPrims_con i w s2 1000 l2 te pe
  obtain ⟨s3, pl, h3⟩ : ∃ s3 k, takePrims 1000 s2 = (s3, k) := ⟨_, _, rfl⟩
  rw [h3] at c3
  have c4 := fun i w => take_con i w s3 1000 (by decide) te pe
  obtain ⟨s4, il, h4⟩ : ∃ s4 k, takeRowP 1000 s3 = (s4, k) := ⟨_, _, rfl⟩
  rw [h4] at c4
  have c5 := fun i w => inTexts_con i w s4 1000 60 te pe
  obtain ⟨s5, tl, h5⟩ : ∃ s5 k, takeTexts 1000 60 s4 = (s5, k) := ⟨_, _, rfl⟩
  rw [h5] at c5
  have c6 := fun i w => inNum_con i w s5 te pe
  obtain ⟨s6, m, h6⟩ : ∃ s6 k, takeNum s5 = (s6, k) := ⟨_, _, rfl⟩
  rw [h6] at c6
  obtain ⟨cn, hcn⟩ : ∃ cn, cn = (min (max m 0) 1000).toNat := ⟨_, rfl⟩
  have hcn' : (cn : Int) = min (max m 0) 1000 := by omega
  obtain ⟨s7, nl, h7⟩ : ∃ s7 k, manyP9 takeNote 1000 s5 = (s7, k) := ⟨_, _, rfl⟩
  have h7' : repG takeNote cn s6 [] = (s7, nl) := by
    rw [← h7]; unfold manyP9; rw [h6, hcn]
  have hraw : rawRes (takeRowP 1000) (manyP9 takeNote 1000) (l, false) = (s7, (c, ver, pl, il, tl, nl)) := by unfold rawRes; simp only [h1, h2, h3, h4, h5, h7]
  rw [hraw] at hcount hlen hP
  have hK := fun lv iv tv nv => packRes_con (c, ver, pl, il, tl, nl) lv iv tv nv hcount (Nat.le_trans hlen (by decide))
  have hdn := fun i w => done_con i w s7
  dsimp only [rsC] at c1 c2 c3 c4 c5 c6 hK hP
  refine con_of Tryz.func30 rfl (dd rfl) fun w0 O0 => ?_
  refine c_seq ?_
  refine c_region ?_
  refine o_step (s_alloc ti55 (dd rfl) (fun b2 => ?_))
  refine o_val (v_assign rfl) (dd rfl) ?_
  refine o_nil ?_
  refine c_seq ?_
  refine c_region ?_
  refine o_val (v_move rfl) (dd rfl) ?_
  refine o_step (s_callf cl62 (hof) rfl (dd rfl) (pXs (by repeat constructor)) fun g _ => ?_)
  refine o_val (v_assign rfl) (dd rfl) ?_
  refine o_nil ?_
  refine c_seq ?_
  refine c_region ?_
  refine o_val (v_move rfl) (dd rfl) ?_
  refine o_step (s_callf cl63 (c1 g.1 g.2) rfl (dd rfl) (pXs (by repeat constructor)) fun w1 _ => ?_)
  refine o_val (v_move rfl) (dd rfl) ?_
  refine o_step (s_callf cl63 (c2 g.1 w1) rfl (dd rfl) (pXs (by repeat constructor)) fun w2 _ => ?_)
  refine o_val (v_move rfl) (dd rfl) ?_
  refine o_step (s_callf cl67 (c3 g.1 w2) rfl (dd rfl) (pXs (by repeat constructor)) fun g3 _ => ?_)
  refine o_val (v_buildS (places := [(0, 1), (1, 1), (2, 1), (3, 1), (4, 1), (5, 1)]) (cells := [_, _, _, .slice none 0 0, .slice none 0 0, .slice none 0 0]) Tryz.underlying55 ti55 (by kernel_rfl) rfl (by repeat (first | exact PartsC.nil | (apply PartsC.one (by first | exact OneC.lit rfl | exact OneC.sl (hX (by repeat constructor)) )) | (apply PartsC.lit rfl))) rfl) (dd rfl) ?_
  refine o_step (s_alloc ti55 (dd rfl) (fun b5 => ?_))
  refine o_step (s_store_all ti55 rfl rfl (by first | exact CellsV.lit rfl | exact CellsV.one (by first | exact OneC.lit rfl | exact OneC.sl (hX (by repeat constructor)) )) (by repeat (first | exact OneAll.nil | (refine OneAll.cons ?_ ?_; · first | exact OneC.lit rfl | exact OneC.sl (hX (by repeat constructor)) ) | exact OneAll.rd (hX (by repeat constructor)))) rfl (pB (by repeat constructor)) rfl (?_))
  refine o_nil ?_
  refine c_seq ?_
  refine c_region ?_
  refine o_val (v_move rfl) (dd rfl) ?_
  refine o_step (s_callf cl65 (c4 g.1 g3.1) rfl (dd rfl) (pXs (by repeat constructor)) fun g4 _ => ?_)
  refine o_val (v_fieldAddrC 3 Tryz.underlying55 rfl ti22 (by decide) rfl) (dd rfl) ?_
  refine o_step (s_store1 ti22 rfl rfl (by first | exact OneC.lit rfl | exact OneC.sl (hX (by repeat constructor)) ) (pB (by repeat constructor)) (by first | decide | exact Nat.le_of_ble_eq_true rfl | simp) (by first | (dsimp only [List.set_cons_succ, List.set_cons_zero]; first | done | exact rfl) | rfl) (?_))
  refine o_nil ?_
  refine c_seq ?_
  refine c_region ?_
  refine o_val (v_move rfl) (dd rfl) ?_
  refine o_step (s_callf cl66 (c5 g.1 g4.1) rfl (dd rfl) (pXs (by repeat constructor)) fun g5 _ => ?_)
  refine o_val (v_fieldAddrC 4 Tryz.underlying55 rfl ti23 (by decide) rfl) (dd rfl) ?_
  refine o_step (s_store1 ti23 rfl rfl (by first | exact OneC.lit rfl | exact OneC.sl (hX (by repeat constructor)) ) (pB (by repeat constructor)) (by first | decide | exact Nat.le_of_ble_eq_true rfl | simp) (by first | (dsimp only [List.set_cons_succ, List.set_cons_zero]; first | done | exact rfl) | rfl) (?_))
  refine o_nil ?_
  refine c_seq ?_
  refine c_seq ?_
  refine c_region ?_
  refine o_val (v_move rfl) (dd rfl) ?_
  refine o_step (s_callf cl63 (c6 g.1 g5.1) rfl (dd rfl) (pXs (by repeat constructor)) fun w6 _ => ?_)
  refine o_val (v_max rfl rfl) (dd rfl) ?_
  refine o_val (v_min rfl rfl) (dd rfl) ?_
  refine o_val (v_move rfl) (dd rfl) ?_
  refine o_nil ?_
  refine c_block ?_
  rw [← hcn']
  refine c_loopR (γ := Nat × St9 × List Nt9 × Value × Value) [(0, _), (2, _), (3, _), (4, _), (5, _), (25, _)] (fun j => cn - j.1) (fun j => j.1 ≤ cn ∧ j.2.2.1.length = j.1 ∧ repG takeNote (cn - j.1) j.2.1 j.2.2.1 = (s7, nl)) (fun j => [(26, .int .i64 j.1)]) (fun j => [Blk g.1 141 [j.2.2.2.1, .bool j.2.1.2], Sl eByte j.2.2.2.1 j.2.1.1, Blk b5 55 [.int .i64 c, .int .i64 ver, g3.2, g4.2, g5.2, j.2.2.2.2], Own eNt 72 j.2.2.2.2 j.2.2.1, Sl ePr g3.2 pl, Sl (eInt .i64) g4.2 il, Sl eStr g5.2 tl, Sl eByte v l, Blk b2 55 [.int .i64 0, .int .i64 0, .slice none 0 0, .slice none 0 0, .slice none 0 0, .slice none 0 0], G1 te pe, G3]) ((0, s6, [], w6, .slice none 0 0)) (⟨Nat.zero_le _, rfl, h7'⟩) (by repeat (first | exact trivial | refine ⟨rfl, ?_⟩)) (eX (by repeat constructor)) ?_
  rintro ⟨k, sk, out, r, nv⟩ ⟨hk, hlk, hTk⟩ IH
  dsimp only at hk hlk hTk ⊢
  try dsimp only [List.cons_append, List.nil_append]
  refine c_seq ?_
  refine c_region ?_
  refine o_val (v_lt rfl rfl) (dd rfl) ?_
  refine o_nil ?_
  refine c_seq ?_
  refine c_cond_p rfl (fun hlt => ?_) (fun hlt => ?_)
  · have hst := repG_step (take := takeNote) (n := cn) (k := k) (s := sk) (out := out) (by omega)
    have d1 := fun w => inNum_con g.1 w sk te pe
    obtain ⟨t1, x1, e1⟩ : ∃ s k, takeNum sk = (s, k) := ⟨_, _, rfl⟩
    rw [e1] at d1
    have d2 := fun w => inFlag_con g.1 w t1 te pe
    obtain ⟨t2, x2, e2⟩ : ∃ s k, takeFlag t1 = (s, k) := ⟨_, _, rfl⟩
    rw [e2] at d2
    have d3 := fun w => inTexts_con g.1 w t2 1000 60 te pe
    obtain ⟨t3, x3, e3⟩ : ∃ s k, takeTexts 1000 60 t2 = (s, k) := ⟨_, _, rfl⟩
    rw [e3] at d3
    have d3' := fun w => Con.post (L'' := fun q => [Blk g.1 141 [q.1, .bool t3.2], Sl eByte q.1 t3.1, Sl eStr q.2 x3]) (d3 w) fun q => (eX (by repeat constructor))
    have hnote : takeNote sk = (t3, (x1, x3, x2)) := by unfold takeNote; simp only [e1, e2, e3]
    rw [hnote] at hst
    dsimp only at d1 d2 hst
    refine c_skip ?_
    refine c_seq ?_
    refine c_block ?_
    refine c_seq ?_
    refine c_region ?_
    refine o_val (v_move rfl) (dd rfl) ?_
    refine o_step (s_callf cl63 (d1 r) rfl (dd rfl) (pXs (by repeat constructor)) fun r1 _ => ?_)
    refine o_val (v_move rfl) (dd rfl) ?_
    refine o_step (s_callf cl77 (d2 r1) rfl (dd rfl) (pXs (by repeat constructor)) fun r2 _ => ?_)
    refine o_val (v_buildS (places := [(0, 1), (1, 1), (2, 1)]) (cells := [_, .slice none 0 0, _]) Tryz.underlying72 ti72 (by kernel_rfl) rfl (by repeat (first | exact PartsC.nil | (apply PartsC.one (by first | exact OneC.lit rfl | exact OneC.sl (hX (by repeat constructor)) )) | (apply PartsC.lit rfl))) rfl) (dd rfl) ?_
    refine o_step (s_alloc ti72 (dd rfl) (fun b6 => ?_))
    refine o_step (s_store_all ti72 rfl rfl (by first | exact CellsV.lit rfl | exact CellsV.one (by first | exact OneC.lit rfl | exact OneC.sl (hX (by repeat constructor)) )) (by repeat (first | exact OneAll.nil | (refine OneAll.cons ?_ ?_; · first | exact OneC.lit rfl | exact OneC.sl (hX (by repeat constructor)) ) | exact OneAll.rd (hX (by repeat constructor)))) rfl (pB (by repeat constructor)) rfl (?_))
    refine o_nil ?_
    refine c_seq ?_
    refine c_region ?_
    refine o_val (v_move rfl) (dd rfl) ?_
    refine o_step (s_callf cl66 (d3' r2) rfl (dd rfl) (pXs (by repeat constructor)) fun gt _ => ?_)
    refine o_val (v_fieldAddrC 1 Tryz.underlying72 rfl ti23 (by decide) rfl) (dd rfl) ?_
    refine o_step (s_store1 ti23 rfl rfl (by first | exact OneC.lit rfl | exact OneC.sl (hX (by repeat constructor)) ) (pB (by repeat constructor)) (by first | decide | exact Nat.le_of_ble_eq_true rfl | simp) (by first | (dsimp only [List.set_cons_succ, List.set_cons_zero]; first | done | exact rfl) | rfl) (?_))
    refine o_nil ?_
    refine c_region ?_
    refine o_val (v_fieldAddrC 5 Tryz.underlying55 rfl ti53 (by decide) rfl) (dd rfl) ?_
    refine o_val (v_load lone53 rfl (hX (by repeat constructor)) rfl) (dd rfl) ?_
    refine o_val (v_load_all ⟨_, Tryz.underlying72⟩ ti72 rfl (hX (by repeat constructor)) rfl) (dd rfl) ?_
    refine o_step (s_buildSlice Tryz.underlying53 ti72 rfl rfl rfl (by decide) (by decide) (beside_agg1 (beside_of (Lp := [Sl eStr gt.2 x3]) (pXs (by repeat constructor)) fun w O => nt_rd w O)) rfl rfl (dd rfl) fun v2 => ?_)
    refine o_step (s_append Tryz.underlying53 ti72 rfl (by decide) rfl rfl (dd rfl) (pB (by repeat constructor)) (pX (by repeat constructor)) rfl (by (first | omega | (simp only [maxLen, List.length_append, List.length_drop, List.length_take, List.length_nil, List.length_cons]; omega))) (by (first | omega | (simp only [maxLen, List.length_append, List.length_drop, List.length_take, List.length_nil, List.length_cons]; omega))) fun v3 => ?_)
    refine o_val (v_fieldAddrC 5 Tryz.underlying55 rfl ti53 (by decide) rfl) (dd rfl) ?_
    refine o_step (s_store1 ti53 rfl rfl (by first | exact OneC.lit rfl | exact OneC.sl (hX (by repeat constructor)) ) (pB (by repeat constructor)) (by first | decide | exact Nat.le_of_ble_eq_true rfl | simp) (by first | (dsimp only [List.set_cons_succ, List.set_cons_zero]; first | done | exact rfl) | rfl) (?_))
    refine o_nil ?_
    refine c_inBlock ?_
    refine c_region ?_
    refine o_val ((by first | exact v_add64 rfl rfl (by omega) | exact v_add rfl rfl)) (dd rfl) ?_
    refine o_val (v_move rfl) (dd rfl) ?_
    refine o_nil ?_
    refine c_use (IH ((k + 1, t3, out ++ [(x1, x3, x2)], gt.1, v3)) (by first | omega | (dsimp only; omega)) (⟨by dsimp only; omega, by simp [hlk], hst.symm.trans hTk⟩)) (by repeat (first | exact trivial | refine ⟨rfl, ?_⟩)) (eX (by repeat constructor))
  · have hend := repG_end (take := takeNote) (n := cn) (k := k) (s := sk) (out := out) (by omega)
    rw [hend] at hTk
    cases hTk
    refine c_exit rfl ?_
    refine c_seq ?_
    refine c_seq ?_
    by_cases hd : s7 = ([], false)
    · rw [decide_eq_true hd] at hdn
      refine c_held [BlkR g.1 141 [r, .bool s7.2], Sl eByte r s7.1, BlkR b5 55 [.int .i64 c, .int .i64 ver, g3.2, g4.2, g5.2, nv], Sl ePr g3.2 pl, Sl (eInt .i64) g4.2 il, Sl eStr g5.2 tl, Sl eNt nv nl, Sl eByte v l, G3] rfl ?_
      refine a_take 0 rfl (by kernel_rfl) (by kernel_rfl) (by kernel_rfl) (v_move rfl) (eX (by repeat constructor)) (dd rfl) ?_
      refine a_one 1 rfl (by kernel_rfl) (s_callf_keep cl68 (hdn g.1 r) rfl (dd rfl) (rX (by repeat constructor)) (fun _ => sX) (fun _ _ => a_on (eX (by repeat constructor)) ?_))
      refine a_take 2 rfl (by kernel_rfl) (by kernel_rfl) (by kernel_rfl) (v_not rfl) (eX (by repeat constructor)) (dd rfl) ?_
      refine a_take 3 rfl (by kernel_rfl) (by kernel_rfl) (by kernel_rfl) (v_move rfl) (eX (by repeat constructor)) (dd rfl) ?_
      refine a_know (s := 46) rfl (show _ = Value.bool false from rfl) ?_
      refine a_take_on 4 rfl rfl rfl (by kernel_rfl) (by kernel_rfl) (by kernel_rfl) (v_load_all ⟨_, Tryz.underlying55⟩ ti55 rfl (hX (by repeat constructor)) rfl) (eX (by repeat constructor)) (dd rfl) ?_
      refine a_take_on 7 rfl rfl rfl (by kernel_rfl) (by kernel_rfl) (by kernel_rfl) (v_move rfl) (eX (by repeat constructor)) (dd rfl) ?_
      refine a_take_on 8 rfl rfl rfl (by kernel_rfl) (by kernel_rfl) (by kernel_rfl) (v_conv_bytes Tryz.underlying38 Tryz.underlying5 Tryz.underlying9 rfl (hX (by repeat constructor))) (eX (by repeat constructor)) (dd rfl) ?_
      refine a_one_on 5 rfl rfl rfl (by kernel_rfl) (s_callf_keep cl26 (hK g3.2 g4.2 g5.2 nv) rfl (dd rfl) (rX (by repeat constructor)) (fun _ => sX) (fun r6 _ => a_on (eX (by repeat constructor)) ?_))
      refine a_one_on 6 rfl rfl rfl (by kernel_rfl) (s_val (v_conv_bytes Tryz.underlying38 Tryz.underlying5 Tryz.underlying9 rfl (hX (by repeat constructor))) (dd rfl) (a_on (eX (by repeat constructor)) ?_))
      refine a_take_on 9 rfl rfl rfl (by kernel_rfl) (by kernel_rfl) (by kernel_rfl) (v_sne rfl rfl) (eX (by repeat constructor)) (dd rfl) ?_
      refine a_take 10 rfl (by kernel_rfl) (by kernel_rfl) (by kernel_rfl) (v_pick_f rfl rfl) (eX (by repeat constructor)) (dd rfl) ?_
      refine a_done (by kernel_rfl) ?_ _
      refine c_cond_p rfl (fun hne => ?_) (fun hne => ?_)
      · have hn : resP l = none := by rw [hP, if_neg (fun h => hne (congrArg sB h.2))]
        have hq0 : resQ l = zeroS := by unfold resQ; rw [hn]; rfl
        refine c_seq ?_
        refine c_region ?_
        refine o_val (v_buildS (places := [(0, 1), (1, 1), (2, 1), (3, 1), (4, 1), (5, 1)]) (cells := [.int .i64 0, .int .i64 0, .slice none 0 0, .slice none 0 0, .slice none 0 0, .slice none 0 0]) Tryz.underlying55 ti55 (by kernel_rfl) rfl (by repeat (first | exact PartsC.nil | (apply PartsC.one (by first | exact OneC.lit rfl | exact OneC.sl (hX (by repeat constructor)) )) | (apply PartsC.lit rfl))) rfl) (dd rfl) ?_
        refine o_step (s_store_all ti55 rfl rfl (by first | exact CellsV.lit rfl | exact CellsV.one (by first | exact OneC.lit rfl | exact OneC.sl (hX (by repeat constructor)) )) (by repeat (first | exact OneAll.nil | (refine OneAll.cons ?_ ?_; · first | exact OneC.lit rfl | exact OneC.sl (hX (by repeat constructor)) ) | exact OneAll.rd (hX (by repeat constructor)))) rfl (pB (by repeat constructor)) rfl (?_))
        refine o_val (v_assign rfl) (dd rfl) ?_
        refine o_nil ?_
        refine c_ret_ct Tryz.func30 rfl ⟨_, Tryz.underlying55⟩ ti55 rfl rfl (hX (by repeat constructor)) fun w O hS => ?_
        exact ⟨(.slice none 0 0, .slice none 0 0, .slice none 0 0, .slice none 0 0), by rw [hq0, hn]; rfl, trivial, by rw [hq0]; exact Ent.get hS (eX (by repeat constructor))⟩
      · have hy : resP l = some (c, ver, pl, il, tl, nl) := by rw [hP, if_pos ⟨hd, sB_inj (Classical.not_not.1 hne)⟩]
        have hq1 : resQ l = (c, ver, pl, il, tl, nl) := by unfold resQ; rw [hy]; rfl
        refine c_skip ?_
        refine c_seq ?_
        refine c_region ?_
        refine o_val (v_load_all ⟨_, Tryz.underlying55⟩ ti55 rfl (hX (by repeat constructor)) rfl) (dd rfl) ?_
        refine o_step (s_store_all ti55 rfl rfl (by first | exact CellsV.lit rfl | exact CellsV.one (by first | exact OneC.lit rfl | exact OneC.sl (hX (by repeat constructor)) )) (by repeat (first | exact OneAll.nil | (refine OneAll.cons ?_ ?_; · first | exact OneC.lit rfl | exact OneC.sl (hX (by repeat constructor)) ) | exact OneAll.rd (hX (by repeat constructor)))) rfl (pB (by repeat constructor)) rfl (?_))
        refine o_val (v_assign rfl) (dd rfl) ?_
        refine o_nil ?_
        refine c_ret_ct Tryz.func30 rfl ⟨_, Tryz.underlying55⟩ ti55 rfl rfl (hX (by repeat constructor)) fun w O hS => ?_
        exact ⟨(g3.2, g4.2, g5.2, nv), by rw [hq1, hy]; rfl, trivial, by rw [hq1]; exact Ent.get hS (eX (by repeat constructor))⟩
    · rw [decide_eq_false hd] at hdn
      have hn : resP l = none := by rw [hP, if_neg (fun h => hd h.1)]
      have hq0 : resQ l = zeroS := by unfold resQ; rw [hn]; rfl
      refine c_held [BlkR g.1 141 [r, .bool s7.2], Sl eByte r s7.1] rfl ?_
      refine a_take 0 rfl (by kernel_rfl) (by kernel_rfl) (by kernel_rfl) (v_move rfl) (eX (by repeat constructor)) (dd rfl) ?_
      refine a_one 1 rfl (by kernel_rfl) (s_callf_keep cl68 (hdn g.1 r) rfl (dd rfl) (rX (by repeat constructor)) (fun _ => sX) (fun _ _ => a_on (eX (by repeat constructor)) ?_))
      refine a_take 2 rfl (by kernel_rfl) (by kernel_rfl) (by kernel_rfl) (v_not rfl) (eX (by repeat constructor)) (dd rfl) ?_
      refine a_take 3 rfl (by kernel_rfl) (by kernel_rfl) (by kernel_rfl) (v_move rfl) (eX (by repeat constructor)) (dd rfl) ?_
      refine a_know (s := 46) rfl (show _ = Value.bool true from rfl) ?_
      refine a_take_off 4 rfl rfl rfl rfl (by kernel_rfl) (by kernel_rfl) (by kernel_rfl) (eX (by repeat constructor)) (dd rfl) ?_
      refine a_take_off 5 rfl rfl rfl rfl (by kernel_rfl) (by kernel_rfl) (by kernel_rfl) (eX (by repeat constructor)) (dd rfl) ?_
      refine a_take_off 6 rfl rfl rfl rfl (by kernel_rfl) (by kernel_rfl) (by kernel_rfl) (eX (by repeat constructor)) (dd rfl) ?_
      refine a_take_off 7 rfl rfl rfl rfl (by kernel_rfl) (by kernel_rfl) (by kernel_rfl) (eX (by repeat constructor)) (dd rfl) ?_
      refine a_take_off 8 rfl rfl rfl rfl (by kernel_rfl) (by kernel_rfl) (by kernel_rfl) (eX (by repeat constructor)) (dd rfl) ?_
      refine a_take_off 9 rfl rfl rfl rfl (by kernel_rfl) (by kernel_rfl) (by kernel_rfl) (eX (by repeat constructor)) (dd rfl) ?_
      refine a_take 10 rfl (by kernel_rfl) (by kernel_rfl) (by kernel_rfl) (v_pick_t rfl rfl) (eX (by repeat constructor)) (dd rfl) ?_
      refine a_done (by kernel_rfl) ?_ _
      refine c_cond_t rfl ?_
      refine c_seq ?_
      refine c_region ?_
      refine o_val (v_buildS (places := [(0, 1), (1, 1), (2, 1), (3, 1), (4, 1), (5, 1)]) (cells := [.int .i64 0, .int .i64 0, .slice none 0 0, .slice none 0 0, .slice none 0 0, .slice none 0 0]) Tryz.underlying55 ti55 (by kernel_rfl) rfl (by repeat (first | exact PartsC.nil | (apply PartsC.one (by first | exact OneC.lit rfl | exact OneC.sl (hX (by repeat constructor)) )) | (apply PartsC.lit rfl))) rfl) (dd rfl) ?_
      refine o_step (s_store_all ti55 rfl rfl (by first | exact CellsV.lit rfl | exact CellsV.one (by first | exact OneC.lit rfl | exact OneC.sl (hX (by repeat constructor)) )) (by repeat (first | exact OneAll.nil | (refine OneAll.cons ?_ ?_; · first | exact OneC.lit rfl | exact OneC.sl (hX (by repeat constructor)) ) | exact OneAll.rd (hX (by repeat constructor)))) rfl (pB (by repeat constructor)) rfl (?_))
      refine o_val (v_assign rfl) (dd rfl) ?_
      refine o_nil ?_
      refine c_ret_ct Tryz.func30 rfl ⟨_, Tryz.underlying55⟩ ti55 rfl rfl (hX (by repeat constructor)) fun w O hS => ?_
      exact ⟨(.slice none 0 0, .slice none 0 0, .slice none 0 0, .slice none 0 0), by rw [hq0, hn]; rfl, trivial, by rw [hq0]; exact Ent.get hS (eX (by repeat constructor))⟩
end Go.Proofs.YtlfehnnmpkohkaaGreatDoor
/- Chapter 16: the bytes of requests and responses: the document's way. -/
namespace Go.Proofs.YtlfehnnmpkohkaaGreatDoor
open Go Go.SL Go.Lib
/-- Sizes of what is written. -/
structure FitQ (q : Rq9) : Prop where
  name : q.2.2.2.1.size ≤ 1000000
  note : q.2.2.2.2.1.size ≤ 1000000
  deps : q.2.2.2.2.2.1.length ≤ 1000000
  files : TextsFit q.2.2.2.2.2.2.1
  prims : PrsFit q.2.2.2.2.2.2.2
structure FitS (s : Rs9) : Prop where
  prims : PrsFit s.2.2.1
  ids : s.2.2.2.1.length ≤ 1000000
  lines : TextsFit s.2.2.2.2.1
  notes : s.2.2.2.2.2.length ≤ 100000 ∧ ∀ n ∈ s.2.2.2.2.2, TextsFit n.2.1
attribute [local irreducible] Cfg Kont StepK Val Con Qops Any Sl Own Blk BlkR Rd Pu ExA AllA Has Pick Ent Elem Beside Callable TI Lone OwnO AndA
end Go.Proofs.YtlfehnnmpkohkaaGreatDoor
/- Chapter 16: a row of numbers, a request, a response, read of bytes: the document's way. -/
namespace Go.Proofs.YtlfehnnmpkohkaaGreatDoor
open Go Go.SL Go.Lib
attribute [local irreducible] Cfg Kont StepK Val Con Qops Any Sl Own Blk BlkR Rd Pu ExA AllA Has Pick Ent Elem Beside Callable TI Lone OwnO AndA
def parseQR (l : List UInt8) : Rq9 := (parseR l).getD (zeroQ 0)
def unpackRR (l : List UInt8) : Option Rq9 := if 3000 < l.length then none else parseR l
def unpackER (l : List UInt8) : Value := .int .i64 (if 3000 < l.length then 161 else if (parseR l).isSome then 0 else 160)
def unpackQR (l : List UInt8) : Rq9 := (unpackRR l).getD (zeroQ 0)
end Go.Proofs.YtlfehnnmpkohkaaGreatDoor
/- Chapter 16: a response read of bytes: the document's way. -/
namespace Go.Proofs.YtlfehnnmpkohkaaGreatDoor
open Go Go.SL Go.Lib
def resQR (l : List UInt8) : Rs9 := (resR l).getD zeroS
attribute [local irreducible] Cfg Kont StepK Val Con Qops Any Sl Own Blk BlkR Rd Pu ExA AllA Has Pick Ent Elem Beside Callable TI Lone OwnO AndA
end Go.Proofs.YtlfehnnmpkohkaaGreatDoor
/- Chapter 09: changes and patches, as the document and as the program have them. -/
namespace Go.Proofs.YtlfehnnmpkohkaaGreatDoor
open Go Go.SL Go.Lib
attribute [local irreducible] Cfg Kont StepK Val Con Qops Any Sl Own Blk BlkR Rd Pu ExA AllA Has Pick Ent Elem Beside Callable TI Lone OwnO AndA
end Go.Proofs.YtlfehnnmpkohkaaGreatDoor
/- Chapter 16: the law's own helpers. -/
namespace Go.Proofs.YtlfehnnmpkohkaaGreatDoor
open Go Go.SL Go.Lib
def manyQ (q : Rq9) : Nat := q.2.2.2.1.size + q.2.2.2.2.1.size + q.2.2.2.2.2.1.length + q.2.2.2.2.2.2.1.length + many3 q.2.2.2.2.2.2.2 + sumS q.2.2.2.2.2.2.1
def manyN (n : Nt9) : Nat := n.2.1.length + sumS n.2.1
def sizeS (s : Rs9) : Nat := many3 s.2.2.1 + s.2.2.2.1.length + s.2.2.2.2.1.length + s.2.2.2.2.2.length + sumS s.2.2.2.2.1 + (s.2.2.2.2.2.map manyN).sum
attribute [local irreducible] Cfg Kont StepK Val Con Qops Any Sl Own Blk BlkR Rd Pu ExA AllA Has Pick Ent Elem Beside Callable TI Lone OwnO AndA
set_option maxHeartbeats 1000000 in
set_option maxRecDepth 100000 in
theorem writes6_con (k : Int) : Con Tryz.prog 17 [.int .i64 k] [] (γ := Unit) (fun _ => .bool (decide (0 ≤ k ∧ k ≤ 6))) (fun _ => True) (fun _ => []) := by
  refine con_of Tryz.func17 rfl (dd rfl) fun w0 O0 => ?_
  refine c_seq ?_
  refine c_region ?_
  refine o_val (v_assign rfl) (dd rfl) ?_
  refine o_nil ?_
  refine c_seq ?_
  refine c_region ?_
  refine o_val (v_move rfl) (dd rfl) ?_
  refine o_val (v_ge rfl rfl) (dd rfl) ?_
  refine o_val (v_move rfl) (dd rfl) ?_
  refine o_guard_t rfl rfl (fun g => ?_) (fun g => ?_)
  · refine o_val (v_move rfl) (dd rfl) ?_
    refine o_on rfl rfl ?_
    refine o_val (v_le rfl rfl) (dd rfl) ?_
    refine o_val (v_pick_t rfl rfl) (dd rfl) ?_
    refine o_val (v_assign rfl) (dd rfl) ?_
    refine o_nil ?_
    refine c_ret1 Tryz.func17 rfl rfl fun w O hS => ?_
    exact ⟨(), congrArg Value.bool (decide_eq_decide.2 ⟨fun h => ⟨g, h⟩, fun h => h.2⟩), trivial, trivial⟩
  · refine o_off rfl rfl rfl (dd rfl) ?_
    refine o_off rfl rfl rfl (dd rfl) ?_
    refine o_val (v_pick_f rfl rfl) (dd rfl) ?_
    refine o_val (v_assign rfl) (dd rfl) ?_
    refine o_nil ?_
    refine c_ret1 Tryz.func17 rfl rfl fun w O hS => ?_
    exact ⟨(), congrArg Value.bool (decide_eq_false fun h => g h.1).symm, trivial, trivial⟩
end Go.Proofs.YtlfehnnmpkohkaaGreatDoor
/- Chapter 16: how much a response has; whether a number is far. -/
namespace Go.Proofs.YtlfehnnmpkohkaaGreatDoor
open Go Go.SL Go.Lib
attribute [local irreducible] Cfg Kont StepK Val Con Qops Any Sl Own Blk BlkR Rd Pu ExA AllA Has Pick Ent Elem Beside Callable TI Lone OwnO AndA
end Go.Proofs.YtlfehnnmpkohkaaGreatDoor
/- Chapter 16: what the law's own look at a request of nothing comes to. -/
namespace Go.Proofs.YtlfehnnmpkohkaaGreatDoor
open Go Go.Lib
def aA : ByteArray := ⟨#[97]⟩
def pA6 : Pr9 := (1, aA, ⟨#[]⟩, 0, [], [])
def sA : Rs9 := (3, 9, [], [4], [], [(2, [aA], false)])
theorem alive_b : sB (reqB (zeroQ 7)) = ⟨#[55, 59, 48, 59, 48, 59, 48, 58, 44, 48, 58, 44, 48, 59, 48, 59, 48, 59]⟩ := by decide +kernel
theorem alive_l : (reqB (zeroQ 7)).length = 18 := by decide +kernel
theorem right7 : RightQ (zeroQ 7) := by decide +kernel
theorem rightA : RightQ (0, 0, 0, ⟨#[]⟩, ⟨#[]⟩, [], [], [pA6]) := by decide +kernel
theorem right0 : ¬ RightQ (zeroQ 0) := by decide +kernel
theorem alive_p : parseP (reqB (zeroQ 7)) = some (zeroQ 7) := parse_enc right7 (by rw [alive_l]; decide)
theorem alive_x : parseP [120] = none := by
  unfold parseP
  rw [if_neg]
  rintro ⟨h, -⟩
  revert h
  decide +kernel
theorem limA : LimS sA := ⟨by decide, by decide, ⟨by decide, fun _ h => by cases h⟩, ⟨by decide, by decide⟩, ⟨by decide, fun _ h => by cases h⟩, by decide, fun n hn => by
  rw [List.mem_singleton.1 hn]
  exact ⟨by decide, by decide, fun s hs => by rw [List.mem_singleton.1 hs]; decide⟩⟩
theorem alive_rl : (resB sA).length = 24 := by decide +kernel
theorem alive_r : resP (resB sA) = some sA := by
  rw [res_same (by rw [alive_rl]; decide)]
  unfold resR
  have h := res_enc limA (fun _ h => by cases h) []
  rw [List.append_nil] at h
  rw [h, if_pos rfl]
end Go.Proofs.YtlfehnnmpkohkaaGreatDoor
/- Rows of bytes: append of a count of zeros to a row of one's own, a row that is made, a literal that is marked as a text's. -/
namespace Go.SL
open Go
theorem zeroCells_u8 (c : Nat) : (Builtin.zeroCells (Value.int .u8 0).cells c).toList = List.replicate c (Value.int .u8 0) := by
  have hz : (Value.int .u8 0).cells = #[.int .u8 0] := rfl
  unfold Builtin.zeroCells
  rw [hz]
  apply List.ext_getElem
  · simp
  · intro i h1 h2
    simp [Nat.mod_one]
theorem bytes_zero {w : World} {O : Perm} (c : Nat) : Rows eByte w O (List.replicate c (Value.int .u8 0)) (List.replicate c (0 : UInt8)) := by
  rw [eByte_rows, List.map_replicate]; rfl
section
variable {E : TypeId} {T : TypeId}
theorem append_zeros_core {P : Program} {w : World} {t tn : TypeId} {ti : TypeInfo} (hu : P.underlying t = some (.slice E)) (hn : P.underlying tn = some (.int .i64)) (hi : P.info? E = some ti) (hz : ti.zero = some (.int .u8 0)) (hsz : ti.size = 1)
    {v : Value} {n : Nat} {cs : List Value} (g1 : w.ownsRow 0 E 1 v n cs) {c : Nat} (hb : (n + c) * ti.bytes ≤ 140737488355328) (hb2 : n + c ≤ maxLen) :
    ∃ v' w', (Builtin.append_ #[t, tn] T #[v, .int .i64 (c : Nat)]).run P w = .ok v' w' ∧ w'.ownsRow 0 E 1 v' (n + c) (cs ++ List.replicate c (.int .u8 0)) ∧ w.grownBy w' v.ownBlock ∧
      ∀ b, v'.ownBlock = some b → b < w'.heap.size ∧ (v.ownBlock = some b ∨ w.heap.size ≤ b) := by
  have hml : n + c ≤ 9223372036854775807 := by simp only [maxLen] at hb2; omega
  have hw : IntKind.i64.wrap (c : Int) = c := by rw [IntKind.wrap_i64]; omega
  have hneg : ¬ ((c : Int) < 0) := by omega
  have hcb : c * ti.bytes ≤ (n + c) * ti.bytes := Nat.mul_le_mul_right _ (by omega)
  have h48i : ¬ (281474976710656 < (c : Int) * (ti.bytes : Int)) := by rw [← Int.natCast_mul]; omega
  have hzc := zeroCells_u8 c
  have hw0 : IntKind.i64.wrap 0 = 0 := by decide
  have grow : ∀ (a0 : Option Addr) (cap : Nat), v = .slice a0 n cap → (Builtin.firstCells ti.size n (.slice a0 n cap)).run P w.drew = .ok cs.toArray w.drew → cap < n + c →
      ∃ v' w', (Builtin.append_ #[t, tn] T #[v, .int .i64 (c : Nat)]).run P w = .ok v' w' ∧ w'.ownsRow 0 E 1 v' (n + c) (cs ++ List.replicate c (.int .u8 0)) ∧ w.grownBy w' v.ownBlock ∧
        ∀ b, v'.ownBlock = some b → b < w'.heap.size ∧ (v.ownBlock = some b ∨ w.heap.size ≤ b) := by
    intro a0 cap hv hfc hg
    subst hv
    have hnc : n ≤ cap := by
      rcases g1.2 with ⟨h, rfl⟩ | ⟨g, cap', cur, h, _, _, hle, _⟩
      · exact Nat.zero_le _
      · cases h; exact hle
    have hrun := Lib.run_append_grow_zeros (P := P) w t tn T E ti (.int .u8 0) .i64 .i64 hu hn hi hz a0 n cap cs hfc c (by omega) (by omega) hg (by omega) (by omega) (growslice_fits hg hb)
    have hge := grownCap_ge w (n + c) cap E
    have hcm : grownCap w (n + c) cap E ≤ maxLen := grownCap_le_maxLen w (n + c) cap E hb2
    refine ⟨_, _, hrun, ⟨?_, .inr ⟨w.heap.size, _, _, rfl, Nat.zero_le _, heap_alloc w.drew _, hge, hcm, ?_, ?_⟩⟩, ⟨rfl, rfl, rfl, by show w.heap.size ≤ (w.heap.push _).size; rw [Array.size_push]; omega, fun k hk _ => ?_⟩, fun b hb => ?_⟩
    · rw [List.length_append, g1.1, List.length_replicate]; omega
    · have := g1.1
      have hz1 : (Value.int .u8 0).cells.size = 1 := rfl
      simp only [Array.size_append, List.size_toArray, size_zeroCells, hz1, this]
      omega
    · have e : (cs.toArray ++ Builtin.zeroCells (Value.int .u8 0).cells c ++ Builtin.zeroCells (Value.int .u8 0).cells (grownCap w (n + c) cap E - (n + c))).toList = (cs ++ List.replicate c (.int .u8 0)) ++ (Builtin.zeroCells (Value.int .u8 0).cells (grownCap w (n + c) cap E - (n + c))).toList := by
        rw [Array.toList_append, Array.toList_append, hzc]
      rw [e]
      have hl : (n + c) * 1 = (cs ++ List.replicate c (Value.int .u8 0)).length := by rw [List.length_append, g1.1, List.length_replicate]; omega
      rw [hl]; exact List.take_left
    · show (w.heap.push _)[k]? = _
      rw [Array.getElem?_push, if_neg (by omega)]
    · simp only [Value.ownBlock, Option.some.injEq] at hb
      subst hb
      refine ⟨?_, .inr (Nat.le_refl _)⟩
      show w.heap.size < (w.heap.push _).size
      simp
  rcases id g1.2 with ⟨rfl, rfl⟩ | ⟨g, cap, cur, rfl, hbg, hg, hnc, hcm, hcs, htake⟩
  · have hcs0 : cs = [] := List.eq_nil_of_length_eq_zero (by have := g1.1; omega)
    subst hcs0
    by_cases h0 : c = 0
    · subst h0
      refine ⟨.slice none 0 0, w, ?_, ⟨rfl, .inl ⟨rfl, rfl⟩⟩, ⟨rfl, rfl, rfl, Nat.le_refl _, fun _ _ _ => rfl⟩, fun b hb => by simp [Value.ownBlock] at hb⟩
      simp [Builtin.append_, run_underlying hu, run_underlying hn, sizeOf, typeInfo, hi, asInt, asIntOf, hw0]
    · exact grow none 0 rfl (by simp [Builtin.firstCells]) (by omega)
  · by_cases hroom : n + c ≤ cap
    · have hcl : cs.length = n := by have := g1.1; omega
      have hfit : n + c ≤ cur.size := by omega
      have hst := run_storeCells_at P g n E (List.replicate c (Value.int .u8 0)) 0 cur w hg (by simp; omega) (fun u hu => by rw [List.eq_of_mem_replicate hu]; rfl)
      simp only [Nat.add_zero, List.length_replicate] at hst
      have hadd : (⟨g, 0, none⟩ : Addr).add n = ⟨g, n, none⟩ := by unfold Addr.add; split <;> simp_all
      have hrun : (Builtin.append_ #[t, tn] T #[.slice (some ⟨g, 0, none⟩) n cap, .int .i64 (c : Nat)]).run P w = .ok (.slice (some ⟨g, 0, none⟩) (n + c) cap) (w.setRow g (cur.toList.take n ++ List.replicate c (Value.int .u8 0) ++ cur.toList.drop (n + c)).toArray) := by
        by_cases h0 : c = 0
        · subst h0
          have hse : w.setRow g (cur.toList.take n ++ List.replicate 0 (Value.int .u8 0) ++ cur.toList.drop (n + 0)).toArray = w := by
            simp only [List.replicate_zero, List.append_nil, Nat.add_zero, List.take_append_drop, Array.toArray_toList]
            exact setRow_self w g cur E (0, 0) hg
          rw [hse]
          simp [Builtin.append_, run_underlying hu, run_underlying hn, sizeOf, typeInfo, hi, asInt, asIntOf, hw0, hnc, storeCells]
        · have hc0 : ¬ (c = 0) := h0
          simp [Builtin.append_, run_underlying hu, run_underlying hn, sizeOf, typeInfo, zeroValue, hi, hz, asInt, asIntOf, hw, hneg, h48i, hroom, hsz, hc0, hzc, hadd, hst]
      have hown' : (w.setRow g (cur.toList.take n ++ List.replicate c (Value.int .u8 0) ++ cur.toList.drop (n + c)).toArray).ownsRow 0 E 1 (.slice (some ⟨g, 0, none⟩) (n + c) cap) (n + c) (cs ++ List.replicate c (.int .u8 0)) := by
        refine ⟨by rw [List.length_append, g1.1, List.length_replicate]; omega, .inr ⟨g, cap, _, rfl, hbg, setRow_heap w g cur _ E _ hg, hroom, hcm, ?_, ?_⟩⟩
        · simp only [List.size_toArray, List.length_append, List.length_take, List.length_drop, Array.length_toList, List.length_replicate]
          omega
        · rw [Nat.mul_one] at htake ⊢
          rw [htake]
          have hl : n + c = (cs ++ List.replicate c (Value.int .u8 0)).length := by rw [List.length_append, hcl, List.length_replicate]
          conv => lhs; rw [hl]
          exact List.take_left
      refine ⟨_, _, hrun, hown', ⟨rfl, rfl, rfl, by simp, fun k _ hk => setRow_other w g k _ (fun e => hk (by simp [Value.ownBlock, e]))⟩, fun b hb => ?_⟩
      simp only [Value.ownBlock, Option.some.injEq] at hb
      subst hb
      refine ⟨?_, .inl rfl⟩
      rcases Nat.lt_or_ge g w.heap.size with h | h
      · simpa using h
      · rw [Array.getElem?_eq_none h] at hg; cases hg
    · refine grow (some ⟨g, 0, none⟩) cap rfl ?_ (by omega)
      have hcl : cs.length = n * ti.size := by rw [hsz]; exact g1.1
      refine run_firstCells_some (P := P) w.drew ti.size n ⟨g, 0, none⟩ n cap cs hcl fun j u hj => ?_
      have hadd : (⟨g, 0, none⟩ : Addr).add j = ⟨g, j, none⟩ := by unfold Addr.add; split <;> simp_all
      have hjl := cell_in hj
      show w.cell? _ = _
      rw [hadd, blk_cell hg]
      rw [← htake, List.getElem?_take] at hj
      split at hj
      · simpa using hj
      · cases hj
end
section
variable {K : Act → World → Prop} {X : Cx} {kk : List Item} {env : Env} {L L1 L2 : List A} {d : Nat} {T : TypeId} {pos : String} {af : Array Edge} {x y : Operand} {E : TypeId} {v : Value}
/-- append(x, make([]byte, c)...), x a row of one's own. -/
theorem s_append_zerosB {t tn : TypeId} {nb c : Nat} {zs : List UInt8} (hu : X.P.underlying t = some (.slice E)) (hn : X.P.underlying tn = some (.int .i64)) (hE : TI X.P E (.int .u8 0) 1 nb)
    (hx : env.eval x = some v) (hy : env.eval y = some (.int .i64 (c : Nat))) (hd : d < X.fn.ntmps) (hp : Pick (Own eByte E v zs) L L1) (hb : (zs.length + c) * nb ≤ 140737488355328) (hb2 : zs.length + c ≤ maxLen)
    (k : ∀ v', Kont X ((d, v') :: env) (Own eByte E v' (zs ++ List.replicate c 0) :: L1) K) :
    StepK X kk ⟨some d, .call ⟨.builtin .append, #[x, y], #[t, tn]⟩, T, pos, af, none⟩ env L K := by
  refine s_main (γ := Value) (V := fun u => u) (pu := fun _ => True) (L' := fun v' => Own eByte E v' (zs ++ List.replicate c 0) :: L1) ?_ hd (fun u _ => k u)
  intro a w O ha hst hdom
  obtain ⟨O1, O2, s, hO, hs2⟩ := hp w O hst
  obtain ⟨ti, hi, hz0, hsz, hbt⟩ := hE
  obtain ⟨P1, P2, cs, t1, g1, g2, g3⟩ := id hO
  obtain ⟨v', w', hrun, hown', hgr, hv'⟩ := append_zeros_core (P := X.P) (T := T) (t := t) (tn := tn) (c := c) hu hn hi hz0 hsz g1 (by rw [hbt]; exact hb) hb2
  obtain ⟨P, hP, hrel⟩ := own_grow (e := eByte) (a' := Pu True) (v' := v') (cs' := List.replicate c (Value.int .u8 0)) (ys := List.replicate c (0 : UInt8)) (O3 := fun _ => 0) (O4 := O2) hdom s hO ⟨fun _ => Nat.zero_le _, fun _ => Nat.le_refl _, fun _ h => by omega, fun _ _ => rfl⟩ trivial hs2 (bytes_zero c) (fun Q1 Q2 c0 _ h1 _ => by
    have : c0 = cs := by
      rcases h1.2 with ⟨rfl, h0⟩ | ⟨g, cap, cur, rfl, _, hg, _, _, _, htk⟩
      · have e1 := h1.1; have e2 := g1.1
        rw [h0, Nat.zero_mul] at e1 e2
        rw [List.eq_nil_of_length_eq_zero e1, List.eq_nil_of_length_eq_zero e2]
      · rcases g1.2 with ⟨h, _⟩ | ⟨g', cap', cur', h', _, hg', _, _, _, htk'⟩
        · cases h
        · cases h'
          rw [hg] at hg'; cases hg'
          rw [← htk, ← htk']
    rw [this, List.length_replicate]; exact hown') hgr hv'
  obtain ⟨Q1, Q2, sq, hq1, Q3, Q4, sq2, -, hq2⟩ := hP
  refine ⟨v', w', P, ?_, trivial, ⟨Q1, Q2, sq, hq1, hq2.mono fun b => sq2.r b⟩, hrel⟩
  have hruns : (Builtin.append_ #[t, tn] T #[a.eval x, a.eval y]).run X.P w = .ok v' w' := by rw [ha.eval hx, ha.eval hy]; exact hrun
  simp [execOp, resolve, invoke, builtin, hruns]
/-- make([]byte, n). -/
theorem s_makeBytes {t : TypeId} {nb n : Nat} {l c : Operand} (hu : X.P.underlying t = some (.slice E)) (hE : TI X.P E (.int .u8 0) 1 nb) (hl : env.eval l = some (.int .i64 (n : Nat))) (hc : env.eval c = some (.int .i64 (n : Nat))) (hb : nb * n ≤ 281474976710656) (hm : n ≤ maxLen) (hd : d < X.fn.ntmps)
    (k : ∀ v', Kont X ((d, v') :: env) (Own eByte E v' (List.replicate n 0) :: L) K) : StepK X kk ⟨some d, .makeSlice t l c, T, pos, af, none⟩ env L K := by
  refine s_main (γ := Value) (V := fun u => u) (pu := fun _ => True) (L' := fun v' => Own eByte E v' (List.replicate n 0) :: L) ?_ hd (fun u _ => k u)
  intro a w O ha hst hdom
  obtain ⟨ti, hi, hz0, hsz, hbt⟩ := hE
  have h63' : (n : Int) ≤ 9223372036854775807 := by simp only [maxLen] at hm; omega
  have hb' : (ti.bytes : Int) * (n : Int) ≤ 281474976710656 := by rw [hbt, ← Int.natCast_mul]; omega
  have hrun := run_make (P := X.P) w t E ti (.int .u8 0) hu hi hz0 .i64 .i64 n n (by omega) (Int.le_refl _) hb' h63'
  simp only [Int.toNat_natCast] at hrun
  have hmc : (madeCells (Value.int .u8 0).cells (n * ti.size)).toList = List.replicate n (Value.int .u8 0) := by
    rw [hsz, Nat.mul_one, ← zeroCells_u8]
    have : (Value.int .u8 0).cells = #[.int .u8 0] := rfl
    simp [madeCells, Builtin.zeroCells, this]
  refine ⟨.slice (some ⟨w.heap.size, 0, none⟩) n n, w.alloc (.cells (madeCells (Value.int .u8 0).cells (n * ti.size)) E), fresh w O, ?_, trivial, stars_alloc _ hdom hst ?_, rel_alloc _ hdom⟩
  · simp [execOp, ha.eval hl, ha.eval hc, hrun]
  · refine ⟨fun b => if b = w.heap.size then 2 else 0, fun _ => 0, List.replicate n (Value.int .u8 0), ⟨fun _ => Nat.le_refl _, fun _ => Nat.zero_le _, fun _ _ => rfl, fun _ h => by omega⟩, ⟨by rw [List.length_replicate, List.length_replicate]; exact (Nat.mul_one _).symm, .inr ⟨w.heap.size, n, _, by rw [List.length_replicate], Nat.zero_le _, heap_alloc w _, by rw [List.length_replicate]; exact Nat.le_refl _, hm, ?_, ?_⟩⟩, fun b hb => ?_, bytes_zero n⟩
    · have := congrArg List.length hmc
      rw [Array.length_toList, List.length_replicate] at this
      rw [this]; exact (Nat.mul_one _).symm
    · rw [hmc, List.length_replicate]
      exact List.take_of_length_le (by rw [List.length_replicate]; exact Nat.le_of_eq (Nat.mul_one _).symm)
    · simp only [Value.ownBlock, Option.some.injEq] at hb
      subst hb
      show 2 ≤ if w.heap.size = w.heap.size then 2 else 0
      rw [if_pos rfl]; exact Nat.le_refl _
/-- []byte("..") of a constant: the literal's row, marked. -/
theorem s_markBytes {t : TypeId} {zs : List UInt8} (hu : X.P.underlying t = some (.slice E)) (he : X.P.underlying E = some (.int .u8)) (hx : env.eval x = some v) (hp : Pick (Own eByte E v zs) L L1) (h0 : zs ≠ []) (hd : d < X.fn.ntmps)
    (k : Kont X ((d, v) :: env) (Sl eByte v zs :: L1) K) : StepK X kk ⟨some d, .convert t t x, T, pos, af, none⟩ env L K := by
  refine s_main (γ := Unit) (V := fun _ => v) (pu := fun _ => True) (L' := fun _ => Sl eByte v zs :: L1) ?_ hd (fun _ _ => k)
  intro a w O ha hst hdom
  obtain ⟨O1, O2, s, hO, hs2⟩ := hp w O hst
  obtain ⟨P1, P2, cs, t1, g1, g2, g3⟩ := id hO
  rcases g1.2 with ⟨-, h⟩ | ⟨g, cap, cur, rfl, hbg, hg, hnc, hcm, hcs, htake⟩
  · exact absurd (List.eq_nil_of_length_eq_zero h) h0
  have hb2 : 2 ≤ O1 g := Nat.le_trans (g2 g rfl) (t1.l g)
  have hglt : g < w.heap.size := by
    rcases Nat.lt_or_ge g w.heap.size with h | h
    · exact h
    · rw [Array.getElem?_eq_none h] at hg; cases hg
  obtain ⟨w', hw'⟩ : ∃ w', w' = w.freeze ⟨g, cur.size, none⟩ 1 := ⟨_, rfl⟩
  obtain ⟨f, hheap, hf⟩ : ∃ f : Obj → Obj, w'.heap = w.heap.modify g f ∧ f (.cells cur E (0, 0)) = .cells cur E (cur.size, cur.size + 1) := by
    have e : ∃ f : Obj → Obj, (w.freeze ⟨g, cur.size, none⟩ 1).heap = w.heap.modify g f ∧ f (.cells cur E (0, 0)) = .cells cur E (cur.size, cur.size + 1) := by
      unfold World.freeze
      rw [if_neg (by decide)]
      dsimp only
      exact ⟨_, rfl, rfl⟩
    rw [hw']; exact e
  have hget : w'.heap[g]? = some (.cells cur E (cur.size, cur.size + 1)) := by
    rw [hheap, Array.getElem?_modify, if_pos rfl, hg, Option.map_some, hf]
  have hoth : ∀ b, b ≠ g → w'.heap[b]? = w.heap[b]? := fun b hb => by rw [hheap, Array.getElem?_modify, if_neg (fun e => hb e.symm)]
  have hos : w'.os = w.os ∧ w'.tape = w.tape ∧ w'.output = w.output := by
    rw [hw']; unfold World.freeze; rw [if_neg (by decide)]; exact ⟨rfl, rfl, rfl⟩
  have hsz' : w'.heap.size = w.heap.size := by rw [hheap, Array.size_modify]
  have hrun : (convert t t (.slice (some ⟨g, 0, none⟩) zs.length cap)).run X.P w = .ok (.slice (some ⟨g, 0, none⟩) zs.length cap) w' := by
    have hsh : w.shape? g = some (E, cur.size) := by unfold World.shape?; rw [hg]
    simp [convert, run_underlying hu, run_underlying he, markStringish, hsh, hw']
  have hrel1 : Rel w O1 w' (fun b => min (O1 b) 1) := ⟨hos.1, hos.2.1, hos.2.2, by omega, fun b _ hlt => hoth b fun e => by subst e; omega, fun b _ => Nat.min_le_left _ _, fun b hb => by
    rw [hsz']
    exact hdom b (by have := s.l b; have hb' : min (O1 b) 1 ≠ 0 := hb; omega)⟩
  have hsl : (Sl eByte (.slice (some ⟨g, 0, none⟩) zs.length cap) zs).h w' (fun b => min (O1 b) 1) := by
    have hrows : cs = zs.map fun b => Value.int .u8 (b.toNat : Int) := by have := g3; rw [eByte_rows] at this; exact this
    refine ⟨some ⟨g, 0, none⟩, cap, rfl, hnc, hcm, .inr ⟨g, 0, cs, rfl, ?_, ?_, fun i u hi => ?_⟩⟩
    · show 1 ≤ min (O1 g) 1; omega
    · rw [eByte_rows]; exact hrows
    · have hil := cell_in hi
      rw [← htake, List.getElem?_take] at hi
      split at hi
      · rw [blk_cell hget]; simpa using hi
      · cases hi
  obtain ⟨P, hP, hrel⟩ := step_at hdom s hs2 hrel1 (L' := [Sl eByte (.slice (some ⟨g, 0, none⟩) zs.length cap) zs]) ⟨fun b => min (O1 b) 1, fun _ => 0, ⟨fun _ => Nat.le_refl _, fun _ => Nat.zero_le _, fun _ _ => rfl, fun _ h => by omega⟩, hsl, trivial⟩
  refine ⟨(), w', P, ?_, trivial, hP, hrel⟩
  simp [execOp, ha.eval hx, hrun]
end
section
variable {X : Cx} {ops : Array Oper} {kk : List Item} {env : Env} {L S : List A} {fuel : Nat} {listed : Array Bool}
end
end Go.SL
/- Chapter 16: alive. -/
namespace Go.Proofs.YtlfehnnmpkohkaaGreatDoor
open Go Go.SL Go.Lib
theorem own_sl {α : Type} {e : Enc α} {T : TypeId} {v : Value} {xs : List α} : Ent [Own e T v xs] [Sl e v xs] := fun w O hs => by
  obtain ⟨O1, O2, s, h1, _⟩ := hs
  exact ⟨O1, fun _ => 0, ⟨fun b => s.l b, fun _ => Nat.zero_le _, fun _ _ => rfl, fun _ h => absurd h (by simp)⟩, Own.sl h1, trivial⟩
theorem i64_0 : I64 0 := ⟨by decide, by decide⟩
theorem cntQ (k : Int) (h : I64 k) : CountQ (zeroQ k) := ⟨h, i64_0, i64_0, ⟨Nat.zero_le _, fun _ h => by cases h⟩, Nat.zero_le _, Nat.zero_le _, fun _ h => by cases h⟩
theorem cntA : CountS sA := ⟨⟨by decide, by decide⟩, ⟨by decide, by decide⟩, ⟨by decide, fun _ h => by cases h⟩, ⟨by decide, fun n hn => by rw [List.mem_singleton.1 hn]; exact ⟨by decide, by decide⟩⟩, by decide, by decide, fun n hn => by
  rw [List.mem_singleton.1 hn]
  exact ⟨⟨by decide, by decide⟩, by decide⟩⟩
theorem sizeA : SizeS sA := ⟨⟨by decide, fun _ h => by cases h⟩, by decide, by decide, by decide, fun n hn => by rw [List.mem_singleton.1 hn]; decide⟩
theorem fineA : FineQ (0, 0, 0, ⟨#[]⟩, ⟨#[]⟩, [], [], [pA6]) := ⟨by decide, by decide, by decide, ⟨by decide, fun _ h => by cases h⟩, by decide, fun p hp => by
  rw [List.mem_singleton.1 hp]
  exact ⟨by decide, by decide, ⟨by decide, fun _ h => by cases h⟩, by decide, fun _ h => by cases h⟩⟩
theorem fine0 (k : Int) : FineQ (zeroQ k) := ⟨Nat.zero_le _, Nat.zero_le _, Nat.zero_le _, ⟨Nat.zero_le _, fun _ h => by cases h⟩, Nat.zero_le _, fun _ h => by cases h⟩
attribute [local irreducible] Cfg Kont StepK Val Con Qops Any Sl Own Blk BlkR Rd Pu ExA AllA Has Pick Ent Elem Beside Callable TI Lone OwnO AndA
set_option maxHeartbeats 2000000 in
set_option maxRecDepth 100000 in
theorem alive_con (te : TypeId) (pe : Value) : Con Tryz.prog 11 [] [G1 te pe, G3] (γ := Unit) (fun _ => .bool true) (fun _ => True) (fun _ => []) := by
  have c1 := pack_con (zeroQ 7) (.slice none 0 0) (.slice none 0 0) (.slice none 0 0) (cntQ 7 ⟨by decide, by decide⟩) (by rw [alive_l]; decide)
  have c2 := fun v => unpack_con v (reqB (zeroQ 7)) (by rw [alive_l]; decide) te pe
  have q2 : unpackQ (reqB (zeroQ 7)) = zeroQ 7 := by unfold unpackQ unpackP; rw [if_neg (by rw [alive_l]; decide), alive_p]; rfl
  have e2 : unpackE (reqB (zeroQ 7)) = .int .i64 0 := by unfold unpackE; rw [if_neg (by rw [alive_l]; decide), alive_p]; rfl
  rw [q2, e2] at c2
  have c3 := fun v => unpack_con v [120] (by decide) te pe
  have q3 : unpackQ [120] = zeroQ 0 := by unfold unpackQ unpackP; rw [if_neg (by decide), alive_x]; rfl
  have e3 : unpackE [120] = .int .i64 160 := by unfold unpackE; rw [if_neg (by decide), alive_x]; rfl
  rw [q3, e3] at c3
  have hz : (List.replicate 3001 (0 : UInt8)).length = 3001 := List.length_replicate
  have c4 := fun v => unpack_con v (List.replicate 3001 0) (by rw [hz]; decide) te pe
  have q4 : unpackQ (List.replicate 3001 0) = zeroQ 0 := by unfold unpackQ unpackP; rw [if_pos (by rw [hz]; decide)]; rfl
  have e4 : unpackE (List.replicate 3001 0) = .int .i64 161 := by unfold unpackE; rw [if_pos (by rw [hz]; decide)]
  rw [q4, e4] at c4
  have c5 := fun i n => packRes_con sA (.slice none 0 0) i (.slice none 0 0) n cntA (by rw [alive_rl]; decide)
  have c6 := fun v => unpackRes_con v (resB sA) (by rw [alive_rl]; decide) te pe
  have q6 : resQ (resB sA) = sA := by unfold resQ; rw [alive_r]; rfl
  have e6 : errV 160 (resP (resB sA)).isSome = .int .i64 0 := by rw [alive_r]; rfl
  rw [q6, e6] at c6
  have c7 := fun l i t n i' n' => sameRes_con sA sA l i t n (.slice none 0 0) i' (.slice none 0 0) n' sizeA sizeA
  have c8 := fun l => reqRight_con (0, 0, 0, ⟨#[]⟩, ⟨#[]⟩, [], [], [pA6]) (.slice none 0 0) (.slice none 0 0) l fineA
  have c9 := reqRight_con (zeroQ 0) (.slice none 0 0) (.slice none 0 0) (.slice none 0 0) (fine0 0)
  have cA := fun d f l => sameReq_con (zeroQ 7) (zeroQ 7) d f l (.slice none 0 0) (.slice none 0 0) (.slice none 0 0) (zeroQ_size 7) (zeroQ_size 7)
  rw [decide_eq_true rightA] at c8
  rw [decide_eq_false right0] at c9
  have hb := alive_b
  generalize reqB (zeroQ 7) = bq at c1 c2 hb
  generalize resB sA = br at c5 c6
  unfold sA aA at c5 c6 c7
  unfold pA6 aA at c8
  dsimp only [rqC, rsC] at c1 c2 c3 c4 c5 c6 c7 c8 c9 cA
  refine con_of Tryz.func11 rfl (dd rfl) fun w0 O0 => ?_
  refine c_seq ?_
  refine c_region ?_
  refine o_val (v_assign rfl) (dd rfl) ?_
  refine o_nil ?_
  refine c_seq ?_
  refine c_region ?_
  refine o_val (v_buildS (places := [(0, 1), (1, 1), (2, 1), (3, 1), (4, 1), (5, 1), (6, 1), (7, 1)]) (cells := [_, .int .i64 0, .int .i64 0, .string ⟨#[]⟩, .string ⟨#[]⟩, .slice none 0 0, .slice none 0 0, .slice none 0 0]) Tryz.underlying32 ti32 (by kernel_rfl) rfl (by repeat (first | exact PartsC.nil | (apply PartsC.one (by first | exact OneC.lit rfl | exact OneC.sl (hX (by repeat constructor)) )) | (apply PartsC.lit rfl))) rfl) (dd rfl) ?_
  refine o_step (s_callf cl18 (c1) rfl (dd rfl) (pXs (by repeat constructor)) fun v1 _ => ?_)
  refine o_val (v_assign rfl) (dd rfl) ?_
  refine o_nil ?_
  refine c_seq ?_
  refine c_region ?_
  refine o_val (v_move rfl) (dd rfl) ?_
  refine o_mk (own_sl (e := eByte) (v := v1)) (pXs (by repeat constructor)) ?_
  refine o_step (s_callf cl20 (c2 v1) rfl (dd rfl) (pXs (by repeat constructor)) fun g2 _ => ?_)
  refine o_val (v_move rfl) (dd rfl) ?_
  refine o_val (v_extract rfl rfl) (dd rfl) ?_
  refine o_val (v_extract rfl rfl) (dd rfl) ?_
  refine o_step (s_alloc ti32 (dd rfl) (fun b2 => ?_))
  refine o_step (s_store_all ti32 rfl rfl (by first | exact CellsV.lit rfl | exact CellsV.one (by first | exact OneC.lit rfl | exact OneC.sl (hX (by repeat constructor)) )) (by repeat (first | exact OneAll.nil | (refine OneAll.cons ?_ ?_; · first | exact OneC.lit rfl | exact OneC.sl (hX (by repeat constructor)) ) | exact OneAll.rd (hX (by repeat constructor)))) rfl (pB (by repeat constructor)) rfl (?_))
  refine o_val (v_assign rfl) (dd rfl) ?_
  refine o_nil ?_
  refine c_seq ?_
  refine c_region ?_
  refine o_step (s_buildSlice Tryz.underlying38 ti5 rfl rfl rfl (by decide) (by decide) (beside_byte [120]) rfl rfl (dd rfl) fun v3 => ?_)
  refine o_step (s_markBytes Tryz.underlying38 Tryz.underlying5 rfl (pX (by repeat constructor)) (by decide) (dd rfl) ?_)
  refine o_step (s_callf cl20 (c3 v3) rfl (dd rfl) (pXs (by repeat constructor)) fun g3 _ => ?_)
  refine o_val (v_move rfl) (dd rfl) ?_
  refine o_val (v_extract rfl rfl) (dd rfl) ?_
  refine o_val (v_extract rfl rfl) (dd rfl) ?_
  refine o_step (s_alloc ti32 (dd rfl) (fun b4 => ?_))
  refine o_step (s_store_all ti32 rfl rfl (by first | exact CellsV.lit rfl | exact CellsV.one (by first | exact OneC.lit rfl | exact OneC.sl (hX (by repeat constructor)) )) (by repeat (first | exact OneAll.nil | (refine OneAll.cons ?_ ?_; · first | exact OneC.lit rfl | exact OneC.sl (hX (by repeat constructor)) ) | exact OneAll.rd (hX (by repeat constructor)))) rfl (pB (by repeat constructor)) rfl (?_))
  refine o_val (v_assign rfl) (dd rfl) ?_
  refine o_nil ?_
  refine c_seq ?_
  refine c_region ?_
  refine o_step (s_makeBytes (n := 3001) Tryz.underlying38 ti5 rfl rfl (by decide) (by decide) (dd rfl) fun v4 => ?_)
  refine o_step (s_callf cl20 (c4 v4) rfl (dd rfl) (pXs (by repeat constructor)) fun g4 _ => ?_)
  refine o_val (v_move rfl) (dd rfl) ?_
  refine o_val (v_extract rfl rfl) (dd rfl) ?_
  refine o_val (v_extract rfl rfl) (dd rfl) ?_
  refine o_step (s_alloc ti32 (dd rfl) (fun b6 => ?_))
  refine o_step (s_store_all ti32 rfl rfl (by first | exact CellsV.lit rfl | exact CellsV.one (by first | exact OneC.lit rfl | exact OneC.sl (hX (by repeat constructor)) )) (by repeat (first | exact OneAll.nil | (refine OneAll.cons ?_ ?_; · first | exact OneC.lit rfl | exact OneC.sl (hX (by repeat constructor)) ) | exact OneAll.rd (hX (by repeat constructor)))) rfl (pB (by repeat constructor)) rfl (?_))
  refine o_val (v_assign rfl) (dd rfl) ?_
  refine o_nil ?_
  refine c_seq ?_
  refine c_region ?_
  refine o_step (s_buildSlice Tryz.underlying22 ti3 rfl rfl rfl (by decide) (by decide) (beside_int .i64 [4]) rfl rfl (dd rfl) fun w1 => ?_)
  refine o_mk (own_sl (e := eInt .i64) (v := w1)) (pXs (by repeat constructor)) ?_
  refine o_step (s_buildSlice Tryz.underlying23 ti9 rfl rfl rfl (by decide) (by decide) (beside_str [⟨#[97]⟩]) rfl rfl (dd rfl) fun w2 => ?_)
  refine o_val (v_buildS (places := [(0, 1), (1, 1), (2, 1)]) (cells := [_, _, .bool false]) Tryz.underlying72 ti72 (by kernel_rfl) rfl (by repeat (first | exact PartsC.nil | (apply PartsC.one (by first | exact OneC.lit rfl | exact OneC.sl (hX (by repeat constructor)) )) | (apply PartsC.lit rfl))) rfl) (dd rfl) ?_
  refine o_mk (own_sl (e := eStr) (v := w2)) (pXs (by repeat constructor)) ?_
  refine o_step (s_buildSlice Tryz.underlying53 ti72 rfl rfl rfl (by decide) (by decide) (beside_agg1 (beside_of (Lp := [Sl eStr w2 [⟨#[97]⟩]]) (pXs (by repeat constructor)) fun w O => nt_rd w O)) rfl rfl (dd rfl) fun w3 => ?_)
  refine o_val (v_buildS (places := [(0, 1), (1, 1), (2, 1), (3, 1), (4, 1), (5, 1)]) (cells := [_, _, .slice none 0 0, _, .slice none 0 0, _]) Tryz.underlying55 ti55 (by kernel_rfl) rfl (by repeat (first | exact PartsC.nil | (apply PartsC.one (by first | exact OneC.lit rfl | exact OneC.sl (hX (by repeat constructor)) )) | (apply PartsC.lit rfl))) rfl) (dd rfl) ?_
  refine o_step (s_alloc ti55 (dd rfl) (fun b8 => ?_))
  refine o_step (s_store_all ti55 rfl rfl (by first | exact CellsV.lit rfl | exact CellsV.one (by first | exact OneC.lit rfl | exact OneC.sl (hX (by repeat constructor)) )) (by repeat (first | exact OneAll.nil | (refine OneAll.cons ?_ ?_; · first | exact OneC.lit rfl | exact OneC.sl (hX (by repeat constructor)) ) | exact OneAll.rd (hX (by repeat constructor)))) rfl (pB (by repeat constructor)) rfl (?_))
  refine o_nil ?_
  refine c_seq ?_
  refine c_region ?_
  refine o_val (v_load_all ⟨_, Tryz.underlying55⟩ ti55 rfl (hX (by repeat constructor)) rfl) (dd rfl) ?_
  refine o_mk (own_sl (e := eNt) (v := w3)) (pXs (by repeat constructor)) ?_
  refine o_step (s_callf cl26 (c5 w1 w3) rfl (dd rfl) (pXs (by repeat constructor)) fun u1 _ => ?_)
  refine o_step (s_callf cl30 (c6 u1) rfl (dd rfl) (pXs (by repeat constructor)) fun g6 _ => ?_)
  refine o_val (v_move rfl) (dd rfl) ?_
  refine o_val (v_extract rfl rfl) (dd rfl) ?_
  refine o_val (v_extract rfl rfl) (dd rfl) ?_
  refine o_step (s_alloc ti55 (dd rfl) (fun b9 => ?_))
  refine o_step (s_store_all ti55 rfl rfl (by first | exact CellsV.lit rfl | exact CellsV.one (by first | exact OneC.lit rfl | exact OneC.sl (hX (by repeat constructor)) )) (by repeat (first | exact OneAll.nil | (refine OneAll.cons ?_ ?_; · first | exact OneC.lit rfl | exact OneC.sl (hX (by repeat constructor)) ) | exact OneAll.rd (hX (by repeat constructor)))) rfl (pB (by repeat constructor)) rfl (?_))
  refine o_val (v_assign rfl) (dd rfl) ?_
  refine o_nil ?_
  refine c_seq ?_
  refine c_region ?_
  refine o_val (v_move rfl) (dd rfl) ?_
  refine o_val (v_conv_bytes Tryz.underlying38 Tryz.underlying5 Tryz.underlying9 rfl (hX (by repeat constructor))) (dd rfl) ?_
  refine o_val (v_seq rfl rfl) (dd rfl) ?_
  refine o_val (v_move rfl) (dd rfl) ?_
  refine o_guard rfl rfl (fun _ => ?_) (fun h_ => absurd ((show _ = true from decide_eq_true hb).symm.trans h_) (by decide))
  refine o_val (v_move rfl) (dd rfl) ?_
  refine o_on rfl rfl ?_
  refine o_val (v_eq rfl rfl) (dd rfl) ?_
  refine o_val (v_pick_t rfl rfl) (dd rfl) ?_
  refine o_val (v_move rfl) (dd rfl) ?_
  refine o_guard rfl rfl (fun _ => ?_) (fun h_ => absurd ((show _ = true from rfl).symm.trans h_) (by decide))
  refine o_val (v_fieldAddrC 0 Tryz.underlying32 rfl ti3 (by decide) rfl) (dd rfl) ?_
  refine o_on rfl rfl ?_
  refine o_val (v_load lone3 rfl (hX (by repeat constructor)) rfl) (dd rfl) ?_
  refine o_on rfl rfl ?_
  refine o_val (v_eq rfl rfl) (dd rfl) ?_
  refine o_val (v_pick_t rfl rfl) (dd rfl) ?_
  refine o_val (v_move rfl) (dd rfl) ?_
  refine o_guard rfl rfl (fun _ => ?_) (fun h_ => absurd ((show _ = true from rfl).symm.trans h_) (by decide))
  refine o_val (v_move rfl) (dd rfl) ?_
  refine o_on rfl rfl ?_
  refine o_val (v_eq rfl rfl) (dd rfl) ?_
  refine o_val (v_pick_t rfl rfl) (dd rfl) ?_
  refine o_val (v_move rfl) (dd rfl) ?_
  refine o_guard rfl rfl (fun _ => ?_) (fun h_ => absurd ((show _ = true from rfl).symm.trans h_) (by decide))
  refine o_val (v_move rfl) (dd rfl) ?_
  refine o_on rfl rfl ?_
  refine o_val (v_eq rfl rfl) (dd rfl) ?_
  refine o_val (v_pick_t rfl rfl) (dd rfl) ?_
  refine o_val (v_move rfl) (dd rfl) ?_
  refine o_guard rfl rfl (fun _ => ?_) (fun h_ => absurd ((show _ = true from rfl).symm.trans h_) (by decide))
  refine o_val (v_move rfl) (dd rfl) ?_
  refine o_on rfl rfl ?_
  refine o_val (v_eq rfl rfl) (dd rfl) ?_
  refine o_val (v_pick_t rfl rfl) (dd rfl) ?_
  refine o_val (v_move rfl) (dd rfl) ?_
  refine o_guard rfl rfl (fun _ => ?_) (fun h_ => absurd ((show _ = true from rfl).symm.trans h_) (by decide))
  refine o_val (v_load_all ⟨_, Tryz.underlying55⟩ ti55 rfl (hX (by repeat constructor)) rfl) (dd rfl) ?_
  refine o_on rfl rfl ?_
  refine o_val (v_load_all ⟨_, Tryz.underlying55⟩ ti55 rfl (hX (by repeat constructor)) rfl) (dd rfl) ?_
  refine o_on rfl rfl ?_
  refine o_step (s_callf cl34 (c7 g6.1 g6.2.1 g6.2.2.1 g6.2.2.2 w1 w3) rfl (dd rfl) (pXs (by repeat constructor)) fun _ _ => ?_)
  refine o_val (v_pick_t rfl rfl) (dd rfl) ?_
  refine o_val (v_move rfl) (dd rfl) ?_
  refine o_guard rfl rfl (fun _ => ?_) (fun h_ => absurd ((show _ = true from decide_eq_true rfl).symm.trans h_) (by decide))
  refine o_val (v_buildS (places := [(0, 1), (1, 1), (2, 1), (3, 1), (4, 1), (5, 1)]) (cells := [_, _, .string ⟨#[]⟩, .int .i64 0, .slice none 0 0, .slice none 0 0]) Tryz.underlying74 ti74 (by kernel_rfl) rfl (by repeat (first | exact PartsC.nil | (apply PartsC.one (by first | exact OneC.lit rfl | exact OneC.sl (hX (by repeat constructor)) )) | (apply PartsC.lit rfl))) rfl) (dd rfl) ?_
  refine o_on rfl rfl ?_
  refine o_step (s_buildSlice Tryz.underlying30 ti74 rfl rfl rfl (by decide) (by decide) (beside_agg1 (beside_of (Lp := [Sl eStr (.slice none 0 0) [], Sl eStr (.slice none 0 0) []]) (pXs (by repeat constructor)) fun w O => pr_close (z := (1, ⟨#[97]⟩, ⟨#[]⟩, 0, [], [])) w O)) rfl rfl (dd rfl) fun w4 => ?_)
  refine o_on rfl rfl ?_
  refine o_val (v_buildS (places := [(0, 1), (1, 1), (2, 1), (3, 1), (4, 1), (5, 1), (6, 1), (7, 1)]) (cells := [_, .int .i64 0, .int .i64 0, .string ⟨#[]⟩, .string ⟨#[]⟩, .slice none 0 0, .slice none 0 0, _]) Tryz.underlying32 ti32 (by kernel_rfl) rfl (by repeat (first | exact PartsC.nil | (apply PartsC.one (by first | exact OneC.lit rfl | exact OneC.sl (hX (by repeat constructor)) )) | (apply PartsC.lit rfl))) rfl) (dd rfl) ?_
  refine o_on rfl rfl ?_
  refine o_step (s_callf cl12 (c8 w4) rfl (dd rfl) (pXs (by repeat constructor)) fun _ _ => ?_)
  refine o_val (v_pick_t rfl rfl) (dd rfl) ?_
  refine o_val (v_move rfl) (dd rfl) ?_
  refine o_guard rfl rfl (fun _ => ?_) (fun h_ => absurd ((show _ = true from rfl).symm.trans h_) (by decide))
  refine o_val (v_buildS (places := [(0, 1), (1, 1), (2, 1), (3, 1), (4, 1), (5, 1), (6, 1), (7, 1)]) (cells := [_, .int .i64 0, .int .i64 0, .string ⟨#[]⟩, .string ⟨#[]⟩, .slice none 0 0, .slice none 0 0, .slice none 0 0]) Tryz.underlying32 ti32 (by kernel_rfl) rfl (by repeat (first | exact PartsC.nil | (apply PartsC.one (by first | exact OneC.lit rfl | exact OneC.sl (hX (by repeat constructor)) )) | (apply PartsC.lit rfl))) rfl) (dd rfl) ?_
  refine o_on rfl rfl ?_
  refine o_step (s_callf cl12 (c9) rfl (dd rfl) (pXs (by repeat constructor)) fun _ _ => ?_)
  refine o_on rfl rfl ?_
  refine o_val (v_not rfl) (dd rfl) ?_
  refine o_val (v_pick_t rfl rfl) (dd rfl) ?_
  refine o_val (v_move rfl) (dd rfl) ?_
  refine o_guard rfl rfl (fun _ => ?_) (fun h_ => absurd ((show _ = true from rfl).symm.trans h_) (by decide))
  refine o_step (s_callf_keep cl17 (writes6_con 6) rfl (dd rfl) (rX (by repeat constructor)) (fun _ => sX) (fun _ _ => ?_))
  refine o_val (v_pick_t rfl rfl) (dd rfl) ?_
  refine o_val (v_move rfl) (dd rfl) ?_
  refine o_guard rfl rfl (fun _ => ?_) (fun h_ => absurd ((show _ = true from decide_eq_true (by decide)).symm.trans h_) (by decide))
  refine o_step (s_callf_keep cl17 (writes6_con 7) rfl (dd rfl) (rX (by repeat constructor)) (fun _ => sX) (fun _ _ => ?_))
  refine o_on rfl rfl ?_
  refine o_val (v_not rfl) (dd rfl) ?_
  refine o_val (v_pick_t rfl rfl) (dd rfl) ?_
  refine o_val (v_move rfl) (dd rfl) ?_
  refine o_guard rfl rfl (fun _ => ?_) (fun h_ => absurd ((show _ = true from (by rw [decide_eq_false (by decide)]; rfl)).symm.trans h_) (by decide))
  refine o_val (v_load_all ⟨_, Tryz.underlying32⟩ ti32 rfl (hX (by repeat constructor)) rfl) (dd rfl) ?_
  refine o_on rfl rfl ?_
  refine o_val (v_buildS (places := [(0, 1), (1, 1), (2, 1), (3, 1), (4, 1), (5, 1), (6, 1), (7, 1)]) (cells := [_, .int .i64 0, .int .i64 0, .string ⟨#[]⟩, .string ⟨#[]⟩, .slice none 0 0, .slice none 0 0, .slice none 0 0]) Tryz.underlying32 ti32 (by kernel_rfl) rfl (by repeat (first | exact PartsC.nil | (apply PartsC.one (by first | exact OneC.lit rfl | exact OneC.sl (hX (by repeat constructor)) )) | (apply PartsC.lit rfl))) rfl) (dd rfl) ?_
  refine o_on rfl rfl ?_
  refine o_step (s_callf cl15 (cA g2.1 g2.2.1 g2.2.2) rfl (dd rfl) (pXs (by repeat constructor)) fun _ _ => ?_)
  refine o_val (v_pick_t rfl rfl) (dd rfl) ?_
  refine o_val (v_assign rfl) (dd rfl) ?_
  refine o_nil ?_
  refine c_ret1 Tryz.func11 rfl rfl fun w O hS => ?_
  exact ⟨(), congrArg Value.bool (decide_eq_true rfl), trivial, trivial⟩
end Go.Proofs.YtlfehnnmpkohkaaGreatDoor
/- Chapter 16: ReqUnpacks. -/
namespace Go.Proofs.YtlfehnnmpkohkaaGreatDoor
open Go Go.SL Go.Lib
theorem zero_l : (reqB (zeroQ 0)).length = 18 := by decide +kernel
theorem parseQ_size {l : List UInt8} (hl : l.length ≤ big9) : SizeQ (parseQ l) ∧ FineQ (parseQ l) ∧ CountQ (parseQ l) ∧ (reqB (parseQ l)).length ≤ 100000000 := by
  obtain ⟨h1, h2, h3⟩ := rq_raw (s := (l, false)) hl
  unfold parseQ parseP
  split
  · exact ⟨h1.size, h1, h2, h3⟩
  · exact ⟨zeroQ_size 0, fine0 0, cntQ 0 i64_0, by show (reqB (zeroQ 0)).length ≤ _; rw [zero_l]; decide⟩
attribute [local irreducible] Cfg Kont StepK Val Con Qops Any Sl Own Blk BlkR Rd Pu ExA AllA Has Pick Ent Elem Beside Callable TI Lone OwnO AndA
end Go.Proofs.YtlfehnnmpkohkaaGreatDoor
/- Chapter 16: ReqLimits, ReqParses. -/
namespace Go.Proofs.YtlfehnnmpkohkaaGreatDoor
open Go Go.SL Go.Lib
attribute [local irreducible] Cfg Kont StepK Val Con Qops Any Sl Own Blk BlkR Rd Pu ExA AllA Has Pick Ent Elem Beside Callable TI Lone OwnO AndA
set_option maxHeartbeats 2000000 in
set_option maxRecDepth 100000 in
theorem limits_con (v : Value) (l : List UInt8) (m : Int) (te : TypeId) (pe : Value) (hl : l.length ≤ 140737488355328) : Con Tryz.prog 9 [v, .int .i64 m] [Sl eByte v l, G1 te pe, G3] (γ := Unit) (fun _ => .bool true) (fun _ => True) (fun _ => []) := by
  have hal := alive_con te pe
  refine con_of Tryz.func9 rfl (dd rfl) fun w0 O0 => ?_
  refine c_seq ?_
  refine c_region ?_
  refine o_val (v_assign rfl) (dd rfl) ?_
  refine o_nil ?_
  refine c_seq ?_
  refine c_seq ?_
  refine c_env (env' := [(0, _), (1, _), (4, _)]) (by repeat (first | exact trivial | refine ⟨rfl, ?_⟩)) ?_
  refine c_joinb (d := 20) (decide (3000 < l.length ∨ m < 0 ∨ 4000 < m)) ?_ ?_
  rotate_left
  · intro J
    refine c_region ?_
    refine o_val (v_move rfl) (dd rfl) ?_
    refine o_val ((by first | exact v_len_form Tryz.underlying38 rfl | exact v_len_sl Tryz.underlying38 rfl (hX (by repeat constructor)))) (dd rfl) ?_
    refine o_val (v_gt rfl rfl) (dd rfl) ?_
    refine o_val (v_move rfl) (dd rfl) ?_
    first | refine o_guard_f rfl rfl (fun g13 => ?_) (fun g13 => ?_) | refine o_guard rfl rfl (fun g13 => ?_) (fun g13 => ?_)
    · refine o_val (v_move rfl) (dd rfl) ?_
      refine o_on rfl rfl ?_
      refine o_val (v_lt rfl rfl) (dd rfl) ?_
      refine o_val (v_pick_f rfl rfl) (dd rfl) ?_
      refine o_val (v_move rfl) (dd rfl) ?_
      first | refine o_guard_f rfl rfl (fun g17 => ?_) (fun g17 => ?_) | refine o_guard rfl rfl (fun g17 => ?_) (fun g17 => ?_)
      · refine o_val (v_move rfl) (dd rfl) ?_
        refine o_on rfl rfl ?_
        refine o_val (v_gt rfl rfl) (dd rfl) ?_
        refine o_val (v_pick_f rfl rfl) (dd rfl) ?_
        refine o_nil ?_
        exact c_use J ⟨Env.as rfl (congrArg Value.bool (by clear hal; first | rfl | (simp_all; done) | (simp_all; omega) | exact (decide_eq_true (by omega)).symm | exact decide_eq_decide.2 (by omega))), (by repeat (first | exact trivial | refine ⟨rfl, ?_⟩))⟩ (by first | exact Ent.refl _ | exact eX (by repeat constructor))
      · refine o_off rfl rfl rfl (dd rfl) ?_
        refine o_off rfl rfl rfl (dd rfl) ?_
        refine o_val (v_pick_t rfl rfl) (dd rfl) ?_
        refine o_nil ?_
        exact c_use J ⟨Env.as rfl (congrArg Value.bool (by clear hal; first | rfl | (simp_all; done) | (simp_all; omega) | exact (decide_eq_true (by omega)).symm | exact decide_eq_decide.2 (by omega))), (by repeat (first | exact trivial | refine ⟨rfl, ?_⟩))⟩ (by first | exact Ent.refl _ | exact eX (by repeat constructor))
    · refine o_off rfl rfl rfl (dd rfl) ?_
      refine o_off rfl rfl rfl (dd rfl) ?_
      refine o_val (v_pick_t rfl rfl) (dd rfl) ?_
      refine o_val (v_move rfl) (dd rfl) ?_
      refine o_off rfl rfl rfl (dd rfl) ?_
      refine o_off rfl rfl rfl (dd rfl) ?_
      refine o_val (v_pick_t rfl rfl) (dd rfl) ?_
      refine o_nil ?_
      exact c_use J ⟨Env.as rfl (congrArg Value.bool (by clear hal; first | rfl | (simp_all; done) | (simp_all; omega) | exact (decide_eq_true (by omega)).symm | exact decide_eq_decide.2 (by omega))), (by repeat (first | exact trivial | refine ⟨rfl, ?_⟩))⟩ (by first | exact Ent.refl _ | exact eX (by repeat constructor))
  refine c_cond_p rfl (fun h => ?_) (fun h => ?_)
  · refine c_seq ?_
    refine c_region ?_
    refine o_step (s_callf cl11 (hal) rfl (dd rfl) (pXs (by repeat constructor)) fun _ _ => ?_)
    refine o_val (v_assign rfl) (dd rfl) ?_
    refine o_nil ?_
    refine c_ret1 Tryz.func9 rfl rfl fun w O hS => ?_
    exact ⟨(), rfl, trivial, trivial⟩
  · obtain ⟨n, rfl⟩ : ∃ n : Nat, m = n := ⟨m.toNat, by omega⟩
    obtain ⟨c, hc⟩ : ∃ c, c = l ++ List.replicate n (0 : UInt8) := ⟨_, rfl⟩
    have hcl : c.length = l.length + n := by rw [hc, List.length_append, List.length_replicate]
    have hl9 : c.length ≤ big9 := by unfold big9; omega
    obtain ⟨zq, -, -, -⟩ := parseQ_size hl9
    have k1 := fun v => unpack_con v c hl9 te pe
    have k3 := fun v => parse_con v c hl9 te pe
    refine c_skip ?_
    refine c_seq ?_
    refine c_region ?_
    refine o_step (s_buildSlice Tryz.underlying38 ti5 rfl rfl rfl (by decide) (by decide) (beside_byte []) rfl rfl (dd rfl) fun v1 => ?_)
    refine o_val (v_move rfl) (dd rfl) ?_
    refine o_step (s_append Tryz.underlying38 ti5 rfl (by decide) rfl rfl (dd rfl) (pB (by repeat constructor)) (pX (by repeat constructor)) rfl (by (first | omega | (simp only [maxLen, List.length_append, List.length_drop, List.length_take, List.length_nil, List.length_cons]; omega))) (by (first | omega | (simp only [maxLen, List.length_append, List.length_drop, List.length_take, List.length_nil, List.length_cons]; omega))) fun v2 => ?_)
    refine o_val (v_move rfl) (dd rfl) ?_
    rw [List.nil_append]
    refine o_step (s_append_zerosB (c := n) Tryz.underlying38 Tryz.underlying3 ti5 rfl rfl (dd rfl) (pX (by repeat constructor)) (by omega) (by simp only [maxLen]; omega) fun v3 => ?_)
    refine o_val (v_assign rfl) (dd rfl) ?_
    refine o_nil ?_
    refine c_seq ?_
    refine c_region ?_
    refine o_val (v_move rfl) (dd rfl) ?_
    rw [← hc]
    refine o_mk (own_sl (e := eByte) (v := v3)) (pXs (by repeat constructor)) ?_
    by_cases h3 : 3000 < c.length
    · have hq : unpackQ c = zeroQ 0 := by unfold unpackQ unpackP; rw [if_pos h3]; rfl
      have he : unpackE c = .int .i64 161 := by unfold unpackE; rw [if_pos h3]
      rw [hq, he] at k1
      have s1 := fun d f l => sameReq_con (zeroQ 0) (zeroQ 0) d f l (.slice none 0 0) (.slice none 0 0) (.slice none 0 0) (zeroQ_size 0) (zeroQ_size 0)
      generalize parseQ c = q at k3 zq
      unfold errV at k3
      dsimp only [rqC] at k1 k3 s1
      refine o_step (s_callf cl20 (k1 v3) rfl (dd rfl) (pXs (by repeat constructor)) fun g1 _ => ?_)
      refine o_val (v_move rfl) (dd rfl) ?_
      refine o_val (v_extract rfl rfl) (dd rfl) ?_
      refine o_val (v_extract rfl rfl) (dd rfl) ?_
      refine o_step (s_alloc ti32 (dd rfl) (fun b6 => ?_))
      refine o_step (s_store_all ti32 rfl rfl (by first | exact CellsV.lit rfl | exact CellsV.one (by first | exact OneC.lit rfl | exact OneC.sl (hX (by repeat constructor)) )) (by repeat (first | exact OneAll.nil | (refine OneAll.cons ?_ ?_; · first | exact OneC.lit rfl | exact OneC.sl (hX (by repeat constructor)) ) | exact OneAll.rd (hX (by repeat constructor)))) rfl (pB (by repeat constructor)) rfl (?_))
      refine o_val (v_assign rfl) (dd rfl) ?_
      refine o_nil ?_
      refine c_seq ?_
      refine c_region ?_
      refine o_val (v_move rfl) (dd rfl) ?_
      refine o_step (s_callf cl23 (k3 v3) rfl (dd rfl) (pXs (by repeat constructor)) fun g3 _ => ?_)
      refine o_val (v_move rfl) (dd rfl) ?_
      refine o_val (v_extract rfl rfl) (dd rfl) ?_
      refine o_val (v_extract rfl rfl) (dd rfl) ?_
      refine o_step (s_alloc ti32 (dd rfl) (fun b8 => ?_))
      refine o_step (s_store_all ti32 rfl rfl (by first | exact CellsV.lit rfl | exact CellsV.one (by first | exact OneC.lit rfl | exact OneC.sl (hX (by repeat constructor)) )) (by repeat (first | exact OneAll.nil | (refine OneAll.cons ?_ ?_; · first | exact OneC.lit rfl | exact OneC.sl (hX (by repeat constructor)) ) | exact OneAll.rd (hX (by repeat constructor)))) rfl (pB (by repeat constructor)) rfl (?_))
      refine o_val (v_assign rfl) (dd rfl) ?_
      refine o_nil ?_
      refine c_seq ?_
      refine c_seq ?_
      refine c_region ?_
      refine o_val (v_move rfl) (dd rfl) ?_
      refine o_val ((by first | exact v_len_form Tryz.underlying38 rfl | exact v_len_sl Tryz.underlying38 rfl (hX (by repeat constructor)))) (dd rfl) ?_
      refine o_val (v_gt rfl rfl) (dd rfl) ?_
      refine o_nil ?_
      refine c_cond_p rfl (fun h4 => ?_) (fun h4 => ?_)
      · refine c_seq ?_
        refine c_region ?_
        refine o_step (s_callf cl11 (hal) rfl (dd rfl) (pXs (by repeat constructor)) fun _ _ => ?_)
        refine o_val (v_move rfl) (dd rfl) ?_
        refine o_guard rfl rfl (fun _ => ?_) (fun h_ => absurd ((show _ = true from rfl).symm.trans h_) (by decide))
        refine o_val (v_move rfl) (dd rfl) ?_
        refine o_on rfl rfl ?_
        refine o_val (v_eq rfl rfl) (dd rfl) ?_
        refine o_val (v_pick_t rfl rfl) (dd rfl) ?_
        refine o_val (v_move rfl) (dd rfl) ?_
        refine o_guard rfl rfl (fun _ => ?_) (fun h_ => absurd ((show _ = true from (decide_eq_true rfl)).symm.trans h_) (by decide))
        refine o_val (v_load_all ⟨_, Tryz.underlying32⟩ ti32 rfl (hX (by repeat constructor)) rfl) (dd rfl) ?_
        refine o_on rfl rfl ?_
        refine o_val (v_buildS (places := [(0, 1), (1, 1), (2, 1), (3, 1), (4, 1), (5, 1), (6, 1), (7, 1)]) (cells := [.int .i64 0, .int .i64 0, .int .i64 0, .string ⟨#[]⟩, .string ⟨#[]⟩, .slice none 0 0, .slice none 0 0, .slice none 0 0]) Tryz.underlying32 ti32 (by kernel_rfl) rfl (by repeat (first | exact PartsC.nil | (apply PartsC.one (by first | exact OneC.lit rfl | exact OneC.sl (hX (by repeat constructor)) )) | (apply PartsC.lit rfl))) rfl) (dd rfl) ?_
        refine o_on rfl rfl ?_
        refine o_step (s_callf cl15 (s1 g1.1 g1.2.1 g1.2.2) rfl (dd rfl) (pXs (by repeat constructor)) fun _ _ => ?_)
        refine o_val (v_pick_t rfl rfl) (dd rfl) ?_
        refine o_val (v_assign rfl) (dd rfl) ?_
        refine o_nil ?_
        refine c_ret1 Tryz.func9 rfl rfl fun w O hS => ?_
        exact ⟨(), congrArg Value.bool (decide_eq_true rfl), trivial, trivial⟩
      · skip
        exact absurd (by omega) h4
    · have hq : unpackQ c = parseQ c := by unfold unpackQ unpackP; rw [if_neg h3]; rfl
      have he : unpackE c = errV 160 (parseP c).isSome := by unfold unpackE; rw [if_neg h3]; rfl
      rw [hq, he] at k1
      generalize parseQ c = q at k1 k3 zq
      have s1 := fun d f l d' f' l' => sameReq_con q q d f l d' f' l' zq zq
      unfold errV at k1 k3
      dsimp only [rqC] at k1 k3 s1
      refine o_step (s_callf cl20 (k1 v3) rfl (dd rfl) (pXs (by repeat constructor)) fun g1 _ => ?_)
      refine o_val (v_move rfl) (dd rfl) ?_
      refine o_val (v_extract rfl rfl) (dd rfl) ?_
      refine o_val (v_extract rfl rfl) (dd rfl) ?_
      refine o_step (s_alloc ti32 (dd rfl) (fun b6 => ?_))
      refine o_step (s_store_all ti32 rfl rfl (by first | exact CellsV.lit rfl | exact CellsV.one (by first | exact OneC.lit rfl | exact OneC.sl (hX (by repeat constructor)) )) (by repeat (first | exact OneAll.nil | (refine OneAll.cons ?_ ?_; · first | exact OneC.lit rfl | exact OneC.sl (hX (by repeat constructor)) ) | exact OneAll.rd (hX (by repeat constructor)))) rfl (pB (by repeat constructor)) rfl (?_))
      refine o_val (v_assign rfl) (dd rfl) ?_
      refine o_nil ?_
      refine c_seq ?_
      refine c_region ?_
      refine o_val (v_move rfl) (dd rfl) ?_
      refine o_step (s_callf cl23 (k3 v3) rfl (dd rfl) (pXs (by repeat constructor)) fun g3 _ => ?_)
      refine o_val (v_move rfl) (dd rfl) ?_
      refine o_val (v_extract rfl rfl) (dd rfl) ?_
      refine o_val (v_extract rfl rfl) (dd rfl) ?_
      refine o_step (s_alloc ti32 (dd rfl) (fun b8 => ?_))
      refine o_step (s_store_all ti32 rfl rfl (by first | exact CellsV.lit rfl | exact CellsV.one (by first | exact OneC.lit rfl | exact OneC.sl (hX (by repeat constructor)) )) (by repeat (first | exact OneAll.nil | (refine OneAll.cons ?_ ?_; · first | exact OneC.lit rfl | exact OneC.sl (hX (by repeat constructor)) ) | exact OneAll.rd (hX (by repeat constructor)))) rfl (pB (by repeat constructor)) rfl (?_))
      refine o_val (v_assign rfl) (dd rfl) ?_
      refine o_nil ?_
      refine c_seq ?_
      refine c_seq ?_
      refine c_region ?_
      refine o_val (v_move rfl) (dd rfl) ?_
      refine o_val ((by first | exact v_len_form Tryz.underlying38 rfl | exact v_len_sl Tryz.underlying38 rfl (hX (by repeat constructor)))) (dd rfl) ?_
      refine o_val (v_gt rfl rfl) (dd rfl) ?_
      refine o_nil ?_
      refine c_cond_p rfl (fun h4 => ?_) (fun h4 => ?_)
      · skip
        exact absurd h4 (by omega)
      · refine c_skip ?_
        refine c_seq ?_
        refine c_region ?_
        refine o_step (s_callf cl11 (hal) rfl (dd rfl) (pXs (by repeat constructor)) fun _ _ => ?_)
        refine o_val (v_move rfl) (dd rfl) ?_
        refine o_guard rfl rfl (fun _ => ?_) (fun h_ => absurd ((show _ = true from rfl).symm.trans h_) (by decide))
        refine o_val (v_move rfl) (dd rfl) ?_
        refine o_on rfl rfl ?_
        refine o_val (v_move rfl) (dd rfl) ?_
        refine o_on rfl rfl ?_
        refine o_val (v_eq rfl rfl) (dd rfl) ?_
        refine o_val (v_pick_t rfl rfl) (dd rfl) ?_
        refine o_val (v_move rfl) (dd rfl) ?_
        refine o_guard rfl rfl (fun _ => ?_) (fun h_ => absurd ((show _ = true from (decide_eq_true rfl)).symm.trans h_) (by decide))
        refine o_val (v_load_all ⟨_, Tryz.underlying32⟩ ti32 rfl (hX (by repeat constructor)) rfl) (dd rfl) ?_
        refine o_on rfl rfl ?_
        refine o_val (v_load_all ⟨_, Tryz.underlying32⟩ ti32 rfl (hX (by repeat constructor)) rfl) (dd rfl) ?_
        refine o_on rfl rfl ?_
        refine o_step (s_callf cl15 (s1 g3.1 g3.2.1 g3.2.2 g1.1 g1.2.1 g1.2.2) rfl (dd rfl) (pXs (by repeat constructor)) fun _ _ => ?_)
        refine o_val (v_pick_t rfl rfl) (dd rfl) ?_
        refine o_val (v_assign rfl) (dd rfl) ?_
        refine o_nil ?_
        refine c_ret1 Tryz.func9 rfl rfl fun w O hS => ?_
        exact ⟨(), congrArg Value.bool (decide_eq_true rfl), trivial, trivial⟩
end Go.Proofs.YtlfehnnmpkohkaaGreatDoor
/- What the rows of chapter 16 want: the start, the openers of the arguments' types. -/
namespace Go.Proofs.YtlfehnnmpkohkaaGreatDoor
open Go Go.SL Go.RowKit Go.ChangeShapes Go.WideShapes Go.ChangeAt Go.Lib

abbrev laidL : List (String × DataW Unit) := [("math/bits.deBruijn32tab", Rows.laid_math_bits_deBruijn32tab), ("math/bits.deBruijn64tab", Rows.laid_math_bits_deBruijn64tab), ("internal/strconv.uint64pow10", Rows.laid_internal_strconv_uint64pow10), ("unicode/utf8.acceptRanges", Rows.laid_unicode_utf8_acceptRanges), ("strconv.ErrRange", Rows.laid_strconv_ErrRange), ("strconv.ErrSyntax", Rows.laid_strconv_ErrSyntax), ("unicode/utf8.first", Rows.laid_unicode_utf8_first)]
theorem own : ownKnob Tryz.prog.godebug = none := by kernel_rfl
theorem laidOut : laidOutB Tryz.prog = true := by kernel_rfl
theorem start_met (os : Os) (args : Array Value) : laidMetH Tryz.prog laidL ((World.laidAll Tryz.prog os laidL).forCall (fun _ _ => 0) ⟨#[], args, []⟩).memory := by
  rw [MakeChecks.laidMetH_plain _ _ _ (by kernel_rfl)]; exact laidMet_laidAll _ (by kernel_rfl) (by kernel_rfl)
theorem start_shaped (os : Os) (args : Array Value) : ((World.laidAll Tryz.prog os laidL).forCall (fun _ _ => 0) ⟨#[], args, []⟩).Shaped Tryz.checked.prog := World.shaped_of_RefB (by kernel_rfl) (by kernel_rfl)
theorem reach : reachBytes = 140737488351232 := by decide
theorem star : "*" ++ "errors.errorString" = "*errors.errorString" := by decide
theorem errRow (u : TypeId) (h : Tryz.prog.typeName? 3 u = some "*errors.errorString") : u = 227 :=
  typeName_ptr_named (nm := "errors.errorString") (by rw [star]; kernel_rfl) (by kernel_rfl) (by decide) u (by rw [star]; exact h)
theorem glob_at {W : World} (h : W.ShapedOpen Tryz.prog) {g : Nat} {t : TypeId} {cs : Array Value} {name : String} (hg : g < Tryz.prog.globals.size) (h0 : (((begin Tryz.prog (fun _ _ => 0) default).world.heap[g]?).bind Obj.row?).map (·.2) = some t) (hn : Tryz.prog.globalNamed name = some g) (hv : W.var? Tryz.prog name = some cs) : (BlkR g t cs.toList).h W (readAll W) := by
  obtain ⟨⟨zero, t'⟩, h0', e0⟩ := Option.map_eq_some_iff.1 h0
  obtain rfl : t' = t := e0
  obtain ⟨ds, hh, _, _⟩ := h.1 g zero t' hg h0'
  have h1 : g < W.heap.size := by
    rcases Nat.lt_or_ge g W.heap.size with h | h
    · exact h
    · rw [Array.getElem?_eq_none h] at hh; cases hh
  unfold World.var? at hv
  rw [hn, Option.bind_some, hh] at hv
  have e : ds = cs := by simpa using hv
  subst e
  exact ⟨readAll_lt h1, (0, 0), by rw [hh]⟩
theorem g13 {W : World} (hs : W.ShapedOpen Tryz.prog) (hl : laidMetH Tryz.prog laidL W) : ∃ te pe, (G1 te pe).h W (readAll W) ∧ G3.h W (readAll W) := by
  rw [MakeChecks.laidMetH_plain _ _ _ (by kernel_rfl)] at hl
  have h3 : laidMet Tryz.prog (("internal/strconv.uint64pow10", tabData .u64 pow10Tab) :: _) W := hl.tail.tail
  have h1 : TabIs Tryz.prog W "internal/strconv.uint64pow10" .u64 pow10Tab := tabIs_of_head (g := 1) (t := 208) (e := 184) (n := 20) (by kernel_rfl) (by kernel_rfl) Tryz.underlying208 Tryz.underlying184 (by kernel_rfl) (by kernel_rfl) h3
  obtain ⟨a0, s0, hv0, -, -, -⟩ := laid_sentinel hl.tail.tail.tail.tail.tail (g := 2) (ti := 165) (tp := 227) (te := 229) (ts := 9) (by kernel_rfl) (by kernel_rfl) Tryz.underlying165 errRow Tryz.underlying227 Tryz.underlying229 rfl rfl Tryz.underlying9 (by kernel_rfl) (by kernel_rfl)
  exact ⟨_, _, glob_at (cs := #[.iface 227 (.pointer (some a0))]) hs (of_decide_eq_true (by kernel_rfl)) (by kernel_rfl) (by kernel_rfl) hv0, glob_at (cs := (pow10Tab.map fun z => Value.int .u64 z).toArray) hs (of_decide_eq_true (by kernel_rfl)) (by kernel_rfl) (by kernel_rfl) h1⟩
theorem opens_byte {P : Program} {t : TypeId} (ht : P.underlying t = some (.int .u8)) : Opens P t eByte (fun _ => True) := by
  intro H enc W fuel cs x h hw
  obtain ⟨n, rfl, rfl, hn⟩ := DataW.trod_int ht h
  have h1 : 0 ≤ n ∧ n < 256 := by
    have := hn
    simp [Lit.wf, IntKind.has, IntKind.min, IntKind.max, IntKind.signed, IntKind.bits] at this
    omega
  refine ⟨UInt8.ofNat n.toNat, ?_, trivial⟩
  show [Value.int .u8 n] = [Value.int .u8 ((UInt8.ofNat n.toNat).toNat : Int)]
  have : ((UInt8.ofNat n.toNat).toNat : Int) = n := by
    rw [UInt8.toNat_ofNat']; omega
  rw [this]
theorem opB : Opens Tryz.prog 38 (eSl eByte) (fun xs => xs.length ≤ 140737488351232) := opens_good (opens_slice Tryz.underlying38 (by kernel_rfl) (by decide) (opens_byte Tryz.underlying5)) fun xs h => by
  have h1 : Tryz.prog.bytesOf 5 = 1 := by kernel_rfl
  have h2 := h.1
  rw [h1, reach] at h2
  omega
theorem op3 : Opens Tryz.prog 3 (eInt .i64) (fun n => -9223372036854775808 ≤ n ∧ n ≤ 9223372036854775807) := opens_good (opens_int Tryz.underlying3) fun n h => by
  have := h
  simp [Lit.wf, IntKind.has, IntKind.min, IntKind.max, IntKind.signed, IntKind.bits] at this
  omega
end Go.Proofs.YtlfehnnmpkohkaaGreatDoor
namespace Go.Proofs.YtlfehnnmpkohkaaGreatDoor
open Go Go.SL Go.RowKit Go.ChangeShapes Go.WideShapes Go.ChangeAt Go.Lib
set_option linter.unusedVariables false
set_option maxRecDepth 100000 in
theorem reqLimits_lifted (os : Os) (started : os.Started) (H : Type) (enc : TypeId × Value → H) :
    ReturnsInHanded {} Tryz.checked os 9 .any (fun w args => (Rows.reqLimitsSpec.pre enc Tryz.prog Tryz.f9 [] false w args ∧ laidMetH Tryz.prog laidL w) ∧ sizedMet enc Tryz.prog Tryz.f9 (OpenSpec.ofChange Rows.reqLimitsSpec) false w args)
      (Rows.reqLimitsSpec.post enc Tryz.prog Tryz.f9 false true false false) := by
  refine lift_true (C := Tryz.checked) (X := fun w _ => laidMetH Tryz.prog laidL w) (t := 4) (fun _ _ _ hh h => h.of_heap hh) own started (by kernel_rfl) Tryz.func9 rfl (fun ds h => ?_) rfl Tryz.underlying4 laidOut (by kernel_rfl)
    (ChangeSpec.witness_shaped (enc := enc) (C := Tryz.checked) (os := os) (X := fun w _ => laidMetH Tryz.prog laidL w) false (World.laidAll Tryz.prog os laidL) #[.slice none 0 0, .int .i64 0] 8 (World.laidAll_os _ _ _) (start_shaped os _) (by kernel_rfl) (by kernel_rfl) (by kernel_rfl) (start_met os _)) ?_
  · match ds, h with
    | [d0, d1], _ => rfl
  · intro W base args ds ps hsh hlaid hval0 hA0 hwt0
    have hval : ∀ (j : Nat) t v, Tryz.f9.params[j]? = some t → args[j]? = some v → Value.okWide Tryz.prog W .any base t v := hval0
    have hA : DataW.TrodAll enc Tryz.prog W 0 (fun _ => true) true Tryz.f9.params.toList args.toList ds ps := hA0
    have hwt : ∀ (j : Nat) t d, Tryz.f9.params.toList[j]? = some t → ds[j]? = some d → ∀ n ∈ d.weights Tryz.prog t, n ≤ reachBytes := hwt0
    clear hval0 hA0 hwt0
    rw [Tryz.params9] at hA hval hwt
    obtain ⟨v0, vs0, d0, ds0, p0, q0, hargs, rfl, rfl, h0, r0⟩ := trodAll_cons hA
    obtain ⟨v1, vs1, d1, ds1, p1, q1, rfl, rfl, rfl, h1, r1⟩ := trodAll_cons r0
    obtain ⟨rfl, rfl, rfl⟩ := trodAll_nil r1
    obtain rfl : args = #[v0, v1] := by cases args; simp_all
    obtain ⟨x0, e0, g0⟩ := open_arg opB h0 (hwt 0 38 d0 rfl rfl)
    have a0 := arg_slice Tryz.underlying38 (hval 0 38 v0 rfl rfl) e0
    obtain ⟨x1, e1, g1⟩ := open_arg op3 h1 (hwt 1 3 d1 rfl rfl)
    obtain rfl := arg_int Tryz.underlying3 (hval 1 3 v1 rfl rfl) e1
    obtain ⟨te, pe, hg1, hg3⟩ := g13 hsh hlaid
    exact calls_of_con (limits_con v0 x0 x1 te pe (by omega)) (List.forall_mem_cons.2 ⟨a0, List.forall_mem_cons.2 ⟨hg1, List.forall_mem_cons.2 ⟨hg3, fun _ h => by cases h⟩⟩⟩)
theorem reqLimits_row : Rows.ReqLimitsSaid :=
  OpenClaim.holds_of_wide 9 Tryz.f9 rfl rfl rfl rfl rfl rfl rfl ⟨rfl, rfl, rfl, rfl, rfl⟩ rfl rfl rfl rfl rfl (by kernel_rfl) Tryz.func9 (by kernel_rfl)
    (of_decide_eq_true (by kernel_rfl)) (by unfold Func.isWrapper; first | (rw [if_pos (by decide +kernel)]; kernel_rfl) | (rw [if_neg (by decide +kernel)]; exact ⟨rfl, rfl⟩))
    (fun os started H enc _ => reqLimits_lifted os started H enc)
/-- ReqLimits: for every input it returns true, and its arguments read behind the call as before; the listed variables tied to the program's text. -/
theorem reqLimits_card : Rows.ReqLimitsCardSaid :=
  Claim7.holds_tied_plain_at .later [] [.data, .data, .data, .data, .sentinel, .sentinel, .pinned] true (true, "894549b700650531200670345886dce63747e5cb365f9b82109e9dd3db5aad89") true
    reqLimits_row (fun _ h => by cases h) (by kernel_rfl) (fun _ h => by cases h) reqLimits_row_tie rfl ⟨rfl, rfl⟩ (by kernel_rfl) rfl
    (fun f fn hf hfn => by
      obtain rfl : f = 9 := Option.some.inj ((show Tryz.prog.funcNamed Tryz.f9.name = some 9 by kernel_rfl).symm.trans hf) |>.symm
      obtain rfl : fn = Tryz.f9 := (Option.some.inj (Tryz.func9.symm.trans hfn)).symm
      exact ⟨by kernel_rfl, fun j t ht => by
        rw [Tryz.params9] at ht
        have hm : t ∈ [38, 3] := by simpa using Array.mem_of_getElem? ht
        have hall : ([38, 3].all fun u => !Tryz.prog.wantsStandIn u) = true := by kernel_rfl
        exact (show Tryz.prog.wantsStandIn t = false by simpa using List.all_eq_true.1 hall t hm)⟩)
    (by kernel_rfl)
#print axioms reqLimits_card
end Go.Proofs.YtlfehnnmpkohkaaGreatDoor

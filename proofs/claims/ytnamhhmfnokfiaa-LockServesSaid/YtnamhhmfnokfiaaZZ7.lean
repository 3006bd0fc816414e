/- The texts T9, TA, TC, M1, M2, M3, M4, LA, LC, QG, RC, one behind the other. -/
import Derived.Test.YtnamhhmfnokfiaaZZ6
import Derived.ProofKit
import Derived.OpenShut
import Derived.ShutString
import Derived.ChangeOld
import Derived.Below
import Derived.Carry
import Derived.SizedLaws
import Derived.LaidMore
import Derived.LaidLaws
import Derived.HandedShaped
import Derived.WalkKit
import Derived.SevenTiedAt
import Derived.Shelf.Vars
import Derived.Test.YtnamhhmfnokfiaaRows
import Derived.Lay
set_option linter.unusedVariables false
set_option linter.unusedSimpArgs false
/- Chapter 12: a copy of the table. -/
namespace Go.Proofs.Ytnamhhmfnokfiaa
open Go Go.SL
theorem plOf_mem {ps : List MPl} {p : MPl} (hn : (ps.map fun p : MPl => p.2.2.1).Nodup) (hp : p ∈ ps) : plOf ps p.2.2.1 = p.2.2.2 := by
  obtain ⟨ps1, ps2, rfl⟩ := List.append_of_mem hp
  rw [List.map_append, List.map_cons] at hn
  exact plOf_mid fun q hq e => (List.nodup_append.1 hn).2.2 q.2.2.1 (List.mem_map.2 ⟨q, hq, rfl⟩) p.2.2.1 (by simp) e
theorem view_copy {N : Nat} {σ : Sg} {o1 o2 p1 p2 : Option Nat} {ps qs : List MPl} {gs : List (Int × ByteArray)} (h : ViewF N σ o1 o2 ps gs) (hq : ∀ q ∈ qs, q.2.2 ∈ ps.map fun p : MPl => p.2.2) (hqn : (qs.map fun p : MPl => p.2.2.1).Nodup) (hall : ∀ p ∈ ps, p.2.2.1 ∈ qs.map fun p : MPl => p.2.2.1) (hp : p1.isNone = p2.isNone) :
    ViewF N σ p1 p2 qs gs := by
  obtain ⟨h1, h2, h3, h4, h5, h6, h7⟩ := h
  have hsub : ∀ n ∈ qs.map fun p : MPl => p.2.2.1, n ∈ ps.map fun p : MPl => p.2.2.1 := fun n hn => by
    obtain ⟨q, hqm, rfl⟩ := List.mem_map.1 hn
    obtain ⟨p, hpm, he⟩ := List.mem_map.1 (hq q hqm)
    exact List.mem_map.2 ⟨p, hpm, by rw [he]⟩
  have hpl : ∀ n, plOf qs n = plOf ps n := fun n => by
    by_cases hn : n ∈ qs.map fun p : MPl => p.2.2.1
    · obtain ⟨q, hqm, rfl⟩ := List.mem_map.1 hn
      obtain ⟨p, hpm, he⟩ := List.mem_map.1 (hq q hqm)
      rw [plOf_mem hqn hqm, ← he, plOf_mem h1 hpm]
    · rw [plOf_none fun q hqm e => hn (List.mem_map.2 ⟨q, hqm, e⟩), plOf_none fun p hpm e => hn (by rw [← e]; exact hall p hpm)]
  refine ⟨hqn, fun n => by rw [hpl]; exact h2 n, h3, hp, ?_, h6, fun q hqm => ?_⟩
  · have := nodup_le hqn hsub
    simp only [List.length_map] at this; omega
  · obtain ⟨p, hpm, he⟩ := List.mem_map.1 (hq q hqm)
    rw [← he]; exact h7 p hpm
theorem upd_end {qs : List MPl} {k : ByteArray} {b : Nat} {u : Value} {m w : Wt} (h : k ∉ qs.map fun p : MPl => p.2.2.1) : upd (qs.map entP) k (.agg #[.map (some b), u]) = (qs ++ [(b, u, k, m, w)]).map entP := by
  have := upd_hole (ps1 := qs) (ps2 := []) (n := k) (st := none) (x := .agg #[.map (some b), u]) (fun p hp e => h (List.mem_map.2 ⟨p, hp, e⟩)) (fun _ => rfl)
  simpa [stale, entP, plV] using this
attribute [local irreducible] Cfg Kont StepK Val Con Qops Any Sl Own Blk BlkR Rd Pu ExA AllA Has Pick Ent Elem Beside Callable TI Lone OwnO AndA
set_option maxRecDepth 100000 in
theorem copy12_con (N t : Nat) (σ : Sg) (hN : N ≤ 50000) :
    Con Try.prog 60 [.pointer (some ⟨t, 0, none⟩)] [TabA N t σ] (γ := Nat) (fun u => .pointer (some ⟨u, 0, none⟩)) (fun _ => True) (fun u => [TabA N u σ, TabA N t σ]) := by
  refine con_of Try.func60 rfl (dd rfl) fun w0 O0 => ?_
  refine c_tab fun o1 o2 ps gs hv => ?_
  obtain ⟨hnn, h2, h3, h4, h5, h6, h7⟩ := id hv
  refine c_fact (a := MapO kStr o1 (ps.map entP)) (p := o1 = none → ps = []) (.there .here) (fun _ _ h => ps_none h) fun hps => ?_
  refine c_seq ?_
  refine c_region ?_
  refine o_val (v_assign rfl) (dd rfl) ?_
  refine o_nil ?_
  refine c_seq ?_
  refine c_region ?_
  refine o_step (s_makeMap (ke := kStr) (dd rfl) (fun b6 => ?_))
  refine o_val (v_move rfl) (dd rfl) ?_
  refine o_val (v_nilCheck rfl) (dd rfl) ?_
  refine o_val (v_fieldAddrC 1 Try.underlying75 rfl ti73 (by decide) rfl) (dd rfl) ?_
  refine o_val (v_load lone73 rfl (hX (by repeat constructor)) rfl) (dd rfl) ?_
  refine o_step (s_callf cl68 (mapsClone_G o2 (gs.map entG)) rfl (dd rfl) (pXs (by repeat constructor)) fun oc hoc => ?_)
  refine o_val (v_buildS (places := [(0, 1), (1, 1)]) (cells := [_, _]) Try.underlying75 ti75 (by kernel_rfl) rfl (by repeat (first | exact PartsC.nil | (apply PartsC.one (by first | exact OneC.lit rfl | exact OneC.sl (hX (by repeat constructor)) )) | (apply PartsC.lit rfl))) rfl) (dd rfl) ?_
  refine o_step (s_box rfl (dd rfl) (fun b13 => ?_))
  refine o_val (v_assign rfl) (dd rfl) ?_
  refine o_nil ?_
  refine c_seq ?_
  refine c_seq ?_
  refine c_region ?_
  refine o_val (v_move rfl) (dd rfl) ?_
  refine o_val (v_nilCheck rfl) (dd rfl) ?_
  refine o_val (v_fieldAddrC 0 Try.underlying75 rfl ti72 (by decide) rfl) (dd rfl) ?_
  refine o_val (v_load lone72 rfl (hX (by repeat constructor)) rfl) (dd rfl) ?_
  refine o_step (s_range_mapO kStr Try.underlying72 rfl (dd rfl) (pX (by repeat constructor)) (fun it18 => ?_))
  refine o_nil ?_
  refine c_block ?_
  refine c_loopR (γ := List ByteArray × List MPl) [(2, _), (3, _)] (fun g => ps.length - g.1.length) (fun g => g.1.Nodup ∧ (∀ y ∈ g.1, y ∈ ps.map fun p : MPl => p.2.2.1) ∧ (g.2.map fun p : MPl => p.2.2.1) = g.1 ∧ ∀ q ∈ g.2, q.2.2 ∈ ps.map fun p : MPl => p.2.2) (fun _ => [(18, .pointer (some ⟨it18, 0, none⟩))]) (fun g => [MapItO kStr it18 o1 (ps.map entP) g.1, Blk t 75 [.map o1, .map o2], MapO kInt o2 (gs.map entG), AllA (ps.map plA), Blk b13 75 [.map (some b6), .map oc], MapO kStr (some b6) (g.2.map entP), MapO kInt oc (gs.map entG), AllA (g.2.map plA)]) (([], [])) (⟨by simp, by simp, rfl, by simp⟩) (by repeat (first | exact trivial | refine ⟨rfl, ?_⟩)) (Ent.trans (ent_all_nil (f := plA)) (eX (by repeat constructor))) ?_
  rintro ⟨pre, qs⟩ ⟨hpn, hsub, hqn, hqm⟩ IH
  dsimp only at hpn hsub hqn hqm ⊢
  try dsimp only [List.cons_append, List.nil_append]
  refine c_seq ?_
  refine c_region ?_
  refine o_step (s_nextO kStr rfl (dd rfl) (pX (by repeat constructor)) (fun k v hk hn => ?_) (fun hall => ?_))
  · obtain ⟨ps1, b, u, m, wq, ps2, hpe, rfl⟩ := ps_at hk
    have hpm : ((b, u, k, m, wq) : MPl) ∈ ps := by rw [hpe]; simp
    have hkm : k ∈ ps.map fun p : MPl => p.2.2.1 := List.mem_map.2 ⟨_, hpm, rfl⟩
    have hpn' : (pre ++ [k]).Nodup := List.nodup_append.2 ⟨hpn, by simp, fun a ha b hb e => hn (by rw [List.mem_singleton.1 hb] at e; rw [← e]; exact ha)⟩
    have hsub' : ∀ y ∈ pre ++ [k], y ∈ ps.map fun p : MPl => p.2.2.1 := fun y hy => by
      rcases List.mem_append.1 hy with h | h
      · exact hsub y h
      · rw [List.mem_singleton.1 h]; exact hkm
    have hwl := h7 _ hpm
    dsimp only at hwl
    have hl1 : (pre ++ [k]).length = pre.length + 1 := by simp
    have hple := nodup_le hpn' hsub'
    rw [List.length_map, hl1] at hple
    refine o_val (v_extract rfl rfl) (dd rfl) ?_
    refine o_nil ?_
    refine c_seq ?_
    refine c_cond_t rfl ?_
    refine c_skip ?_
    refine c_block ?_
    refine c_seq ?_
    refine c_region ?_
    refine o_ent (L1 := plA (b, u, k, m, wq) :: AllA ((ps1 ++ ps2).map plA) :: [MapItO kStr it18 o1 (ps.map entP) (pre ++ [k]), Blk t 75 [.map o1, .map o2], MapO kInt o2 (gs.map entG), Blk b13 75 [.map (some b6), .map oc], MapO kStr (some b6) (qs.map entP), MapO kInt oc (gs.map entG), AllA (qs.map plA)]) (Ent.trans (b := AllA ((ps1 ++ (b, u, k, m, wq) :: ps2).map plA) :: [MapItO kStr it18 o1 (ps.map entP) (pre ++ [k]), Blk t 75 [.map o1, .map o2], MapO kInt o2 (gs.map entG), Blk b13 75 [.map (some b6), .map oc], MapO kStr (some b6) (qs.map entP), MapO kInt oc (gs.map entG), AllA (qs.map plA)]) (by rw [← hpe]; exact (eX (by repeat constructor))) pull_pl) ?_
    refine o_all (As := [MapO kInt (some b) (mInt m), OwnO eW 137 u wq]) ?_
    refine o_val (v_entryO kStr rfl hk (hX (by repeat constructor))) (dd rfl) ?_
    refine o_val (v_extract rfl rfl) (dd rfl) ?_
    refine o_val (v_extract rfl rfl) (dd rfl) ?_
    refine o_step (s_alloc ti135 (dd rfl) (fun b5 => ?_))
    refine o_val (v_assign rfl) (dd rfl) ?_
    refine o_step (s_store_all ti135 rfl rfl (by first | exact CellsV.lit rfl | exact CellsV.one (by first | exact OneC.lit rfl | exact OneC.sl (hX (by repeat constructor)) )) (by repeat (first | exact OneAll.nil | (refine OneAll.cons ?_ ?_; · first | exact OneC.lit rfl | exact OneC.sl (hX (by repeat constructor)) ) | exact OneAll.rd (hX (by repeat constructor)))) rfl (pB (by repeat constructor)) rfl (?_))
    refine o_nil ?_
    refine c_held [BlkR b5 135 [.map (some b), u], BlkR b13 75 [.map (some b6), .map oc], Sl eW u wq] rfl ?_
    refine a_take 0 rfl (by kernel_rfl) (by kernel_rfl) (by kernel_rfl) (v_move rfl) (eX (by repeat constructor)) (dd rfl) ?_
    refine a_take 1 rfl (by kernel_rfl) (by kernel_rfl) (by kernel_rfl) (v_nilCheck rfl) (eX (by repeat constructor)) (dd rfl) ?_
    refine a_take 2 rfl (by kernel_rfl) (by kernel_rfl) (by kernel_rfl) (v_fieldAddrC 0 Try.underlying75 rfl ti72 (by decide) rfl) (eX (by repeat constructor)) (dd rfl) ?_
    refine a_take 3 rfl (by kernel_rfl) (by kernel_rfl) (by kernel_rfl) (v_load lone72 rfl (hX (by repeat constructor)) rfl) (eX (by repeat constructor)) (dd rfl) ?_
    refine a_take 4 rfl (by kernel_rfl) (by kernel_rfl) (by kernel_rfl) (v_move rfl) (eX (by repeat constructor)) (dd rfl) ?_
    refine a_take 5 rfl (by kernel_rfl) (by kernel_rfl) (by kernel_rfl) (v_fieldAddrC 0 Try.underlying135 rfl ti97 (by decide) rfl) (eX (by repeat constructor)) (dd rfl) ?_
    refine a_take 6 rfl (by kernel_rfl) (by kernel_rfl) (by kernel_rfl) (v_load lone97 rfl (hX (by repeat constructor)) rfl) (eX (by repeat constructor)) (dd rfl) ?_
    refine a_take 8 rfl (by kernel_rfl) (by kernel_rfl) (by kernel_rfl) (v_fieldAddrC 1 Try.underlying135 rfl ti133 (by decide) rfl) (eX (by repeat constructor)) (dd rfl) ?_
    refine a_take 9 rfl (by kernel_rfl) (by kernel_rfl) (by kernel_rfl) (v_load lone133 rfl (hX (by repeat constructor)) rfl) (eX (by repeat constructor)) (dd rfl) ?_
    refine a_one 7 rfl (by kernel_rfl) (s_callf cl96 (mapsClone_I (some b) (mInt m)) rfl (dd rfl) (pXs (by repeat constructor)) (fun r31 h31 => a_on (eX (by repeat constructor)) ?_))
    obtain ⟨b', rfl⟩ : ∃ b', r31 = some b' := by
      cases r31 with
      | some b' => exact ⟨b', rfl⟩
      | none => cases h31
    refine a_one 10 rfl (by kernel_rfl) (s_callf_keep cl85 (clone_Wt eW u wq rfl (by omega)) rfl (dd rfl) (rX (by repeat constructor)) (fun _ => sX) (fun r34 _ => a_on (eX (by repeat constructor)) ?_))
    refine a_one 11 rfl (by kernel_rfl) (s_val (v_buildS (places := [(0, 1), (1, 1)]) (cells := [_, _]) Try.underlying135 ti135 (by kernel_rfl) rfl (PartsC.one (OneC.lit rfl) (PartsC.one (OneC.sl (hX (by repeat constructor))) PartsC.nil)) rfl) (dd rfl) (a_on (eX (by repeat constructor)) ?_))
    refine a_one 12 rfl (by kernel_rfl) (s_mapUpdate kStr Try.underlying72 Try.underlying9 kStr_sc rfl rfl rfl (pX (by repeat constructor)) (a_on (eX (by repeat constructor)) ?_))
    refine a_done (by kernel_rfl) ?_ _
    refine c_inBlock ?_
    rw [upd_end (m := m) (w := wq) (by rw [hqn]; exact hn)]
    refine c_ent (L' := AllA ((qs ++ [((b', r34, k, m, wq) : MPl)]).map plA) :: AllA (ps.map plA) :: [MapItO kStr it18 o1 (ps.map entP) (pre ++ [k]), Blk t 75 [.map o1, .map o2], MapO kInt o2 (gs.map entG), Blk b13 75 [.map (some b6), .map oc], MapO kStr (some b6) ((qs ++ [((b', r34, k, m, wq) : MPl)]).map entP), MapO kInt oc (gs.map entG)]) ?_ ?_
    · have step1 : ∀ L : List A, Ent (MapO kInt (some b) (mInt m) :: OwnO eW 137 u wq :: AllA ((ps1 ++ ps2).map plA) :: L) (AllA (ps.map plA) :: L) := fun L => by rw [hpe]; exact Ent.trans pl_mk push_pl
      have step2 : ∀ L : List A, Ent (MapO kInt (some b') (mInt m) :: Own eW 137 r34 wq :: AllA (qs.map plA) :: L) (AllA ((qs ++ [((b', r34, k, m, wq) : MPl)]).map plA) :: L) := fun L => by
        have := push_pl (ps1 := qs) (ps2 := []) (p := (b', r34, k, m, wq)) (L := L)
        rw [List.append_nil] at this
        exact Ent.trans (Ent.cons (Ent.head fun _ _ h => OwnO.of encF_W h)) (Ent.trans pl_mk this)
      refine Ent.trans (b := MapO kInt (some b') (mInt m) :: Own eW 137 r34 wq :: AllA (qs.map plA) :: MapO kInt (some b) (mInt m) :: OwnO eW 137 u wq :: AllA ((ps1 ++ ps2).map plA) :: [MapItO kStr it18 o1 (ps.map entP) (pre ++ [k]), Blk t 75 [.map o1, .map o2], MapO kInt o2 (gs.map entG), Blk b13 75 [.map (some b6), .map oc], MapO kStr (some b6) ((qs ++ [((b', r34, k, m, wq) : MPl)]).map entP), MapO kInt oc (gs.map entG)]) (eX (by repeat constructor)) (Ent.trans (step2 _) (Ent.cons (step1 _)))
    have hqm' : ∀ q ∈ qs ++ [((b', r34, k, m, wq) : MPl)], q.2.2 ∈ ps.map fun p : MPl => p.2.2 := fun q hq => by
      rcases List.mem_append.1 hq with h | h
      · exact hqm q h
      · rw [List.mem_singleton.1 h]; exact List.mem_map.2 ⟨_, hpm, rfl⟩
    refine c_use (IH ((pre ++ [k], qs ++ [((b', r34, k, m, wq) : MPl)])) (by first | omega | (dsimp only; omega)) (⟨hpn', hsub', by rw [List.map_append, hqn]; rfl, hqm'⟩)) (by repeat (first | exact trivial | refine ⟨rfl, ?_⟩)) (eX (by repeat constructor))
  · have hv2 : ∀ p1 p2 : Option Nat, p1.isNone = p2.isNone → ViewF N σ p1 p2 qs gs := fun p1 p2 hp => view_copy hv hqm (by rw [hqn]; exact hpn) (fun p hp => by rw [hqn]; exact hall p.2.2.1 (by rw [List.map_map]; exact List.mem_map.2 ⟨p, hp, rfl⟩)) hp
    refine o_val (v_extract rfl rfl) (dd rfl) ?_
    refine o_nil ?_
    refine c_seq ?_
    refine c_cond_f rfl ?_
    refine c_exit rfl ?_
    refine c_seq ?_
    refine c_seq ?_
    refine c_region ?_
    refine o_val (v_move rfl) (dd rfl) ?_
    refine o_val (v_nilCheck rfl) (dd rfl) ?_
    refine o_val (v_fieldAddrC 1 Try.underlying75 rfl ti73 (by decide) rfl) (dd rfl) ?_
    refine o_val (v_load lone73 rfl (hX (by repeat constructor)) rfl) (dd rfl) ?_
    refine o_val (v_eq_map_nil Try.underlying73 rfl rfl) (dd rfl) ?_
    refine o_nil ?_
    cases oc with
    | none =>
      refine c_pu (p := gs.map entG = []) (.there (.there (.there (.there (.there (.there .here)))))) fun hgs => ?_
      have hgs' : gs = [] := List.map_eq_nil_iff.1 hgs
      refine c_cond_t rfl ?_
      refine c_region ?_
      refine o_val (v_move rfl) (dd rfl) ?_
      refine o_step (s_makeMap (ke := kInt) (dd rfl) (fun b42 => ?_))
      refine o_val (v_nilCheck rfl) (dd rfl) ?_
      refine o_val (v_fieldAddrC 1 Try.underlying75 rfl ti73 (by decide) rfl) (dd rfl) ?_
      refine o_step (s_store1 ti73 rfl rfl (by first | exact OneC.lit rfl | exact OneC.sl (hX (by repeat constructor)) ) (pB (by repeat constructor)) (by first | decide | exact Nat.le_of_ble_eq_true rfl | simp) (by first | (dsimp only [List.set_cons_succ, List.set_cons_zero]; first | done | exact rfl) | rfl) (?_))
      refine o_nil ?_
      refine c_seq ?_
      refine c_region ?_
      refine o_val (v_move rfl) (dd rfl) ?_
      refine o_val (v_assign rfl) (dd rfl) ?_
      refine o_nil ?_
      refine c_ret1 Try.func60 rfl rfl fun w O hS => ?_
      rw [hgs] at hS
      exact ⟨b13, rfl, trivial, Ent.get (Ent.get hS (L' := [Blk b13 75 [.map (some b6), .map (some b42)], MapO kStr (some b6) (qs.map entP), MapO kInt (some b42) (gs.map entG), AllA (qs.map plA), Blk t 75 [.map o1, .map o2], MapO kStr o1 (ps.map entP), MapO kInt o2 (gs.map entG), AllA (ps.map plA)]) (by rw [hgs] ; exact (eX (by repeat constructor)))) (Ent.trans (tab_mk (hv2 (some b6) (some b42) rfl)) (Ent.cons (tab_mk hv)))⟩
    | some c =>
      skip
      refine c_cond_f rfl ?_
      refine c_skip ?_
      refine c_seq ?_
      refine c_region ?_
      refine o_val (v_move rfl) (dd rfl) ?_
      refine o_val (v_assign rfl) (dd rfl) ?_
      refine o_nil ?_
      refine c_ret1 Try.func60 rfl rfl fun w O hS => ?_
      exact ⟨b13, rfl, trivial, Ent.get (Ent.get hS (L' := [Blk b13 75 [.map (some b6), .map (some c)], MapO kStr (some b6) (qs.map entP), MapO kInt (some c) (gs.map entG), AllA (qs.map plA), Blk t 75 [.map o1, .map o2], MapO kStr o1 (ps.map entP), MapO kInt o2 (gs.map entG), AllA (ps.map plA)]) (eX (by repeat constructor))) (Ent.trans (tab_mk (hv2 (some b6) (some c) rfl)) (Ent.cons (tab_mk hv)))⟩
end Go.Proofs.Ytnamhhmfnokfiaa
/- Chapter 12: who stands in the way. -/
namespace Go.Proofs.Ytnamhhmfnokfiaa
open Go Go.SL
def nameOf (σ : Sg) (o : Int) : ByteArray := (σ.goal o).getD ⟨#[]⟩
def frontW (w : Wt) (o : Int) : Wt := w.takeWhile fun q => !decide (q.1 = o)
def aheadP (σ : Sg) (o x : Int) : Prop := (∃ k, σ.has (nameOf σ o) x = some k ∧ x ≠ o ∧ fitsL k (modeOf σ o) = false) ∨ x ∈ (frontW (σ.wait (nameOf σ o)) o).map (·.1)
theorem front_stop {w : Wt} {o : Int} {i : Nat} (hi : i < w.length) (h : w[i].1 = o) (hb : ∀ (j : Nat) (hj : j < w.length), j < i → w[j].1 ≠ o) : frontW w o = w.take i := by
  induction w generalizing i with
  | nil => simp at hi
  | cons q w ih =>
    unfold frontW
    cases i with
    | zero => rw [List.takeWhile_cons]; simp at h; simp [h]
    | succ i =>
      have h0 : q.1 ≠ o := hb 0 (by simp) (by omega)
      rw [List.takeWhile_cons, List.take_succ_cons]
      rw [if_pos (by simp [h0])]
      congr 1
      exact ih (by simpa using hi) (by simpa using h) fun j hj hji => by
        have := hb (j + 1) (by simp; omega) (by omega)
        simpa using this
theorem front_all {w : Wt} {o : Int} (hb : ∀ (j : Nat) (hj : j < w.length), w[j].1 ≠ o) : frontW w o = w := by
  induction w with
  | nil => rfl
  | cons q w ih =>
    have h0 : q.1 ≠ o := hb 0 (by simp)
    unfold frontW at ih ⊢
    rw [List.takeWhile_cons, if_pos (by simp [h0]), ih fun j hj => by
      have := hb (j + 1) (by simp; omega)
      simpa using this]
attribute [local irreducible] Cfg Kont StepK Val Con Qops Any Sl Own Blk BlkR Rd Pu ExA AllA Has Pick Ent Elem Beside Callable TI Lone OwnO AndA
set_option maxRecDepth 100000 in
theorem ahead_con (N t : Nat) (σ : Sg) (o : Int) (hN : N ≤ 1000) :
    Con Try.prog 71 [.pointer (some ⟨t, 0, none⟩), .int .i64 o] [TabA N t σ] (γ := Value × List Int) (fun r => r.1) (fun r => (∀ x, x ∈ r.2 ↔ aheadP σ o x) ∧ r.2.length ≤ 2000) (fun r => [Own (eInt .i64) 3 r.1 r.2, TabA N t σ]) := by
  refine con_of Try.func71 rfl (dd rfl) fun w0 O0 => ?_
  refine c_seq ?_
  refine c_region ?_
  refine o_val (v_assign rfl) (dd rfl) ?_
  refine o_nil ?_
  refine c_seq ?_
  refine c_region ?_
  refine o_val (v_move rfl) (dd rfl) ?_
  refine o_val (v_move rfl) (dd rfl) ?_
  refine o_step (s_callf cl47 (waits_con N t σ o (by omega)) rfl (dd rfl) (pXs (by repeat constructor)) fun _ _ => ?_)
  refine o_val (v_move rfl) (dd rfl) ?_
  refine o_val (v_extract rfl rfl) (dd rfl) ?_
  refine o_val (v_extract rfl rfl) (dd rfl) ?_
  refine o_val (v_extract rfl rfl) (dd rfl) ?_
  refine o_val (v_assign rfl) (dd rfl) ?_
  refine o_val (v_assign rfl) (dd rfl) ?_
  refine o_val (v_assign rfl) (dd rfl) ?_
  refine o_nil ?_
  refine c_seq ?_
  refine c_region ?_
  refine o_val (v_assign rfl) (dd rfl) ?_
  refine o_nil ?_
  refine c_seq ?_
  refine c_seq ?_
  refine c_tab_at (nameOf σ o) fun o1 o2 es gs ob v m wq R hl hm hw hG hmw hgN hno hoo hnd hemp hcl hch => ?_
  have hml : (mInt m).length = m.length := List.length_map _
  unfold plZ nameOf at hl
  refine c_region ?_
  refine o_val (v_move rfl) (dd rfl) ?_
  refine o_val (v_nilCheck rfl) (dd rfl) ?_
  refine o_val (v_fieldAddrC 0 Try.underlying75 rfl ti72 (by decide) rfl) (dd rfl) ?_
  refine o_val (v_load lone72 rfl (hX (by repeat constructor)) rfl) (dd rfl) ?_
  refine o_val (v_move rfl) (dd rfl) ?_
  refine o_val (v_lookupO kStr Try.underlying72 Try.underlying9 ti135 rfl rfl (hX (by repeat constructor))) (dd rfl) ?_
  try simp only [hl, Option.getD_none, Option.getD_some, Option.isSome_none, Option.isSome_some]
  refine o_val (v_field Try.underlying135 rfl lone97 rfl rfl) (dd rfl) ?_
  refine o_step (s_range_mapO kInt Try.underlying97 rfl (dd rfl) (pX (by repeat constructor)) (fun it27 => ?_))
  refine o_nil ?_
  refine c_block ?_
  refine c_ent (Ent.beside (b := Own (eInt .i64) 3 (.slice none 0 0) ([] : List Int)) (fun w O _ => Own.nil (eInt .i64) 3 w _)) ?_
  refine c_loopR (γ := List Int × Value × List Int) [(0, _), (1, _), (4, _)] (fun g => m.length - g.1.length) (fun g => g.1.Nodup ∧ (∀ y ∈ g.1, y ∈ m.map fun q : Int × Int => q.1) ∧ (∀ x, x ∈ g.2.2 ↔ x ∈ g.1 ∧ ∃ k, (x, k) ∈ m ∧ x ≠ o ∧ fitsL k (modeOf σ o) = false) ∧ g.2.2.length ≤ g.1.length) (fun g => [(27, .pointer (some ⟨it27, 0, none⟩)), (8, g.2.1), (6, .int .i64 (modeOf σ o)), (5, .string ((σ.goal o).getD ⟨#[]⟩))]) (fun g => [MapItO kInt it27 ob (mInt m) g.1, Own (eInt .i64) 3 g.2.1 g.2.2, Blk t 75 [.map o1, .map o2], MapO kStr o1 es, MapO kInt o2 (gs.map entG), OwnO eW 137 v wq, R]) (([], .slice none 0 0, [])) (⟨by simp, by simp, by simp, by simp⟩) (by repeat (first | exact trivial | refine ⟨rfl, ?_⟩)) (eX (by repeat constructor)) ?_
  rintro ⟨pre, u, acc⟩ ⟨hpn, hsub, hacc, hal⟩ IH
  dsimp only at hpn hsub hacc hal ⊢
  try dsimp only [List.cons_append, List.nil_append]
  refine c_seq ?_
  refine c_region ?_
  refine o_step (s_nextO kInt rfl (dd rfl) (pX (by repeat constructor)) (fun k v hk hn => ?_) (fun hall => ?_))
  · obtain ⟨x, hx, rfl⟩ := mInt_mem hk
    have hkm : k ∈ m.map fun q : Int × Int => q.1 := List.mem_map.2 ⟨_, hx, rfl⟩
    have hpn' : (pre ++ [k]).Nodup := List.nodup_append.2 ⟨hpn, by simp, fun a ha b hb e => hn (by rw [List.mem_singleton.1 hb] at e; rw [← e]; exact ha)⟩
    have hsub' : ∀ y ∈ pre ++ [k], y ∈ m.map fun q : Int × Int => q.1 := fun y hy => by
      rcases List.mem_append.1 hy with h | h
      · exact hsub y h
      · rw [List.mem_singleton.1 h]; exact hkm
    have hlen := nodup_le hpn' hsub'
    simp only [List.length_append, List.length_singleton, List.length_map] at hlen
    have hl1 : (pre ++ [k]).length = pre.length + 1 := by simp
    refine o_val (v_extract rfl rfl) (dd rfl) ?_
    refine o_nil ?_
    refine c_seq ?_
    refine c_cond_t rfl ?_
    refine c_skip ?_
    refine c_block ?_
    refine c_seq ?_
    refine c_region ?_
    refine o_val (v_entryO kInt rfl hk (hX (by repeat constructor))) (dd rfl) ?_
    refine o_val (v_extract rfl rfl) (dd rfl) ?_
    refine o_val (v_extract rfl rfl) (dd rfl) ?_
    refine o_val (v_assign rfl) (dd rfl) ?_
    refine o_val (v_assign rfl) (dd rfl) ?_
    refine o_nil ?_
    refine c_seq ?_
    refine c_env (env' := [(0, _), (1, _), (4, _), (5, _), (6, _), (8, _), (9, _), (10, _), (27, _), (28, _), (29, _), (30, _), (31, _), (32, _)]) (by repeat (first | exact trivial | refine ⟨rfl, ?_⟩)) ?_
    refine c_joinb (d := 41) (decide (k ≠ o ∧ fitsL x (modeOf σ o) = false)) ?_ ?_
    rotate_left
    · intro J
      refine c_region ?_
      refine o_val (v_move rfl) (dd rfl) ?_
      refine o_val (v_move rfl) (dd rfl) ?_
      refine o_val (v_ne rfl rfl) (dd rfl) ?_
      refine o_val (v_move rfl) (dd rfl) ?_
      first | refine o_guard_t rfl rfl (fun g36 => ?_) (fun g36 => ?_) | refine o_guard rfl rfl (fun g36 => ?_) (fun g36 => ?_)
      · refine o_val (v_move rfl) (dd rfl) ?_
        refine o_on rfl rfl ?_
        refine o_val (v_move rfl) (dd rfl) ?_
        refine o_on rfl rfl ?_
        refine o_step (s_callf_keep cl32 (Fits_con _ _) rfl (dd rfl) (rX (by repeat constructor)) (fun _ => sX) (fun _ _ => ?_))
        refine o_on rfl rfl ?_
        refine o_val (v_not rfl) (dd rfl) ?_
        refine o_val (v_pick_t rfl rfl) (dd rfl) ?_
        refine o_nil ?_
        exact c_use J ⟨Env.as rfl (congrArg Value.bool (by first | rfl | (simp_all; done) | (simp_all; omega) | (simp; omega))), (by repeat (first | exact trivial | refine ⟨rfl, ?_⟩))⟩ (by first | exact Ent.refl _ | exact eX (by repeat constructor))
      · refine o_off rfl rfl rfl (dd rfl) ?_
        refine o_off rfl rfl rfl (dd rfl) ?_
        refine o_off rfl rfl rfl (dd rfl) ?_
        refine o_off rfl rfl rfl (dd rfl) ?_
        refine o_val (v_pick_f rfl rfl) (dd rfl) ?_
        refine o_nil ?_
        exact c_use J ⟨Env.as rfl (congrArg Value.bool (by first | rfl | (simp_all; done) | (simp_all; omega) | (simp; omega))), (by repeat (first | exact trivial | refine ⟨rfl, ?_⟩))⟩ (by first | exact Ent.refl _ | exact eX (by repeat constructor))
    refine c_cond_p rfl (fun hh => ?_) (fun hh => ?_)
    · refine c_region ?_
      refine o_val (v_move rfl) (dd rfl) ?_
      refine o_val (v_move rfl) (dd rfl) ?_
      refine o_step (s_buildSlice Try.underlying35 ti3 rfl rfl rfl (by decide) (by decide) (beside_int .i64 [k]) rfl rfl (dd rfl) fun v1 => ?_)
      refine o_step (s_append Try.underlying35 ti3 rfl (by decide) rfl rfl (dd rfl) (pB (by repeat constructor)) (pX (by repeat constructor)) rfl (by simp only [maxLen, List.length_cons, List.length_nil]; omega) (by simp only [maxLen, List.length_cons, List.length_nil]; omega) fun v2 => ?_)
      refine o_val (v_assign rfl) (dd rfl) ?_
      refine o_nil ?_
      refine c_inBlock ?_
      have hacc' : ∀ y, y ∈ acc ++ [k] ↔ y ∈ pre ++ [k] ∧ ∃ k', (y, k') ∈ m ∧ y ≠ o ∧ fitsL k' (modeOf σ o) = false := fun y => by
        rw [List.mem_append, List.mem_append, hacc, List.mem_singleton]
        constructor
        · rintro (⟨h1, h2⟩ | rfl)
          · exact ⟨.inl h1, h2⟩
          · exact ⟨.inr rfl, x, hx, hh.1, hh.2⟩
        · rintro ⟨h1 | rfl, h2⟩
          · exact .inl ⟨h1, h2⟩
          · exact .inr rfl
      refine c_use (IH ((pre ++ [k], v2, acc ++ [k])) (by first | omega | (dsimp only; omega)) (⟨hpn', hsub', hacc', by dsimp only; rw [List.length_append, hl1]; simp only [List.length_cons, List.length_nil]; omega⟩)) (by repeat (first | exact trivial | refine ⟨rfl, ?_⟩)) (eX (by repeat constructor))
    · have hacc' : ∀ y, y ∈ acc ↔ y ∈ pre ++ [k] ∧ ∃ k', (y, k') ∈ m ∧ y ≠ o ∧ fitsL k' (modeOf σ o) = false := fun y => by
        rw [List.mem_append, hacc, List.mem_singleton]
        constructor
        · exact fun h => ⟨.inl h.1, h.2⟩
        · rintro ⟨h1 | rfl, h2⟩
          · exact ⟨h1, h2⟩
          · obtain ⟨k', h3, h4, h5⟩ := h2
            have : k' = x := by
              have e1 := mem_lkA hnd h3
              rw [mem_lkA hnd hx] at e1
              exact (Option.some.inj e1).symm
            subst this
            exact absurd ⟨h4, h5⟩ hh
      refine c_skip ?_
      refine c_inBlock ?_
      refine c_use (IH ((pre ++ [k], u, acc)) (by first | omega | (dsimp only; omega)) (⟨hpn', hsub', hacc', by dsimp only; omega⟩)) (by repeat (first | exact trivial | refine ⟨rfl, ?_⟩)) (eX (by repeat constructor))
  · have hplen : pre.length ≤ m.length := by have := nodup_le hpn hsub; simpa using this
    have hacc2 : ∀ x, x ∈ acc ↔ ∃ k, σ.has (nameOf σ o) x = some k ∧ x ≠ o ∧ fitsL k (modeOf σ o) = false := fun x => by
      rw [hacc, hm]
      constructor
      · rintro ⟨_, k, h1, h2⟩
        exact ⟨k, mem_lkA hnd h1, h2⟩
      · rintro ⟨k, h1, h2⟩
        have h3 := lkA_mem h1
        exact ⟨hall x (by rw [mInt_keys]; exact List.mem_map.2 ⟨_, h3, rfl⟩), k, h3, h2⟩
    refine o_val (v_extract rfl rfl) (dd rfl) ?_
    refine o_nil ?_
    refine c_seq ?_
    refine c_cond_f rfl ?_
    refine c_exit rfl ?_
    refine c_seq ?_
    refine c_seq ?_
    refine c_region ?_
    refine o_val (v_move rfl) (dd rfl) ?_
    refine o_val (v_nilCheck rfl) (dd rfl) ?_
    refine o_val (v_fieldAddrC 0 Try.underlying75 rfl ti72 (by decide) rfl) (dd rfl) ?_
    refine o_val (v_load lone72 rfl (hX (by repeat constructor)) rfl) (dd rfl) ?_
    refine o_val (v_move rfl) (dd rfl) ?_
    refine o_val (v_lookupO kStr Try.underlying72 Try.underlying9 ti135 rfl rfl (hX (by repeat constructor))) (dd rfl) ?_
    try simp only [hl, Option.getD_none, Option.getD_some, Option.isSome_none, Option.isSome_some]
    refine o_val (v_field Try.underlying135 rfl lone133 rfl rfl) (dd rfl) ?_
    refine o_val ((by first | exact v_len_form Try.underlying133 rfl | exact v_len_sl Try.underlying133 rfl (hX (by repeat constructor)))) (dd rfl) ?_
    refine o_val (v_move rfl) (dd rfl) ?_
    refine o_nil ?_
    refine c_block ?_
    refine c_loopR (γ := Nat × Value) [(1, _), (4, _)] (fun g => wq.length - g.1) (fun g => g.1 ≤ wq.length ∧ ∀ (j : Nat) (hj : j < wq.length), j < g.1 → wq[j].1 ≠ o) (fun g => [(54, .int .i64 g.1), (8, g.2), (52, v), (53, .int .i64 wq.length)]) (fun g => [Own (eInt .i64) 3 g.2 (acc ++ (wq.take g.1).map (·.1)), MapO kInt ob (mInt m), Blk t 75 [.map o1, .map o2], MapO kStr o1 es, MapO kInt o2 (gs.map entG), OwnO eW 137 v wq, R]) ((0, u)) (⟨Nat.zero_le _, fun _ _ h => by omega⟩) (by repeat (first | exact trivial | refine ⟨rfl, ?_⟩)) (by rw [List.take_zero, List.map_nil, List.append_nil]; exact (eX (by repeat constructor))) ?_
    rintro ⟨i, u2⟩ ⟨hi, hfr⟩ IH2
    dsimp only at hi hfr ⊢
    have htl : ((wq.take i).map (·.1)).length = i := by simp; omega
    try dsimp only [List.cons_append, List.nil_append]
    refine c_seq ?_
    refine c_region ?_
    refine o_val (v_lt rfl rfl) (dd rfl) ?_
    refine o_nil ?_
    refine c_seq ?_
    refine c_cond_p rfl (fun hlt => ?_) (fun hlt => ?_)
    · have hi' : i < wq.length := by omega
      have hst : (wq.take (i + 1)).map (·.1) = (wq.take i).map (·.1) ++ [wq[i].1] := by rw [List.take_succ_eq_append_getElem hi', List.map_append]; rfl
      refine c_skip ?_
      refine c_seq ?_
      refine c_block ?_
      refine c_seq ?_
      refine c_region ?_
      refine o_val ((by first | exact v_indexAddrN Try.underlying133 ti137 rfl rfl (hX (by repeat constructor)) (by omega) | exact v_indexAddr Try.underlying133 ti137 rfl rfl (hX (by repeat constructor)) (by omega))) (dd rfl) ?_
      refine o_val (v_load_p (by repeat (first | exact PEnc.int _ | exact PEnc.str | exact PEnc.bool | exact PEnc.byte | exact PEnc.raw | apply PEnc.pair | apply PEnc.map)) ⟨_, Try.underlying137⟩ ti137 rfl (by repeat (first|exact el1 (by omega)|exact el2 (by omega)|exact el3 (by omega)|apply Elem.there))) (dd rfl) ?_
      refine o_step (s_alloc ti137 (dd rfl) (fun b12 => ?_))
      refine o_step (s_store_all ti137 rfl rfl (by first | exact CellsV.lit rfl | exact CellsV.one (by first | exact OneC.lit rfl | exact OneC.sl (hX (by repeat constructor)) )) (by repeat (first | exact OneAll.nil | (refine OneAll.cons ?_ ?_; · first | exact OneC.lit rfl | exact OneC.sl (hX (by repeat constructor)) ) | exact OneAll.rd (hX (by repeat constructor)))) rfl (pB (by repeat constructor)) rfl (?_))
      refine o_nil ?_
      refine c_seq ?_
      refine c_seq ?_
      refine c_region ?_
      refine o_val (v_fieldAddrC 0 Try.underlying137 rfl ti3 (by decide) rfl) (dd rfl) ?_
      refine o_val (v_load lone3 rfl (hX (by repeat constructor)) rfl) (dd rfl) ?_
      refine o_val (v_move rfl) (dd rfl) ?_
      refine o_val (v_eq rfl rfl) (dd rfl) ?_
      refine o_nil ?_
      refine c_cond_p rfl (fun ho => ?_) (fun ho => ?_)
      · refine c_exit rfl ?_
        refine c_seq ?_
        refine c_region ?_
        refine o_val (v_move rfl) (dd rfl) ?_
        refine o_val (v_assign rfl) (dd rfl) ?_
        refine o_nil ?_
        refine c_ret1 Try.func71 rfl rfl fun w O hS => ?_
        refine ⟨(u2, acc ++ (wq.take i).map (·.1)), rfl, ⟨fun x => ?_, by rw [List.length_append, htl]; omega⟩, Ent.get (Ent.get hS (eX (by repeat constructor))) (Ent.cons hcl)⟩
        rw [List.mem_append, hacc2]
        unfold aheadP
        rw [hw, front_stop hi' ho hfr]
      · refine c_skip ?_
        refine c_region ?_
        refine o_val (v_move rfl) (dd rfl) ?_
        refine o_val (v_fieldAddrC 0 Try.underlying137 rfl ti3 (by decide) rfl) (dd rfl) ?_
        refine o_val (v_load lone3 rfl (hX (by repeat constructor)) rfl) (dd rfl) ?_
        refine o_step (s_buildSlice Try.underlying35 ti3 rfl rfl rfl (by decide) (by decide) (beside_int .i64 [wq[i].1]) rfl rfl (dd rfl) fun v1 => ?_)
        refine o_step (s_append Try.underlying35 ti3 rfl (by decide) rfl rfl (dd rfl) (pB (by repeat constructor)) (pX (by repeat constructor)) rfl (by simp only [maxLen, List.length_append, List.length_cons, List.length_nil, htl]; omega) (by simp only [maxLen, List.length_append, List.length_cons, List.length_nil, htl]; omega) fun v2 => ?_)
        refine o_val (v_assign rfl) (dd rfl) ?_
        refine o_nil ?_
        refine c_inBlock ?_
        refine c_region ?_
        refine o_val ((by first | exact v_add64 rfl rfl (by omega) | exact v_add rfl rfl)) (dd rfl) ?_
        refine o_val (v_move rfl) (dd rfl) ?_
        refine o_nil ?_
        rw [List.append_assoc, ← hst]
        refine c_use (IH2 ((i + 1, v2)) (by first | omega | (dsimp only; omega)) (⟨by dsimp only; omega, fun j hj hji => (Nat.lt_succ_iff_lt_or_eq.1 hji).elim (hfr j hj) fun h => by subst h; exact ho⟩)) (by repeat (first | exact trivial | refine ⟨rfl, ?_⟩)) (eX (by repeat constructor))
    · have hie : i = wq.length := by omega
      refine c_exit rfl ?_
      refine c_seq ?_
      refine c_region ?_
      refine o_val (v_move rfl) (dd rfl) ?_
      refine o_val (v_assign rfl) (dd rfl) ?_
      refine o_nil ?_
      refine c_ret1 Try.func71 rfl rfl fun w O hS => ?_
      refine ⟨(u2, acc ++ (wq.take i).map (·.1)), rfl, ⟨fun x => ?_, by rw [List.length_append, htl]; omega⟩, Ent.get (Ent.get hS (eX (by repeat constructor))) (Ent.cons hcl)⟩
      rw [List.mem_append, hacc2, hie, List.take_length]
      unfold aheadP
      rw [hw, front_all fun j hj => hfr j hj (by omega)]
end Go.Proofs.Ytnamhhmfnokfiaa
/- Chapter 12: who waits for ever. -/
namespace Go.Proofs.Ytnamhhmfnokfiaa
open Go Go.SL
/-- The greatest row each of whose members one of it stands in the way of. -/
def ClosedT (σ : Sg) (T : Int → Prop) : Prop := (∀ x, T x → (σ.goal x).isSome = true) ∧ ∀ o, T o → ∃ x, T x ∧ aheadP σ o x
def StuckP (σ : Sg) (l : List Int) : Prop := l.Pairwise (· < ·) ∧ ClosedT σ (· ∈ l) ∧ ∀ T, ClosedT σ T → ∀ x, T x → x ∈ l
abbrev Gs := List (Int × ByteArray)
def inG (sm : Gs) (x : Int) : Prop := x ∈ sm.map fun q : Int × ByteArray => q.1
def GreatJ (σ : Sg) (sm : Gs) : Prop := (∀ T, ClosedT σ T → ∀ x, T x → inG sm x) ∧ (∀ x, inG sm x → (σ.goal x).isSome = true)
theorem inG_del {sm : Gs} {o x : Int} : inG (delA sm o) x ↔ inG sm x ∧ x ≠ o := by
  unfold inG
  rw [← lkA_isSome, ← lkA_isSome, lkA_delA]
  unfold delF
  by_cases h : x = o
  · simp [h]
  · simp [h]
theorem great_del {σ : Sg} {sm : Gs} {o : Int} (h : GreatJ σ sm) (hb : ¬ ∃ x, inG sm x ∧ aheadP σ o x) : GreatJ σ (delA sm o) := by
  refine ⟨fun T hT x hx => inG_del.2 ⟨h.1 T hT x hx, fun e => ?_⟩, fun x hx => h.2 x (inG_del.1 hx).1⟩
  subst e
  obtain ⟨y, h1, h2⟩ := hT.2 x hx
  exact hb ⟨y, h.1 T hT y h1, h2⟩
theorem delA_lt {sm : Gs} {o : Int} (h : inG sm o) : (delA sm o).length < sm.length := by
  unfold delA
  obtain ⟨q, hq, he⟩ := List.mem_map.1 h
  rcases Nat.lt_or_ge ((sm.filter fun p => decide (p.1 ≠ o)).length) sm.length with h1 | h1
  · exact h1
  · have h2 : (sm.filter fun p => decide (p.1 ≠ o)) = sm := List.Sublist.eq_of_length_le List.filter_sublist h1
    rw [List.filter_eq_self] at h2
    have := h2 q hq
    simp [he] at this
theorem any_in {σ : Sg} {sm : Gs} {o : Int} {xs : List Int} (hx : ∀ x, x ∈ xs ↔ aheadP σ o x) : (xs.any fun x => (lkA sm x).isSome) = true ↔ ∃ x, inG sm x ∧ aheadP σ o x := by
  rw [List.any_eq_true]
  constructor
  · rintro ⟨x, h1, h2⟩
    exact ⟨x, lkA_isSome.1 h2, (hx x).1 h1⟩
  · rintro ⟨x, h1, h2⟩
    exact ⟨x, (hx x).2 h2, lkA_isSome.2 h1⟩
attribute [local irreducible] Cfg Kont StepK Val Con Qops Any Sl Own Blk BlkR Rd Pu ExA AllA Has Pick Ent Elem Beside Callable TI Lone OwnO AndA
set_option maxRecDepth 100000 in
theorem stuck1_con (c : Nat) (oc : Option Nat) (sm : Gs) (x : Int) :
    Con Try.prog 72 [.int .i64 x, .pointer (some ⟨c, 0, none⟩)] [AllA [Blk c 73 [.map oc], MapO kInt oc (sm.map entG)]] (γ := Unit) (fun _ => .bool (lkA sm x).isSome) (fun _ => True)
      (fun _ => [AllA [Blk c 73 [.map oc], MapO kInt oc (sm.map entG)]]) := by
  refine con_of Try.func72 rfl (dd rfl) fun w0 O0 => ?_
  refine c_all ?_
  have hlk := look_entG sm x
  cases hls : lkA sm x with
  | none =>
    rw [hls] at hlk
    simp only [Option.map_none] at hlk
    refine c_seq ?_
    refine c_region ?_
    refine o_val (v_assign rfl) (dd rfl) ?_
    refine o_nil ?_
    refine c_seq ?_
    refine c_region ?_
    refine o_val (v_load lone73 rfl (hX (by repeat constructor)) rfl) (dd rfl) ?_
    refine o_val (v_move rfl) (dd rfl) ?_
    refine o_val (v_lookupO2 kInt Try.underlying73 Try.underlying3 ti140 rfl rfl (hX (by repeat constructor))) (dd rfl) ?_
    try simp only [hlk, Option.getD_none, Option.getD_some, Option.isSome_none, Option.isSome_some]
    refine o_val (v_move rfl) (dd rfl) ?_
    refine o_val (v_extract rfl rfl) (dd rfl) ?_
    refine o_val (v_extract rfl rfl) (dd rfl) ?_
    refine o_step (s_alloc ti140 (dd rfl) (fun b4 => ?_))
    refine o_step (s_store_all ti140 rfl rfl (by first | exact CellsV.lit rfl | exact CellsV.one (by first | exact OneC.lit rfl | exact OneC.sl (hX (by repeat constructor)) )) (by repeat (first | exact OneAll.nil | (refine OneAll.cons ?_ ?_; · first | exact OneC.lit rfl | exact OneC.sl (hX (by repeat constructor)) ) | exact OneAll.rd (hX (by repeat constructor)))) rfl (pB (by repeat constructor)) rfl (?_))
    refine o_val (v_assign rfl) (dd rfl) ?_
    refine o_nil ?_
    refine c_seq ?_
    refine c_region ?_
    refine o_val (v_move rfl) (dd rfl) ?_
    refine o_val (v_assign rfl) (dd rfl) ?_
    refine o_nil ?_
    refine c_ret1 Try.func72 rfl rfl fun w O hS => ?_
    exact ⟨(), rfl, trivial, Ent.get (Ent.get hS (L' := [Blk c 73 [.map oc], MapO kInt oc (sm.map entG)]) (eX (by repeat constructor))) all_mk⟩
  | some n =>
    rw [hls] at hlk
    simp only [Option.map_some, goalV] at hlk
    refine c_seq ?_
    refine c_region ?_
    refine o_val (v_assign rfl) (dd rfl) ?_
    refine o_nil ?_
    refine c_seq ?_
    refine c_region ?_
    refine o_val (v_load lone73 rfl (hX (by repeat constructor)) rfl) (dd rfl) ?_
    refine o_val (v_move rfl) (dd rfl) ?_
    refine o_val (v_lookupO2 kInt Try.underlying73 Try.underlying3 ti140 rfl rfl (hX (by repeat constructor))) (dd rfl) ?_
    try simp only [hlk, Option.getD_none, Option.getD_some, Option.isSome_none, Option.isSome_some]
    refine o_val (v_move rfl) (dd rfl) ?_
    refine o_val (v_extract rfl rfl) (dd rfl) ?_
    refine o_val (v_extract rfl rfl) (dd rfl) ?_
    refine o_step (s_alloc ti140 (dd rfl) (fun b4 => ?_))
    refine o_step (s_store_all ti140 rfl rfl (by first | exact CellsV.lit rfl | exact CellsV.one (by first | exact OneC.lit rfl | exact OneC.sl (hX (by repeat constructor)) )) (by repeat (first | exact OneAll.nil | (refine OneAll.cons ?_ ?_; · first | exact OneC.lit rfl | exact OneC.sl (hX (by repeat constructor)) ) | exact OneAll.rd (hX (by repeat constructor)))) rfl (pB (by repeat constructor)) rfl (?_))
    refine o_val (v_assign rfl) (dd rfl) ?_
    refine o_nil ?_
    refine c_seq ?_
    refine c_region ?_
    refine o_val (v_move rfl) (dd rfl) ?_
    refine o_val (v_assign rfl) (dd rfl) ?_
    refine o_nil ?_
    refine c_ret1 Try.func72 rfl rfl fun w O hS => ?_
    exact ⟨(), rfl, trivial, Ent.get (Ent.get hS (L' := [Blk c 73 [.map oc], MapO kInt oc (sm.map entG)]) (eX (by repeat constructor))) all_mk⟩
set_option maxRecDepth 100000 in
theorem stuck_con (N t : Nat) (σ : Sg) (hN : N ≤ 1000) :
    Con Try.prog 43 [.pointer (some ⟨t, 0, none⟩)] [TabA N t σ] (γ := Value × List Int) (fun r => r.1) (fun r => StuckP σ r.2 ∧ r.2.length ≤ N) (fun r => [Own (eInt .i64) 3 r.1 r.2, TabA N t σ]) := by
  refine con_of Try.func43 rfl (dd rfl) fun w0 O0 => ?_
  refine c_tab fun o1 o2 ps gs hv => ?_
  obtain ⟨hnn, h2, h3, h4, h5, h6, h7⟩ := id hv
  refine c_seq ?_
  refine c_region ?_
  refine o_val (v_assign rfl) (dd rfl) ?_
  refine o_nil ?_
  refine c_seq ?_
  refine c_region ?_
  refine o_val (v_move rfl) (dd rfl) ?_
  refine o_val (v_nilCheck rfl) (dd rfl) ?_
  refine o_val (v_fieldAddrC 1 Try.underlying75 rfl ti73 (by decide) rfl) (dd rfl) ?_
  refine o_val (v_load lone73 rfl (hX (by repeat constructor)) rfl) (dd rfl) ?_
  refine o_step (s_callf cl68 (mapsClone_G o2 (gs.map entG)) rfl (dd rfl) (pXs (by repeat constructor)) fun oc hoc => ?_)
  refine o_step (s_alloc ti73 (dd rfl) (fun b3 => ?_))
  refine o_step (s_store1 ti73 rfl rfl (by first | exact OneC.lit rfl | exact OneC.sl (hX (by repeat constructor)) ) (pB (by repeat constructor)) (by first | decide | exact Nat.le_of_ble_eq_true rfl | simp) (by first | (dsimp only [List.set_cons_succ, List.set_cons_zero]; first | done | exact rfl) | rfl) (?_))
  refine o_nil ?_
  refine c_seq ?_
  refine c_seq ?_
  refine c_region ?_
  refine o_val (v_assign rfl) (dd rfl) ?_
  refine o_nil ?_
  refine c_block ?_
  refine c_ent (L' := TabA N t σ :: [MapO kInt oc (gs.map entG), Blk b3 73 [.map oc]]) (Ent.trans (eX (by repeat constructor)) (tab_mk (L := [MapO kInt oc (gs.map entG), Blk b3 73 [.map oc]]) hv)) ?_
  refine c_loopR (γ := Gs × Bool) [(0, _), (2, _), (3, _)] (fun g => 2 * g.1.length + g.2.toNat) (fun g => g.1.length ≤ N ∧ GreatJ σ g.1 ∧ (g.2 = false → ∀ o, inG g.1 o → ∃ x, inG g.1 x ∧ aheadP σ o x)) (fun g => [(4, .bool g.2)]) (fun g => [TabA N t σ, MapO kInt oc (g.1.map entG), Blk b3 73 [.map oc]]) ((gs, true)) (⟨h6, ⟨fun T hT x hx => by have := hT.1 x hx; rw [h3] at this; exact lkA_isSome.1 this, fun x hx => by rw [h3]; exact lkA_isSome.2 hx⟩, fun h => by cases h⟩) (by repeat (first | exact trivial | refine ⟨rfl, ?_⟩)) (eX (by repeat constructor)) ?_
  rintro ⟨sm, some⟩ ⟨hsl, hgr, hfx⟩ IH
  dsimp only at hsl hgr hfx ⊢
  have hel : (sm.map entG).length = sm.length := List.length_map _
  try dsimp only [List.cons_append, List.nil_append]
  refine c_seq ?_
  refine c_seq ?_
  refine c_region ?_
  refine o_val (v_move rfl) (dd rfl) ?_
  refine o_nil ?_
  refine c_cond rfl (fun hs => ?_) (fun hs => ?_)
  · subst hs
    refine c_skip ?_
    refine c_block ?_
    refine c_seq ?_
    refine c_region ?_
    refine o_val (v_assign rfl) (dd rfl) ?_
    refine o_nil ?_
    refine c_seq ?_
    refine c_region ?_
    refine o_val (v_load lone73 rfl (hX (by repeat constructor)) rfl) (dd rfl) ?_
    refine o_step (s_callf_keep cl69 (keys_G oc) rfl (dd rfl) (rX (by repeat constructor)) (fun _ => sX) (fun c15 _ => ?_))
    refine o_step (s_callf cl53 (sorted_I cl103 (keysIter_G c15 oc (sm.map entG)) (fun pre x hx => by have := nxK_len hx; omega) (fun pre hf => by have := finK_len hf; omega)) rfl (dd rfl) (pXs (by repeat constructor)) fun r hr => ?_)
    refine o_val ((by first | exact v_len_form Try.underlying35 rfl | exact v_len_sl Try.underlying35 rfl (hX (by repeat constructor)))) (dd rfl) ?_
    refine o_val (v_move rfl) (dd rfl) ?_
    refine o_nil ?_
    refine c_block ?_
    obtain ⟨rv, ks⟩ := r
    obtain ⟨pre, hf, he⟩ := hr
    dsimp only at he ⊢
    have hlen := finK_len hf
    have hk := keysOf_fin (entG_keys sm) hf
    rw [← he] at hk
    have hin : ∀ x, x ∈ ks ↔ inG sm x := fun x => by rw [hk.2, lkA_isSome]; rfl
    have hkl : ks.length ≤ N := by rw [he, sortI_len]; omega
    refine c_loopR (γ := Nat × Gs × Bool) [(0, _), (2, _), (3, _), (13, _), (14, _), (15, _)] (fun g => ks.length - g.1) (fun g => g.1 ≤ ks.length ∧ GreatJ σ g.2.1 ∧ g.2.1.length ≤ sm.length ∧ (g.2.2 = true → g.2.1.length < sm.length) ∧ (g.2.2 = false → g.2.1 = sm ∧ ∀ (j : Nat) (hj : j < ks.length), j < g.1 → ∃ x, inG sm x ∧ aheadP σ ks[j] x) ∧ ∀ (j : Nat) (hj : j < ks.length), g.1 ≤ j → inG g.2.1 ks[j]) (fun g => [(18, .int .i64 g.1), (16, rv), (17, .int .i64 ks.length), (4, .bool g.2.2)]) (fun g => [Own (eInt .i64) 3 rv ks, TabA N t σ, MapO kInt oc (g.2.1.map entG), Blk b3 73 [.map oc]]) ((0, sm, false)) (⟨Nat.zero_le _, hgr, Nat.le_refl _, (fun h => by cases h), (fun _ => ⟨rfl, fun _ _ h => by omega⟩), fun j hj _ => (hin _).1 (List.getElem_mem hj)⟩) (by repeat (first | exact trivial | refine ⟨rfl, ?_⟩)) (eX (by repeat constructor)) ?_
    rintro ⟨i, sm', some'⟩ ⟨hi, hgr', hle', hlt', hst', hrest⟩ IH2
    dsimp only at hi hgr' hle' hlt' hst' hrest ⊢
    try dsimp only [List.cons_append, List.nil_append]
    refine c_seq ?_
    refine c_region ?_
    refine o_val (v_lt rfl rfl) (dd rfl) ?_
    refine o_nil ?_
    refine c_seq ?_
    refine c_cond_p rfl (fun hlt => ?_) (fun hlt => ?_)
    · have hi' : i < ks.length := by omega
      have hnei : ∀ (j : Nat) (hj : j < ks.length), i + 1 ≤ j → ks[j] ≠ ks[i] := fun j hj hij e => by
        have := List.pairwise_iff_getElem.1 hk.1 i j hi' hj (by omega)
        omega
      refine c_skip ?_
      refine c_seq ?_
      refine c_block ?_
      refine c_seq ?_
      refine c_region ?_
      refine o_val ((by first | exact v_indexAddrN Try.underlying35 ti3 rfl rfl (hX (by repeat constructor)) (by omega) | exact v_indexAddr Try.underlying35 ti3 rfl rfl (hX (by repeat constructor)) (by omega))) (dd rfl) ?_
      refine o_val (v_load_int lone3 rfl (by repeat (first | exact Elem.sl (List.getElem?_eq_getElem (by omega)) | exact Elem.own (List.getElem?_eq_getElem (by omega)) | exact Elem.ownO (List.getElem?_eq_getElem (by omega)) | apply Elem.there))) (dd rfl) ?_
      refine o_val (v_assign rfl) (dd rfl) ?_
      refine o_nil ?_
      refine c_seq ?_
      refine c_region ?_
      refine o_val (v_move rfl) (dd rfl) ?_
      refine o_val (v_move rfl) (dd rfl) ?_
      refine o_step (s_callf cl71 (ahead_con N t σ (ks[i]'hi') hN) rfl (dd rfl) (pXs (by repeat constructor)) fun r24 hr24 => ?_)
      refine o_val (v_makeFunc rfl rfl) (dd rfl) ?_
      refine o_mk (all_mk (l := [Blk b3 73 [.map oc], MapO kInt oc (sm'.map entG)])) (pXs (by repeat constructor)) ?_
      refine o_step (s_callf cl70 (containsFunc_I (p := fun x => (lkA sm' x).isSome) (R := AllA [Blk b3 73 [.map oc], MapO kInt oc (sm'.map entG)]) cl72 r24.1 r24.2 (fun x _ => stuck1_con b3 oc sm' x) (by omega)) rfl (dd rfl) (pXs (by repeat constructor)) fun _ _ => ?_)
      refine o_val (v_assign rfl) (dd rfl) ?_
      refine o_nil ?_
      refine c_seq ?_
      refine c_ent (L' := AllA [Blk b3 73 [.map oc], MapO kInt oc (sm'.map entG)] :: [Own (eInt .i64) 3 rv ks, TabA N t σ]) (eX (by repeat constructor)) ?_
      refine c_all ?_
      refine c_region ?_
      refine o_val (v_move rfl) (dd rfl) ?_
      refine o_val (v_not rfl) (dd rfl) ?_
      refine o_nil ?_
      refine c_cond rfl (fun hb => ?_) (fun hb => ?_)
      · have hnb : ¬ ∃ x, inG sm' x ∧ aheadP σ (ks[i]'hi') x := fun h => by
          rw [(any_in hr24.1).2 h] at hb; cases hb
        refine c_seq ?_
        refine c_region ?_
        refine o_val (v_load lone73 rfl (hX (by repeat constructor)) rfl) (dd rfl) ?_
        refine o_val (v_move rfl) (dd rfl) ?_
        refine o_step (s_deleteO kInt rfl Try.underlying73 Try.underlying3 rfl rfl (pX (by repeat constructor)) (?_))
        refine o_nil ?_
        refine c_region ?_
        refine o_val (v_assign rfl) (dd rfl) ?_
        refine o_nil ?_
        refine c_inBlock ?_
        refine c_region ?_
        refine o_val ((by first | exact v_add64 rfl rfl (by omega) | exact v_add rfl rfl)) (dd rfl) ?_
        refine o_val (v_move rfl) (dd rfl) ?_
        refine o_nil ?_
        rw [del_entG]
        have hdl := delA_lt (hrest i hi' (Nat.le_refl _))
        refine c_use (IH2 ((i + 1, delA sm' (ks[i]'hi'), true)) (by first | omega | (dsimp only; omega)) (⟨by dsimp only; omega, great_del hgr' hnb, by dsimp only; omega, (fun _ => by dsimp only; omega), (fun h => by cases h), fun j hj hij => inG_del.2 ⟨hrest j hj (by dsimp only at hij; omega), hnei j hj hij⟩⟩)) (by repeat (first | exact trivial | refine ⟨rfl, ?_⟩)) (eX (by repeat constructor))
      · have hbk : ∃ x, inG sm' x ∧ aheadP σ (ks[i]'hi') x := (any_in hr24.1).1 (by simpa using hb)
        refine c_skip ?_
        refine c_inBlock ?_
        refine c_region ?_
        refine o_val ((by first | exact v_add64 rfl rfl (by omega) | exact v_add rfl rfl)) (dd rfl) ?_
        refine o_val (v_move rfl) (dd rfl) ?_
        refine o_nil ?_
        refine c_use (IH2 ((i + 1, sm', some')) (by first | omega | (dsimp only; omega)) (⟨by dsimp only; omega, hgr', hle', hlt', (fun h => ⟨(hst' h).1, fun j hj hji => (Nat.lt_succ_iff_lt_or_eq.1 hji).elim ((hst' h).2 j hj) fun e => by subst e; rw [(hst' h).1] at hbk; exact hbk⟩), fun j hj hij => hrest j hj (by dsimp only at hij; omega)⟩)) (by repeat (first | exact trivial | refine ⟨rfl, ?_⟩)) (eX (by repeat constructor))
    · have hie : i = ks.length := by omega
      refine c_exit rfl ?_
      refine c_inBlock ?_
      have hfix : some' = false → ∀ o, inG sm' o → ∃ x, inG sm' x ∧ aheadP σ o x := fun h o ho => by
        obtain ⟨e1, e2⟩ := hst' h
        rw [e1] at ho ⊢
        obtain ⟨j, hj, rfl⟩ := List.mem_iff_getElem.1 ((hin o).2 ho)
        exact e2 j hj (by omega)
      have hmu : 2 * sm'.length + some'.toNat < 2 * sm.length + true.toNat := by
        have ht : true.toNat = 1 := rfl
        cases some' with
        | true => have := hlt' rfl; omega
        | false =>
          have hf0 : false.toNat = 0 := rfl
          have := hst' rfl
          omega
      refine c_use (IH (sm', some') hmu ⟨by dsimp only; omega, hgr', hfix⟩) (by repeat (first | exact trivial | refine ⟨rfl, ?_⟩)) (eX (by repeat constructor))
  · refine c_exit rfl ?_
    refine c_seq ?_
    refine c_region ?_
    refine o_val (v_load lone73 rfl (hX (by repeat constructor)) rfl) (dd rfl) ?_
    refine o_step (s_callf_keep cl69 (keys_G oc) rfl (dd rfl) (rX (by repeat constructor)) (fun _ => sX) (fun c32 _ => ?_))
    refine o_step (s_callf cl53 (sorted_I cl103 (keysIter_G c32 oc (sm.map entG)) (fun pre x hx => by have := nxK_len hx; omega) (fun pre hf => by have := finK_len hf; omega)) rfl (dd rfl) (pXs (by repeat constructor)) fun r hr => ?_)
    refine o_val (v_assign rfl) (dd rfl) ?_
    refine o_nil ?_
    refine c_ret1 Try.func43 rfl rfl fun w O hS => ?_
    obtain ⟨pre, hf, he⟩ := hr
    have hlen := finK_len hf
    have hk := keysOf_fin (entG_keys sm) hf
    rw [← he] at hk
    have hin : ∀ x, x ∈ r.2 ↔ inG sm x := fun x => by rw [hk.2, lkA_isSome]; rfl
    refine ⟨r, rfl, ⟨⟨hk.1, ⟨fun x hx => hgr.2 x ((hin x).1 hx), fun o ho => ?_⟩, fun T hT x hx => (hin x).2 (hgr.1 T hT x hx)⟩, by rw [he, sortI_len]; omega⟩, Ent.get hS (eX (by repeat constructor))⟩
    obtain ⟨x, h8, h9⟩ := hfx hs o ((hin o).1 ho)
    exact ⟨x, (hin x).2 h8, h9⟩
end Go.Proofs.Ytnamhhmfnokfiaa
/- Chapter 12: the table and the document's rows say the same: Ask. -/
namespace Go.Proofs.Ytnamhhmfnokfiaa
open Go Go.SL
def q2 (x : Hs) : Int × Int := (x.1, x.2.2)
def RelP (σ : Sg) (L W : List Hs) : Prop := (∀ n, σ.has n = fun o => getR L o n) ∧ (∀ n, σ.wait n = (queueR W n).map q2) ∧ σ.goal = fun o => (waitR W o).map (·.2.1)
def keyH (x : Hs) : Int × ByteArray := (x.1, x.2.1)
/-- What holds of the rows at any time. -/
structure Inv0 (L W : List Hs) : Prop where
  wn : (W.map (·.1)).Nodup
  ln : (L.map keyH).Nodup
  lp : ∀ x ∈ L, 0 ≤ x.1
  wp : ∀ x ∈ W, 0 ≤ x.1
  lm : ∀ x ∈ L, isM x.2.2
  wm : ∀ x ∈ W, isM x.2.2
  fit : ∀ x ∈ L, ∀ y ∈ L, x.2.1 = y.2.1 → x.1 ≠ y.1 → fitsL x.2.2 y.2.2 = true
/-- .. and that the head of no queue may have what it wants. -/
def HeadP (L W : List Hs) : Prop := ∀ n x, (queueR W n)[0]? = some x → mayR L x = false
theorem fits_symm (a b : Int) : fitsL a b = fitsL b a := by
  unfold fitsL
  exact decide_eq_decide.2 ⟨fun h => ⟨h.2.1, h.1, h.2.2.2.1, h.2.2.1, by rcases h.2.2.2.2 with h | h | h <;> simp [h]⟩, fun h => ⟨h.2.1, h.1, h.2.2.2.1, h.2.2.1, by rcases h.2.2.2.2 with h | h | h <;> simp [h]⟩⟩
theorem both_isM {a b : Int} (ha : isM a) (hb : isM b) : isM (bothL a b) := by
  unfold bothL isM at *
  split
  · omega
  · split
    · omega
    · split <;> omega
theorem both_fits {a b c : Int} (ha : isM a) (hb : isM b) (h : fitsL (bothL a b) c = true) : fitsL a c = true ∧ fitsL b c = true := by
  have hc : isM c := (of_decide_eq_true h).2.1
  rcases isM_cases ha with rfl | rfl | rfl | rfl <;> rcases isM_cases hb with rfl | rfl | rfl | rfl <;> rcases isM_cases hc with rfl | rfl | rfl | rfl <;> revert h <;> decide
/-! ### look-ups -/
theorem getR_mem {L : List Hs} {o : Int} {n : ByteArray} {k : Int} (h : getR L o n = some k) : (o, n, k) ∈ L := by
  unfold getR at h
  obtain ⟨x, hx, he⟩ := Option.map_eq_some_iff.1 h
  have h1 := List.find?_some hx
  have h2 : x.1 = o ∧ x.2.1 = n := of_decide_eq_true h1
  have h3 := List.mem_of_find?_eq_some hx
  obtain ⟨a, b, c⟩ := x
  simp only at h2 he
  obtain ⟨rfl, rfl⟩ := h2
  subst he; exact h3
theorem mem_getR {L : List Hs} (hn : (L.map keyH).Nodup) {x : Hs} (hx : x ∈ L) : getR L x.1 x.2.1 = some x.2.2 := by
  induction L with
  | nil => cases hx
  | cons y L ih =>
    rw [List.map_cons, List.nodup_cons] at hn
    unfold getR at ih ⊢
    rw [List.find?_cons]
    rcases List.mem_cons.1 hx with rfl | hx
    · rw [show hasP x.1 x.2.1 x = true from decide_eq_true ⟨rfl, rfl⟩]; rfl
    · have : hasP x.1 x.2.1 y = false := decide_eq_false fun h => hn.1 (List.mem_map.2 ⟨x, hx, by unfold keyH; rw [h.1, h.2]⟩)
      rw [this]; exact ih hn.2 hx
theorem getR_none {L : List Hs} {o : Int} {n : ByteArray} : getR L o n = none ↔ ∀ x ∈ L, ¬ (x.1 = o ∧ x.2.1 = n) := by
  unfold getR
  rw [Option.map_eq_none_iff, List.find?_eq_none]
  exact ⟨fun h x hx k => h x hx (decide_eq_true k), fun h x hx k => h x hx (of_decide_eq_true k)⟩
theorem waitR_mem {W : List Hs} {o : Int} {x : Hs} (h : waitR W o = some x) : x ∈ W ∧ x.1 = o := ⟨List.mem_of_find?_eq_some h, of_decide_eq_true (List.find?_some (p := fun x : Hs => decide (x.1 = o)) h)⟩
theorem mem_waitR {W : List Hs} (hn : (W.map (·.1)).Nodup) {x : Hs} (hx : x ∈ W) : waitR W x.1 = some x := by
  induction W with
  | nil => cases hx
  | cons y W ih =>
    rw [List.map_cons, List.nodup_cons] at hn
    unfold waitR at ih ⊢
    rw [List.find?_cons]
    rcases List.mem_cons.1 hx with rfl | hx
    · simp
    · have : decide (y.1 = x.1) = false := decide_eq_false fun h => hn.1 (List.mem_map.2 ⟨x, hx, h.symm⟩)
      rw [this]; exact ih hn.2 hx
theorem waitR_none {W : List Hs} {o : Int} : waitR W o = none ↔ ∀ x ∈ W, x.1 ≠ o := by
  unfold waitR
  rw [List.find?_eq_none]
  exact ⟨fun h x hx k => h x hx (decide_eq_true k), fun h x hx k => h x hx (of_decide_eq_true k)⟩
theorem mayR_iff {L : List Hs} (hn : (L.map keyH).Nodup) (o : Int) (n : ByteArray) (k : Int) : mayR L (o, n, k) = true ↔ mayP (fun x => getR L x n) o k := by
  unfold mayR mayP
  rw [List.all_eq_true]
  constructor
  · intro h x j hx
    have h1 := h _ (getR_mem hx)
    by_cases hxo : x = o
    · exact .inl hxo
    · right
      unfold barR at h1
      simpa [hxo] using h1
  · intro h x hx
    unfold barR
    by_cases hc : x.2.1 = n ∧ x.1 ≠ o
    · have := h x.1 x.2.2 (by rw [← hc.1]; exact mem_getR hn hx)
      rw [this.resolve_left hc.2]; simp
    · rw [decide_eq_false hc]; rfl
theorem mayR_false {L : List Hs} {w : Hs} : mayR L w = false ↔ ∃ x ∈ L, x.2.1 = w.2.1 ∧ x.1 ≠ w.1 ∧ fitsL x.2.2 w.2.2 = false := by
  unfold mayR
  rw [List.all_eq_false]
  constructor
  · rintro ⟨x, hx, h⟩
    have h' : barR w x = true := by simpa using h
    unfold barR at h'
    rw [Bool.and_eq_true, decide_eq_true_eq, Bool.not_eq_true'] at h'
    exact ⟨x, hx, h'.1.1, h'.1.2, h'.2⟩
  · rintro ⟨x, hx, h1, h2, h3⟩
    exact ⟨x, hx, by unfold barR; rw [h3, decide_eq_true ⟨h1, h2⟩]; decide⟩
theorem getR_gets {L : List Hs} {w : Hs} {o : Int} {n : ByteArray} : getR (getsR L w) o n = if w.1 = o ∧ w.2.1 = n then some w.2.2 else getR L o n := by
  unfold getsR getR
  rw [List.find?_append]
  by_cases h : w.1 = o ∧ w.2.1 = n
  · rw [if_pos h]
    have h1 : (L.filter fun x => !hasP w.1 w.2.1 x).find? (hasP o n) = none := by
      rw [List.find?_eq_none]
      intro x hx
      have := (List.mem_filter.1 hx).2
      rw [h.1, h.2] at this
      simpa using this
    rw [h1, Option.none_or, List.find?_cons, show hasP o n w = true from decide_eq_true h]; rfl
  · rw [if_neg h]
    have h1 : (L.filter fun x => !hasP w.1 w.2.1 x).find? (hasP o n) = L.find? (hasP o n) := by
      rw [List.find?_filter]
      congr 1
      funext x
      by_cases hx : x.1 = o ∧ x.2.1 = n
      · have : ¬ (x.1 = w.1 ∧ x.2.1 = w.2.1) := fun k => h ⟨k.1.symm.trans hx.1, k.2.symm.trans hx.2⟩
        unfold hasP; rw [decide_eq_true hx, decide_eq_false this]; rfl
      · unfold hasP; rw [decide_eq_false hx]; simp
    rw [h1, List.find?_cons, show hasP o n w = false from decide_eq_false h, List.find?_nil, Option.or_none]
theorem gets_nodup {L : List Hs} {w : Hs} (h : (L.map keyH).Nodup) : ((getsR L w).map keyH).Nodup := by
  unfold getsR
  rw [List.map_append]
  refine List.nodup_append.2 ⟨(List.filter_sublist.map _).nodup h, by simp, fun a ha b hb e => ?_⟩
  obtain ⟨x, hx, rfl⟩ := List.mem_map.1 ha
  have hb' : b = keyH w := by simpa using hb
  have h1 := (List.mem_filter.1 hx).2
  rw [hb'] at e
  have e1 : x.1 = w.1 := congrArg (fun p : Int × ByteArray => p.1) (show keyH x = keyH w from e)
  have e2 : x.2.1 = w.2.1 := congrArg (fun p : Int × ByteArray => p.2) (show keyH x = keyH w from e)
  unfold hasP at h1
  rw [decide_eq_true ⟨e1, e2⟩] at h1; cases h1
theorem mem_gets {L : List Hs} {w x : Hs} : x ∈ getsR L w ↔ (x ∈ L ∧ ¬ (x.1 = w.1 ∧ x.2.1 = w.2.1)) ∨ x = w := by
  unfold getsR
  rw [List.mem_append, List.mem_filter, List.mem_singleton]
  have e : (!hasP w.1 w.2.1 x) = true ↔ ¬ (x.1 = w.1 ∧ x.2.1 = w.2.1) := by unfold hasP; rw [Bool.not_eq_true', decide_eq_false_iff_not]
  rw [e]
/-! ### the place in a queue -/
def placeQ (L : List Hs) (has : Bool) (Q : List Hs) : Nat := if has = true then Q.findIdx (fun x => !tooR L x) else Q.length
theorem ins_split (L : List Hs) (n : ByteArray) (has : Bool) (w : Hs) : ∀ W : List Hs, ∃ A B, W = A ++ B ∧ insR L n has w W = A ++ w :: B ∧ (queueR A n).length = placeQ L has (queueR W n)
  | [] => ⟨[], [], rfl, rfl, by unfold placeQ; split <;> rfl⟩
  | x :: W => by
    unfold insR
    by_cases hc : has = true ∧ x.2.1 = n ∧ tooR L x = false
    · rw [if_pos hc]
      refine ⟨[], x :: W, rfl, rfl, ?_⟩
      unfold placeQ queueR
      rw [if_pos hc.1, List.filter_cons, if_pos (decide_eq_true hc.2.1), List.findIdx_cons, hc.2.2]; rfl
    · rw [if_neg hc]
      obtain ⟨A, B, h1, h2, h3⟩ := ins_split L n has w W
      refine ⟨x :: A, B, by rw [h1]; rfl, by rw [h2]; rfl, ?_⟩
      unfold placeQ queueR at h3 ⊢
      by_cases hx : x.2.1 = n
      · rw [List.filter_cons, if_pos (decide_eq_true hx), List.filter_cons, if_pos (decide_eq_true hx), List.length_cons, h3]
        by_cases hh : has = true
        · rw [if_pos hh, if_pos hh, List.findIdx_cons]
          have : tooR L x = true := by
            cases ht : tooR L x with
            | true => rfl
            | false => exact absurd ⟨hh, hx, ht⟩ hc
          rw [this]; rfl
        · rw [if_neg hh, if_neg hh]; rfl
      · have e : ∀ l : List Hs, (x :: l).filter (fun y => decide (y.2.1 = n)) = l.filter fun y => decide (y.2.1 = n) := fun l => by rw [List.filter_cons, if_neg (by simpa using hx)]
        rw [e, e, h3]
theorem idxF_end {α : Type} {p : α → Bool} {s : α} (hs : p s = true) : ∀ l : List α, idxF p (l ++ [s]) = (l.findIdx p : Nat)
  | [] => by simp [idxF, List.findIdx?_cons, hs]
  | x :: l => by
    have ih := idxF_end hs l
    unfold idxF at ih ⊢
    rw [List.cons_append, List.findIdx?_cons, List.findIdx_cons]
    cases hx : p x with
    | true => rfl
    | false =>
      simp only [Bool.false_eq_true, if_false, cond_false]
      cases hf : (l ++ [s]).findIdx? p with
      | none => rw [hf] at ih; simp at ih
      | some i => rw [hf] at ih; simp at ih ⊢; omega
theorem place_rel {σ : Sg} {L W : List Hs} (h : RelP σ L W) (hi : Inv0 L W) (o : Int) (n : ByteArray) : placeS σ o n = placeQ L (getR L o n).isSome (queueR W n) := by
  obtain ⟨h1, h2, h3⟩ := h
  unfold placeS placeQ
  rw [h1 n, h2 n]
  split
  · have hneg : getR L (-1) n = none := getR_none.2 fun x hx k => by have := hi.lp x hx; omega
    rw [idxF_end (by simp [hneg]), Int.toNat_natCast, List.findIdx_map]
    have : ∀ l : List Hs, (∀ x ∈ l, x.2.1 = n) → l.findIdx ((fun x : Int × Int => !(getR L x.1 n).isSome) ∘ q2) = l.findIdx fun x => !tooR L x := fun l => by
      induction l with
      | nil => intro; rfl
      | cons x l ih =>
        intro hl
        rw [List.findIdx_cons, List.findIdx_cons, ih fun y hy => hl y (by simp [hy])]
        have : x.2.1 = n := hl x (by simp)
        simp only [Function.comp, q2, tooR, this]
    exact this _ fun x hx => of_decide_eq_true (List.mem_filter.1 hx).2
  · simp
theorem want_rel {σ : Sg} {L W : List Hs} (h : RelP σ L W) (o : Int) (n : ByteArray) (q : Int) : wantS σ o n q = (wishR L o n q).2.2 := by
  unfold wantS wishR; rw [h.1 n]; rfl
theorem queue_app (A B : List Hs) (n : ByteArray) : queueR (A ++ B) n = queueR A n ++ queueR B n := List.filter_append ..
theorem queue_cons (w : Hs) (B : List Hs) (n : ByteArray) : queueR (w :: B) n = if w.2.1 = n then w :: queueR B n else queueR B n := by
  unfold queueR; rw [List.filter_cons]; simp
theorem waitR_ins {A B : List Hs} {w : Hs} (hw : ∀ x ∈ A ++ B, x.1 ≠ w.1) (o : Int) : waitR (A ++ w :: B) o = if o = w.1 then some w else waitR (A ++ B) o := by
  unfold waitR
  rw [List.find?_append, List.find?_append, List.find?_cons]
  by_cases h : o = w.1
  · subst h
    rw [if_pos rfl]
    have : A.find? (fun x => decide (x.1 = w.1)) = none := List.find?_eq_none.2 fun x hx => by simpa using hw x (List.mem_append_left _ hx)
    rw [this]; simp
  · rw [if_neg h, decide_eq_false (Ne.symm h)]
/-! ### Ask -/
theorem ask_rel {σ : Sg} {L W : List Hs} (h : RelP σ L W) (hi : Inv0 L W) (hh : HeadP L W) {o : Int} {n : ByteArray} {q : Int} {mb : Bool} (hmb : mb = true ↔ mayP (σ.has n) o (wantS σ o n q)) :
    RelP (askS σ o n q mb).1 (askR L W o n q).1 (askR L W o n q).2.1 ∧ (askS σ o n q mb).2 = (askR L W o n q).2.2 ∧ Inv0 (askR L W o n q).1 (askR L W o n q).2.1 ∧ HeadP (askR L W o n q).1 (askR L W o n q).2.1 := by
  unfold askS askR
  by_cases hb : o < 0 ∨ ¬ isM q
  · rw [if_pos hb, if_pos hb]; exact ⟨h, rfl, hi, hh⟩
  rw [if_neg hb, if_neg hb]
  have hg : (σ.goal o).isSome = (waitR W o).isSome := by rw [h.2.2]; simp
  rw [hg]
  by_cases hw : (waitR W o).isSome = true
  · rw [if_pos hw, if_pos hw]; exact ⟨h, rfl, hi, hh⟩
  rw [if_neg hw, if_neg hw]
  have hwn : ∀ x ∈ W, x.1 ≠ o := waitR_none.1 (by cases hx : waitR W o with | none => rfl | some x => rw [hx] at hw; exact absurd rfl hw)
  have ho : 0 ≤ o := by omega
  have hq : isM q := Classical.not_not.1 fun k => hb (.inr k)
  have hwant := want_rel h o n q
  rw [hwant] at hmb
  rw [h.1 n, ← mayR_iff hi.ln] at hmb
  have hwish : wishR L o n q = (o, n, (wishR L o n q).2.2) := rfl
  rw [← hwish] at hmb
  have hmode : isM (wishR L o n q).2.2 := by
    unfold wishR
    cases hgt : getR L o n with
    | none => exact hq
    | some had => exact both_isM (hi.lm _ (getR_mem hgt)) hq
  generalize hwd : wishR L o n q = w at *
  have hw1 : w.1 = o := by rw [← hwd]; rfl
  have hw2 : w.2.1 = n := by rw [← hwd]; rfl
  have hgr : grantP σ o n q mb ↔ (getR L o n = some w.2.2) ∨ (mayR L w = true ∧ ((getR L o n).isSome = true ∨ (queueR W n).length = 0)) := by
    unfold grantP
    rw [hwant, h.1 n, h.2.1 n, hmb]
    refine or_congr ?_ (and_congr Iff.rfl (or_congr Iff.rfl ?_))
    · constructor
      · rintro ⟨h1, h2⟩
        obtain ⟨y, hy⟩ := Option.isSome_iff_exists.1 h1
        have hy' : getR L o n = some y := hy
        have h2' : w.2.2 = (getR L o n).getD 0 := h2
        rw [hy', Option.getD_some] at h2'
        rw [hy', h2']
      · intro h1
        exact ⟨by show (getR L o n).isSome = true; rw [h1]; rfl, by show w.2.2 = (getR L o n).getD 0; rw [h1]; rfl⟩
    · rw [List.map_eq_nil_iff, List.length_eq_zero_iff]
  have hgrant : RelP (σ.put n (updF (σ.has n) o w.2.2) (σ.wait n)) (getsR L w) W := by
    refine ⟨fun k => funext fun y => ?_, fun k => ?_, h.2.2⟩
    · rw [getR_gets, hw1, hw2]
      simp only [Sg.put, updF]
      by_cases hk : k = n
      · subst hk
        rw [if_pos rfl, h.1 k]
        show (if y = o then some w.2.2 else getR L y k) = _
        by_cases hy : y = o
        · rw [if_pos hy, if_pos ⟨hy.symm, rfl⟩]
        · rw [if_neg hy, if_neg fun e => hy e.1.symm]
      · rw [if_neg hk, if_neg fun e => hk e.2.symm, h.1 k]
    · simp only [Sg.put]
      split
      · rename_i e; rw [e]; exact h.2.1 n
      · exact h.2.1 k
  have hsame : getR L o n = some w.2.2 → RelP (σ.put n (updF (σ.has n) o w.2.2) (σ.wait n)) L W := fun e => by
    refine ⟨fun k => funext fun y => ?_, fun k => ?_, h.2.2⟩
    · simp only [Sg.put, updF]
      by_cases hk : k = n
      · subst hk
        rw [if_pos rfl, h.1 k]
        show (if y = o then some w.2.2 else getR L y k) = _
        by_cases hy : y = o
        · rw [if_pos hy, hy, e]
        · rw [if_neg hy]
      · rw [if_neg hk, h.1 k]
    · simp only [Sg.put]
      split
      · rename_i e; rw [e]; exact h.2.1 n
      · exact h.2.1 k
  by_cases hG : grantP σ o n q mb
  · rw [if_pos hG, hwant]
    by_cases h1 : getR L o n = some w.2.2
    · rw [if_pos h1]; exact ⟨hsame h1, rfl, hi, hh⟩
    · rw [if_neg h1]
      have h2 := (hgr.1 hG).resolve_left h1
      rw [if_pos h2]
      have hfitw : ∀ x ∈ L, x.2.1 = n → x.1 ≠ o → fitsL x.2.2 w.2.2 = true := fun x hx e1 e2 => by
        cases hf : fitsL x.2.2 w.2.2 with
        | true => rfl
        | false => exact absurd h2.1 (by rw [mayR_false.2 ⟨x, hx, by rw [hw2]; exact e1, by rw [hw1]; exact e2, hf⟩]; simp)
      refine ⟨hgrant, rfl, ⟨hi.wn, gets_nodup hi.ln, fun x hx => ?_, hi.wp, fun x hx => ?_, hi.wm, fun x hx y hy e1 e2 => ?_⟩, fun k x hx => ?_⟩
      · rcases mem_gets.1 hx with ⟨hx, _⟩ | rfl
        · exact hi.lp x hx
        · rw [hw1]; exact ho
      · rcases mem_gets.1 hx with ⟨hx, _⟩ | rfl
        · exact hi.lm x hx
        · exact hmode
      · rcases mem_gets.1 hx with ⟨hx, _⟩ | ex
        · rcases mem_gets.1 hy with ⟨hy, _⟩ | ey
          · exact hi.fit x hx y hy e1 e2
          · rw [ey] at e1 e2 ⊢
            exact hfitw x hx (by rw [e1, hw2]) (by rw [hw1] at e2; exact e2)
        · rcases mem_gets.1 hy with ⟨hy, _⟩ | ey
          · rw [ex] at e1 e2 ⊢
            rw [fits_symm]
            exact hfitw y hy (by rw [← e1, hw2]) (by rw [hw1] at e2; exact Ne.symm e2)
          · exact absurd (by rw [ex, ey]) e2
      · have hbar := mayR_false.1 (hh k x hx)
        obtain ⟨y, hy, e1, e2, e3⟩ := hbar
        have hxq := List.mem_of_getElem? hx
        have hxk : x.2.1 = k := of_decide_eq_true (List.mem_filter.1 hxq).2
        have hxW := (List.mem_filter.1 hxq).1
        by_cases hyw : y.1 = w.1 ∧ y.2.1 = w.2.1
        · refine mayR_false.2 ⟨w, mem_gets.2 (.inr rfl), by rw [← hyw.2]; exact e1, fun e => hwn x hxW (by rw [← e, hw1]), ?_⟩
          cases hf : fitsL w.2.2 x.2.2 with
          | false => rfl
          | true =>
            have hgy : getR L o n = some y.2.2 := by
              have := mem_getR hi.ln hy
              rw [hyw.1, hyw.2, hw1, hw2] at this; exact this
            have hwm : w.2.2 = bothL y.2.2 q := by rw [← hwd]; unfold wishR; rw [hgy]
            rw [hwm] at hf
            rw [(both_fits (hi.lm y hy) hq hf).1] at e3; cases e3
        · exact mayR_false.2 ⟨y, mem_gets.2 (.inl ⟨hy, hyw⟩), e1, e2, e3⟩
  · rw [if_neg hG]
    have hN := fun k => hG (hgr.2 k)
    rw [if_neg fun k => hN (.inl k), if_neg fun k => hN (.inr k)]
    obtain ⟨A, B, hA, hB, hp⟩ := ins_split L n (getR L o n).isSome w W
    rw [← place_rel h hi o n] at hp
    have hqn : queueR W n = queueR A n ++ queueR B n := by rw [hA, queue_app]
    have hqi : ∀ k, queueR (A ++ w :: B) k = if k = n then queueR A n ++ w :: queueR B n else queueR W k := fun k => by
      rw [queue_app, queue_cons, hw2]
      by_cases hk : k = n
      · subst hk; rw [if_pos rfl, if_pos rfl]
      · rw [if_neg (Ne.symm hk), if_neg hk, hA, queue_app]
    have hwn' : ∀ x ∈ A ++ B, x.1 ≠ w.1 := fun x hx => by rw [hw1]; exact hwn x (by rw [hA]; exact hx)
    rw [hB]
    refine ⟨⟨fun k => ?_, fun k => ?_, ?_⟩, rfl, ⟨?_, hi.ln, hi.lp, fun x hx => ?_, hi.lm, fun x hx => ?_, hi.fit⟩, fun k x hx => ?_⟩
    · simp only [Sg.put, Sg.wgoal]
      split
      · rename_i e; rw [e]; exact h.1 n
      · exact h.1 k
    · rw [hqi]
      simp only [Sg.put, Sg.wgoal]
      split
      · unfold insS
        rw [hwant, h.2.1 n, hqn, List.map_append, ← hp, ← List.length_map (f := q2), List.take_left, List.drop_left]
        simp [q2, hw1]
      · exact h.2.1 k
    · simp only [Sg.put, Sg.wgoal]
      funext y
      rw [waitR_ins hwn', ← hA]
      simp only [updF]
      rw [h.2.2, hw1]
      split
      · simp [hw2]
      · rfl
    · have := hi.wn
      rw [hA] at this
      rw [List.map_append, List.map_cons]
      rw [List.map_append] at this
      refine (List.perm_middle.nodup_iff).2 (List.nodup_cons.2 ⟨fun hx => ?_, this⟩)
      rw [← List.map_append] at hx
      obtain ⟨y, hy, he⟩ := List.mem_map.1 hx
      exact hwn' y hy he
    · rcases List.mem_append.1 hx with h5 | h5
      · exact hi.wp x (by rw [hA]; simp [h5])
      · rcases List.mem_cons.1 h5 with rfl | h5
        · rw [hw1]; exact ho
        · exact hi.wp x (by rw [hA]; simp [h5])
    · rcases List.mem_append.1 hx with h5 | h5
      · exact hi.wm x (by rw [hA]; simp [h5])
      · rcases List.mem_cons.1 h5 with rfl | h5
        · exact hmode
        · exact hi.wm x (by rw [hA]; simp [h5])
    · rw [hqi] at hx
      by_cases hk : k = n
      · rw [if_pos hk] at hx
        cases hqa : queueR A n with
        | cons y l =>
          rw [hqa] at hx
          have hxy : y = x := by simpa using hx
          exact hh n x (by rw [hqn, hqa, hxy]; rfl)
        | nil =>
          rw [hqa] at hx
          have hxw : w = x := by simpa using hx
          rw [← hxw]
          cases hm : mayR L w with
          | false => rfl
          | true =>
            exfalso
            refine hN (.inr ⟨hm, ?_⟩)
            by_cases hs : (getR L o n).isSome = true
            · exact .inl hs
            · right
              have : placeQ L (getR L o n).isSome (queueR W n) = (queueR W n).length := by unfold placeQ; rw [if_neg hs]
              rw [← this, ← place_rel h hi o n, ← hp, hqa]; rfl
      · rw [if_neg hk] at hx
        exact hh k x hx
end Go.Proofs.Ytnamhhmfnokfiaa
/- Chapter 12: the table and the document's rows say the same: Free. -/
namespace Go.Proofs.Ytnamhhmfnokfiaa
open Go Go.SL
theorem serve_det {f : Int → Option Int} {w : Wt} {f1 f2 : Int → Option Int} {w1 w2 : Wt} {o1 o2 : List Int} (h : Serve f w f1 w1 o1) : Serve f w f2 w2 o2 → f1 = f2 ∧ w1 = w2 ∧ o1 = o2 := by
  induction h generalizing o2 with
  | nil => intro k; cases k; exact ⟨rfl, rfl, rfl⟩
  | bar h => intro k; cases k with
    | bar _ => exact ⟨rfl, rfl, rfl⟩
    | go h' _ => exact absurd h' h
  | go h _ ih => intro k; cases k with
    | bar h' => exact absurd h h'
    | go _ t =>
      obtain ⟨e1, e2, e3⟩ := ih t
      exact ⟨e1, e2, by rw [e3]⟩
theorem getR_without {L : List Hs} {o y : Int} {n : ByteArray} : getR (withoutR L o) y n = if y = o then none else getR L y n := by
  unfold getR withoutR
  rw [List.find?_filter]
  by_cases h : y = o
  · rw [if_pos h]
    have : L.find? (fun a => decide (decide (a.1 ≠ o) = true ∧ hasP y n a = true)) = none := List.find?_eq_none.2 fun x _ => by
      unfold hasP
      by_cases h2 : x.1 = o
      · simp [h2]
      · have : ¬ (x.1 = y ∧ x.2.1 = n) := fun k => h2 (k.1.trans h)
        simp [this]
    rw [this]; rfl
  · rw [if_neg h]
    congr 2
    funext x
    unfold hasP
    by_cases h2 : x.1 = y ∧ x.2.1 = n
    · have : x.1 ≠ o := fun k => h (h2.1.symm.trans k)
      simp [h2, this, h]
    · simp [h2]
theorem waitR_without {W : List Hs} {o y : Int} : waitR (withoutR W o) y = if y = o then none else waitR W y := by
  unfold waitR withoutR
  rw [List.find?_filter]
  by_cases h : y = o
  · rw [if_pos h]
    exact List.find?_eq_none.2 fun x _ => by
      subst h
      by_cases h2 : x.1 = y <;> simp [h2]
  · rw [if_neg h]
    congr 1
    funext x
    by_cases h2 : x.1 = y
    · have : x.1 ≠ o := fun k => h (h2.symm.trans k)
      simp [h2, h]
    · simp [h2]
theorem queue_without (W : List Hs) (o : Int) (n : ByteArray) : queueR (withoutR W o) n = withoutR (queueR W n) o := by
  unfold queueR withoutR
  rw [List.filter_filter, List.filter_filter]
  congr 1
  funext x
  exact Bool.and_comm _ _
theorem left_q2 (Q : List Hs) (o : Int) : leftW (Q.map q2) o = (withoutR Q o).map q2 := by
  unfold leftW withoutR
  rw [List.filter_map]
  congr 1
  apply List.filter_congr
  intro x _
  show (!decide (x.1 = o)) = decide (x.1 ≠ o)
  by_cases h : x.1 = o <;> simp [h]
theorem leave_rel {σ : Sg} {L W : List Hs} (h : RelP σ L W) (o : Int) : RelP (leaveS σ o) (withoutR L o) (withoutR W o) := by
  refine ⟨fun n => funext fun y => ?_, fun n => ?_, funext fun y => ?_⟩
  · rw [getR_without]
    show delF (σ.has n) o y = _
    unfold delF; rw [h.1 n]
  · show leftW (σ.wait n) o = _
    rw [h.2.1 n, left_q2, queue_without]
  · rw [waitR_without]
    show delF σ.goal o y = _
    unfold delF; rw [h.2.2]
    split <;> rfl
theorem leave_inv {L W : List Hs} (h : Inv0 L W) (o o' : Int) : Inv0 (withoutR L o) (withoutR W o') := by
  have hL : ∀ x, x ∈ withoutR L o → x ∈ L := fun x hx => (List.mem_filter.1 hx).1
  have hW : ∀ x, x ∈ withoutR W o' → x ∈ W := fun x hx => (List.mem_filter.1 hx).1
  exact ⟨(List.filter_sublist.map _).nodup h.wn, (List.filter_sublist.map _).nodup h.ln, fun x hx => h.lp x (hL x hx), fun x hx => h.wp x (hW x hx), fun x hx => h.lm x (hL x hx), fun x hx => h.wm x (hW x hx), fun x hx y hy => h.fit x (hL x hx) y (hL y hy)⟩
theorem wait_inv {L W : List Hs} (h : Inv0 L W) (o' : Int) : Inv0 L (withoutR W o') := by
  have hW : ∀ x, x ∈ withoutR W o' → x ∈ W := fun x hx => (List.mem_filter.1 hx).1
  exact ⟨(List.filter_sublist.map _).nodup h.wn, h.ln, h.lp, fun x hx => h.wp x (hW x hx), h.lm, fun x hx => h.wm x (hW x hx), h.fit⟩
theorem mem_putI (x y : Int) : ∀ l : List Int, y ∈ putI x l ↔ y = x ∨ y ∈ l
  | [] => by simp [putI]
  | z :: l => by
    unfold putI
    split
    · simp
    · rw [List.mem_cons, mem_putI x y l, List.mem_cons]
      constructor
      · rintro (h | h | h) <;> simp [h]
      · rintro (h | h | h) <;> simp [h]
theorem putI_sorted {x : Int} : ∀ {l : List Int}, l.Pairwise (· < ·) → x ∉ l → (putI x l).Pairwise (· < ·)
  | [], _, _ => by simp [putI]
  | y :: l, h, hx => by
    rw [List.pairwise_cons] at h
    unfold putI
    split
    · rename_i hlt
      refine List.pairwise_cons.2 ⟨fun z hz => ?_, List.pairwise_cons.2 h⟩
      rcases List.mem_cons.1 hz with rfl | hz
      · exact hlt
      · have := h.1 z hz; omega
    · rename_i hlt
      refine List.pairwise_cons.2 ⟨fun z hz => ?_, putI_sorted h.2 fun k => hx (by simp [k])⟩
      rcases (mem_putI x z l).1 hz with rfl | hz
      · have : z ≠ y := fun e => hx (by simp [e])
        omega
      · exact h.1 z hz
theorem gets_inv {L W : List Hs} (h : Inv0 L W) {w : Hs} (hw : w ∈ W) (hm : mayR L w = true) : Inv0 (getsR L w) (withoutR W w.1) := by
  have h0 := wait_inv h w.1
  have hfitw : ∀ x ∈ L, x.2.1 = w.2.1 → x.1 ≠ w.1 → fitsL x.2.2 w.2.2 = true := fun x hx e1 e2 => by
    cases hf : fitsL x.2.2 w.2.2 with
    | true => rfl
    | false => rw [mayR_false.2 ⟨x, hx, e1, e2, hf⟩] at hm; cases hm
  refine ⟨h0.wn, gets_nodup h.ln, fun x hx => ?_, h0.wp, fun x hx => ?_, h0.wm, fun x hx y hy e1 e2 => ?_⟩
  · rcases mem_gets.1 hx with ⟨hx, _⟩ | e
    · exact h.lp x hx
    · rw [e]; exact h.wp w hw
  · rcases mem_gets.1 hx with ⟨hx, _⟩ | e
    · exact h.lm x hx
    · rw [e]; exact h.wm w hw
  · rcases mem_gets.1 hx with ⟨hx, _⟩ | ex
    · rcases mem_gets.1 hy with ⟨hy, _⟩ | ey
      · exact h.fit x hx y hy e1 e2
      · rw [ey] at e1 e2 ⊢; exact hfitw x hx e1 e2
    · rcases mem_gets.1 hy with ⟨hy, _⟩ | ey
      · rw [ex] at e1 e2 ⊢
        rw [fits_symm]
        exact hfitw y hy e1.symm (Ne.symm e2)
      · exact absurd (by rw [ex, ey]) e2
theorem queue_nodup {W : List Hs} (h : (W.map (·.1)).Nodup) (n : ByteArray) : ((queueR W n).map (·.1)).Nodup := (List.filter_sublist.map _).nodup h
theorem without_ne {Q : List Hs} {o : Int} (h : ∀ x ∈ Q, x.1 ≠ o) : withoutR Q o = Q := List.filter_eq_self.2 fun x hx => decide_eq_true (h x hx)
theorem first_spec {L W : List Hs} {w : Hs} (h : firstR L W = some w) : w ∈ W ∧ (queueR W w.2.1)[0]? = some w ∧ mayR L w = true := by
  have h1 := List.find?_some h
  unfold frstP at h1
  rw [Bool.and_eq_true, decide_eq_true_eq] at h1
  exact ⟨first_mem h, h1.1, h1.2⟩
theorem first_none {L W : List Hs} (h : firstR L W = none) : HeadP L W := fun n x hx => by
  have hxq := List.mem_of_getElem? hx
  have hxn : x.2.1 = n := of_decide_eq_true (List.mem_filter.1 hxq).2
  have h1 := List.find?_eq_none.1 h x (List.mem_filter.1 hxq).1
  unfold frstP at h1
  rw [hxn, decide_eq_true hx, Bool.true_and] at h1
  simpa using h1
theorem serve_stop {L W : List Hs} (hi : Inv0 L W) (hh : HeadP L W) (n : ByteArray) : Serve (fun o => getR L o n) ((queueR W n).map q2) (fun o => getR L o n) ((queueR W n).map q2) [] := by
  cases hq : queueR W n with
  | nil => exact .nil
  | cons x q =>
    have hx : (queueR W n)[0]? = some x := by rw [hq]; rfl
    have h1 := hh n x hx
    have hxn : x.2.1 = n := of_decide_eq_true (List.mem_filter.1 (List.mem_of_getElem? hx)).2
    refine .bar fun k => ?_
    have : mayR L x = true := by
      have e : x = (x.1, n, x.2.2) := by rw [← hxn]
      rw [e, mayR_iff hi.ln]; exact k
    rw [h1] at this; cases this
/-- What a run of the reference comes to. -/
structure RunP (L W : List Hs) (out : List Int) (L' W' : List Hs) (out' : List Int) : Prop where
  inv : Inv0 L' W'
  head : HeadP L' W'
  sorted : out'.Pairwise (· < ·)
  run : ∃ F : ByteArray → List Int, (∀ n, Serve (fun o => getR L o n) ((queueR W n).map q2) (fun o => getR L' o n) ((queueR W' n).map q2) (F n)) ∧ (∀ x, x ∈ out' ↔ x ∈ out ∨ ∃ n, x ∈ F n) ∧ (∀ y, (∃ n, y ∈ F n) → waitR W' y = none) ∧ ∀ y, (¬ ∃ n, y ∈ F n) → waitR W' y = waitR W y
theorem serve_run : ∀ (k : Nat) (L W : List Hs) (out : List Int), W.length ≤ k → Inv0 L W → out.Pairwise (· < ·) → (∀ x ∈ W, x.1 ∉ out) → RunP L W out (serveR k L W out).1 (serveR k L W out).2.1 (serveR k L W out).2.2
  | 0, L, W, out, hk, hi, hs, _ => by
    have hW : W = [] := List.eq_nil_of_length_eq_zero (by omega)
    subst hW
    have hh : HeadP L [] := fun n x hx => by simp [queueR] at hx
    exact ⟨hi, hh, hs, fun _ => [], fun n => serve_stop hi hh n, fun x => by simp [serveR], (fun y hy => by simp at hy), fun y _ => rfl⟩
  | k + 1, L, W, out, hk, hi, hs, hn => by
    cases hf : firstR L W with
    | none =>
      have e : serveR (k + 1) L W out = (L, W, out) := by simp [serveR, hf]
      rw [e]
      have hh := first_none hf
      exact ⟨hi, hh, hs, fun _ => [], fun n => serve_stop hi hh n, fun x => by simp, (fun y hy => by simp at hy), fun y _ => rfl⟩
    | some w =>
      have e : serveR (k + 1) L W out = serveR k (getsR L w) (withoutR W w.1) (putI w.1 out) := by simp [serveR, hf]
      rw [e]
      obtain ⟨hw, hq, hm⟩ := first_spec hf
      have hlt := without_lt hw
      obtain ⟨i1, i2, i3, F, f1, f2, f3, f4⟩ := serve_run k (getsR L w) (withoutR W w.1) (putI w.1 out) (by omega) (gets_inv hi hw hm) (putI_sorted hs (hn w hw)) (fun x hx => by
        have hx' := List.mem_filter.1 hx
        rw [mem_putI]
        rintro (h | h)
        · exact of_decide_eq_true hx'.2 h
        · exact hn x hx'.1 h)
      refine ⟨i1, i2, i3, fun n => if n = w.2.1 then w.1 :: F n else F n, fun n => ?_, fun x => ?_, fun y hy => ?_, fun y hy => ?_⟩
      · have hS := f1 n
        by_cases hnw : n = w.2.1
        · subst hnw
          dsimp only
          rw [if_pos rfl]
          cases hqq : queueR W w.2.1 with
          | nil => rw [hqq] at hq; cases hq
          | cons x q =>
            rw [hqq] at hq
            have hxw : x = w := by simpa using hq
            subst hxw
            have hnd := queue_nodup hi.wn x.2.1
            rw [hqq, List.map_cons, List.nodup_cons] at hnd
            have hq' : queueR (withoutR W x.1) x.2.1 = q := by
              rw [queue_without, hqq]
              unfold withoutR
              rw [List.filter_cons, if_neg (by simp)]
              exact without_ne fun y hy e => hnd.1 (List.mem_map.2 ⟨y, hy, e⟩)
            rw [hq'] at hS
            refine .go ((mayR_iff hi.ln x.1 x.2.1 x.2.2).1 hm) ?_
            have hup : updF (fun o => getR L o x.2.1) (q2 x).1 (q2 x).2 = fun o => getR (getsR L x) o x.2.1 := funext fun y => by
              rw [getR_gets]
              unfold updF q2
              by_cases hy : y = x.1
              · rw [if_pos hy, if_pos ⟨hy.symm, rfl⟩]
              · rw [if_neg hy, if_neg fun e => hy e.1.symm]
            rw [hup]; exact hS
        · dsimp only
          rw [if_neg hnw]
          have e1 : (fun o => getR (getsR L w) o n) = fun o => getR L o n := funext fun y => by
            rw [getR_gets, if_neg fun e => hnw e.2.symm]
          have e2 : queueR (withoutR W w.1) n = queueR W n := by
            rw [queue_without]
            refine without_ne fun y hy e => ?_
            have hy' := List.mem_filter.1 hy
            have : y = w := by
              have a1 := mem_waitR hi.wn hy'.1
              have a2 := mem_waitR hi.wn hw
              rw [e, a2] at a1
              exact (Option.some.inj a1).symm
            subst this
            exact hnw (of_decide_eq_true hy'.2).symm
          rw [e1, e2] at hS; exact hS
      · rw [f2, mem_putI]
        constructor
        · rintro ((h | h) | ⟨n, h⟩)
          · exact .inr ⟨w.2.1, by dsimp only; rw [if_pos rfl, h]; simp⟩
          · exact .inl h
          · refine .inr ⟨n, ?_⟩
            dsimp only
            split
            · exact List.mem_cons_of_mem _ h
            · exact h
        · rintro (h | ⟨n, h⟩)
          · exact .inl (.inr h)
          · dsimp only at h
            split at h
            · rcases List.mem_cons.1 h with h | h
              · exact .inl (.inl h)
              · exact .inr ⟨n, h⟩
            · exact .inr ⟨n, h⟩
      · by_cases hF : ∃ n, y ∈ F n
        · exact f3 y hF
        · rw [f4 y hF]
          obtain ⟨n, h⟩ := hy
          dsimp only at h
          split at h
          · rcases List.mem_cons.1 h with h | h
            · rw [waitR_without, if_pos h]
            · exact absurd ⟨n, h⟩ hF
          · exact absurd ⟨n, h⟩ hF
      · have hF : ¬ ∃ n, y ∈ F n := fun ⟨n, h⟩ => hy ⟨n, by
          dsimp only
          split
          · exact List.mem_cons_of_mem _ h
          · exact h⟩
        rw [f4 y hF, waitR_without, if_neg fun e => hy ⟨w.2.1, by dsimp only; rw [if_pos rfl, e]; simp⟩]
/-- What the program's serving comes to. -/
theorem serveAll_run {σ σ' : Sg} {ns : List ByteArray} {outs : List Int} (h : ServeAll σ ns σ' outs) : ns.Nodup → (∀ n, n ∉ ns → σ.wait n = []) → ∃ F : ByteArray → List Int, (∀ n, Serve (σ.has n) (σ.wait n) (σ'.has n) (σ'.wait n) (F n)) ∧ (∀ x, x ∈ outs ↔ ∃ n, x ∈ F n) ∧ σ'.goal = delsF σ.goal outs := by
  intro hn hw
  have key : ∃ F : ByteArray → List Int, (∀ n ∈ ns, Serve (σ.has n) (σ.wait n) (σ'.has n) (σ'.wait n) (F n)) ∧ (∀ n, n ∉ ns → σ'.has n = σ.has n ∧ σ'.wait n = σ.wait n ∧ F n = []) ∧ (∀ x, x ∈ outs ↔ ∃ n, x ∈ F n) ∧ σ'.goal = delsF σ.goal outs := by
    clear hw
    induction h with
    | nil => exact ⟨fun _ => [], (fun n h => by cases h), (fun n _ => ⟨rfl, rfl, rfl⟩), (fun x => by simp), funext fun y => by simp [delsF]⟩
    | cons h t ih =>
      rename_i σ0 σ1 n0 ns0 f0 w0 out0 outs0
      rw [List.nodup_cons] at hn
      obtain ⟨F, a1, a2, a3, a4⟩ := ih hn.2
      have hat : (σ0.served n0 f0 w0 out0).has n0 = f0 ∧ (σ0.served n0 f0 w0 out0).wait n0 = w0 := ⟨by simp [Sg.served, Sg.put, Sg.wgoal], by simp [Sg.served, Sg.put, Sg.wgoal]⟩
      have hne : ∀ n, n ≠ n0 → (σ0.served n0 f0 w0 out0).has n = σ0.has n ∧ (σ0.served n0 f0 w0 out0).wait n = σ0.wait n := fun n hn => ⟨by simp [Sg.served, Sg.put, Sg.wgoal, hn], by simp [Sg.served, Sg.put, Sg.wgoal, hn]⟩
      refine ⟨fun n => if n = n0 then out0 else F n, fun n hnm => ?_, fun n hnm => ?_, fun x => ?_, ?_⟩
      · by_cases e : n = n0
        · subst e
          dsimp only
          rw [if_pos rfl]
          obtain ⟨b1, b2, _⟩ := a2 n hn.1
          rw [b1, b2, hat.1, hat.2]; exact h
        · dsimp only
          rw [if_neg e]
          have := a1 n ((List.mem_cons.1 hnm).resolve_left e)
          rw [(hne n e).1, (hne n e).2] at this; exact this
      · have e : n ≠ n0 := fun e => hnm (by simp [e])
        dsimp only
        rw [if_neg e]
        obtain ⟨b1, b2, b3⟩ := a2 n fun k => hnm (List.mem_cons_of_mem _ k)
        exact ⟨by rw [b1, (hne n e).1], by rw [b2, (hne n e).2], b3⟩
      · rw [List.mem_append, a3]
        constructor
        · rintro (h1 | ⟨n, h1⟩)
          · exact ⟨n0, by dsimp only; rw [if_pos rfl]; exact h1⟩
          · refine ⟨n, ?_⟩
            dsimp only
            rw [if_neg]
            · exact h1
            · intro e
              rw [e, (a2 n0 hn.1).2.2] at h1; cases h1
        · rintro ⟨n, h1⟩
          dsimp only at h1
          split at h1
          · exact .inl h1
          · exact .inr ⟨n, h1⟩
      · rw [a4]
        funext y
        show delsF (delsF σ0.goal out0) outs0 y = delsF σ0.goal (out0 ++ outs0) y
        unfold delsF
        by_cases h1 : y ∈ outs0
        · rw [if_pos h1, if_pos (by simp [h1])]
        · rw [if_neg h1]
          by_cases h2 : y ∈ out0
          · rw [if_pos h2, if_pos (by simp [h2])]
          · rw [if_neg h2, if_neg (by simp [h1, h2])]
  obtain ⟨F, a1, a2, a3, a4⟩ := key
  refine ⟨F, fun n => ?_, a3, a4⟩
  by_cases e : n ∈ ns
  · exact a1 n e
  · obtain ⟨b1, b2, b3⟩ := a2 n e
    rw [b1, b2, b3, hw n e]; exact .nil
theorem free_rel {σ σ' : Sg} {L W : List Hs} {o : Int} {l : List Int} (h : RelP σ L W) (hi : Inv0 L W) (hf : FreeP σ o σ' l) :
    RelP σ' (freeR L W o).1 (freeR L W o).2.1 ∧ l = (freeR L W o).2.2 ∧ Inv0 (freeR L W o).1 (freeR L W o).2.1 ∧ HeadP (freeR L W o).1 (freeR L W o).2.1 := by
  obtain ⟨ns, outs, h1, h2, h3, rfl⟩ := hf
  have hl := leave_rel h o
  have hli := leave_inv hi o o
  obtain ⟨F, f1, f2, f3⟩ := serveAll_run h3 h1 h2
  obtain ⟨i1, i2, i3, G, g1, g2, g3, g4⟩ := serve_run (withoutR W o).length (withoutR L o) (withoutR W o) [] (Nat.le_refl _) hli List.Pairwise.nil (fun _ _ h => by cases h)
  have hd : ∀ n, σ'.has n = (fun y => getR (freeR L W o).1 y n) ∧ σ'.wait n = (queueR (freeR L W o).2.1 n).map q2 ∧ F n = G n := fun n => by
    have a1 := f1 n
    rw [hl.1 n, hl.2.1 n] at a1
    exact serve_det a1 (g1 n)
  have hm : ∀ x, x ∈ outs ↔ x ∈ (freeR L W o).2.2 := fun x => by
    rw [f2]
    refine Iff.trans ?_ (g2 x).symm
    constructor
    · rintro ⟨n, hn⟩; exact .inr ⟨n, by rw [← (hd n).2.2]; exact hn⟩
    · rintro (hn | ⟨n, hn⟩)
      · cases hn
      · exact ⟨n, by rw [(hd n).2.2]; exact hn⟩
  refine ⟨⟨fun n => (hd n).1, fun n => (hd n).2.1, ?_⟩, ?_, i1, i2⟩
  · rw [f3, hl.2.2]
    funext y
    unfold delsF
    by_cases hy : y ∈ outs
    · rw [if_pos hy]
      obtain ⟨n, hn⟩ := (f2 y).1 hy
      show none = (waitR (freeR L W o).2.1 y).map _
      have : waitR (freeR L W o).2.1 y = none := g3 y ⟨n, by rw [← (hd n).2.2]; exact hn⟩
      rw [this]; rfl
    · rw [if_neg hy]
      have : waitR (freeR L W o).2.1 y = waitR (withoutR W o) y := g4 y fun ⟨n, hn⟩ => hy ((f2 y).2 ⟨n, by rw [(hd n).2.2]; exact hn⟩)
      show _ = (waitR (freeR L W o).2.1 y).map _
      rw [this]
  · have hs := setI_spec outs
    exact rising_eq (lt := (· < ·)) (fun a => by omega) (fun a b c => by omega) hs.1 i3 fun x => by rw [hs.2, hm]
end Go.Proofs.Ytnamhhmfnokfiaa
/- Chapter 12: who is stuck is who the document's rows tell. -/
namespace Go.Proofs.Ytnamhhmfnokfiaa
open Go Go.SL
theorem lastM_append (a b : Wt) (o : Int) (h : ∀ q ∈ b, q.1 ≠ o) : lastM (a ++ b) o = lastM a o := by
  unfold lastM
  rw [List.foldl_append]
  generalize a.foldl _ 0 = z
  induction b with
  | nil => rfl
  | cons q b ih => rw [List.foldl_cons, if_neg (h q (by simp)), ih fun q hq => h q (by simp [hq])]
theorem lastM_mem {w : Wt} (hn : (w.map fun q : Int × Int => q.1).Nodup) {o m : Int} (h : (o, m) ∈ w) : lastM w o = m := by
  obtain ⟨a, b, rfl⟩ := List.append_of_mem h
  rw [List.map_append, List.map_cons] at hn
  have hd := List.nodup_cons.1 (List.nodup_append.1 hn).2.1
  rw [show a ++ (o, m) :: b = (a ++ [(o, m)]) ++ b by simp, lastM_append _ _ _ fun q hq e => hd.1 (List.mem_map.2 ⟨q, hq, e⟩)]
  unfold lastM
  rw [List.foldl_append]
  simp
theorem goal_of {σ : Sg} {L W : List Hs} (h : RelP σ L W) (hi : Inv0 L W) {w : Hs} (hw : w ∈ W) : σ.goal w.1 = some w.2.1 := by
  rw [h.2.2]
  show (waitR W w.1).map _ = _
  rw [mem_waitR hi.wn hw]; rfl
theorem q2_keys (Q : List Hs) : ((Q.map q2).map fun q : Int × Int => q.1) = Q.map (·.1) := by rw [List.map_map]; rfl
theorem mode_of {σ : Sg} {L W : List Hs} (h : RelP σ L W) (hi : Inv0 L W) {w : Hs} (hw : w ∈ W) : modeOf σ w.1 = w.2.2 := by
  unfold modeOf
  rw [goal_of h hi hw, Option.map_some, Option.getD_some, h.2.1]
  refine lastM_mem ?_ ?_
  · rw [q2_keys]; exact queue_nodup hi.wn _
  · exact List.mem_map.2 ⟨w, List.mem_filter.2 ⟨hw, decide_eq_true rfl⟩, rfl⟩
theorem mode_no {σ : Sg} {L W : List Hs} (h : RelP σ L W) {o : Int} (hw : waitR W o = none) : σ.goal o = none ∧ modeOf σ o = 0 := by
  have : σ.goal o = none := by rw [h.2.2]; show (waitR W o).map _ = _; rw [hw]; rfl
  exact ⟨this, by unfold modeOf; rw [this]; rfl⟩
theorem tw_congr {α : Type} {p q : α → Bool} : ∀ {l : List α}, (∀ x ∈ l, p x = q x) → l.takeWhile p = l.takeWhile q
  | [], _ => rfl
  | x :: l, h => by
    rw [List.takeWhile_cons, List.takeWhile_cons, h x (by simp), tw_congr fun y hy => h y (by simp [hy])]
theorem ahead_rel {σ : Sg} {L W : List Hs} (h : RelP σ L W) (hi : Inv0 L W) {w : Hs} (hw : w ∈ W) (x : Int) : aheadP σ w.1 x ↔ barsR L W w x = true := by
  unfold aheadP barsR
  have hn : nameOf σ w.1 = w.2.1 := by unfold nameOf; rw [goal_of h hi hw]; rfl
  rw [hn, mode_of h hi hw, h.1, h.2.1, Bool.or_eq_true]
  refine or_congr ?_ ?_
  · rw [Bool.and_eq_true, Bool.and_eq_true, decide_eq_true_eq, Bool.not_eq_true']
    constructor
    · rintro ⟨k, h1, h2, h3⟩
      have h1' : getR L x w.2.1 = some k := h1
      rw [h1']; exact ⟨h2, rfl, h3⟩
    · rintro ⟨h1, h2, h3⟩
      obtain ⟨k, hk⟩ := Option.isSome_iff_exists.1 h2
      rw [hk] at h3
      exact ⟨k, hk, h1, h3⟩
  · have e : frontW ((queueR W w.2.1).map q2) w.1 = ((queueR W w.2.1).takeWhile fun y => decide (y ≠ w)).map q2 := by
      unfold frontW
      rw [List.takeWhile_map]
      congr 1
      refine tw_congr fun y hy => ?_
      have hyW := (List.mem_filter.1 hy).1
      show (!decide (y.1 = w.1)) = decide (y ≠ w)
      by_cases e : y.1 = w.1
      · have : y = w := by
          have a1 := mem_waitR hi.wn hyW
          rw [e, mem_waitR hi.wn hw] at a1
          exact (Option.some.inj a1).symm
        rw [decide_eq_true e, this]; simp
      · have : y ≠ w := fun k => e (by rw [k])
        rw [decide_eq_false e, decide_eq_true this]; rfl
    rw [e, List.map_map, List.any_eq_true, List.mem_map]
    constructor
    · rintro ⟨y, h1, h2⟩; exact ⟨y, h1, decide_eq_true h2⟩
    · rintro ⟨y, h1, h2⟩; exact ⟨y, h1, of_decide_eq_true h2⟩
theorem blocked_iff {L W sm : List Hs} {w : Hs} : blockedR L W w sm = true ↔ ∃ x ∈ sm, barsR L W w x.1 = true := List.any_eq_true
theorem it_sub (L W : List Hs) : ∀ k, (itR L W k).Sublist W
  | 0 => List.Sublist.refl _
  | k + 1 => List.filter_sublist.trans (it_sub L W k)
theorem waiter_of {σ : Sg} {L W : List Hs} (h : RelP σ L W) {x : Int} (hx : (σ.goal x).isSome = true) : ∃ w ∈ W, w.1 = x := by
  rw [h.2.2] at hx
  have hx' : ((waitR W x).map (·.2.1)).isSome = true := hx
  rw [Option.isSome_map] at hx'
  obtain ⟨w, hw⟩ := Option.isSome_iff_exists.1 hx'
  exact ⟨w, (waitR_mem hw).1, (waitR_mem hw).2⟩
theorem sub_it {σ : Sg} {L W : List Hs} (h : RelP σ L W) (hi : Inv0 L W) {T : Int → Prop} (hT : ClosedT σ T) : ∀ k, ∀ w ∈ W, T w.1 → w ∈ itR L W k
  | 0, w, hw, _ => hw
  | k + 1, w, hw, ht => by
    refine List.mem_filter.2 ⟨sub_it h hi hT k w hw ht, blocked_iff.2 ?_⟩
    obtain ⟨x, hx, ha⟩ := hT.2 w.1 ht
    obtain ⟨v, hv, rfl⟩ := waiter_of h (hT.1 x hx)
    exact ⟨v, sub_it h hi hT k v hv hx, (ahead_rel h hi hw v.1).1 ha⟩
theorem closed_left {σ : Sg} {L W r : List Hs} (h : RelP σ L W) (hi : Inv0 L W) (hs : ∀ w ∈ r, w ∈ W) (hf : leftR L W r = r) : ClosedT σ fun x => ∃ w ∈ r, w.1 = x := by
  constructor
  · rintro x ⟨w, hw, rfl⟩
    rw [goal_of h hi (hs w hw)]; rfl
  · rintro o ⟨w, hw, rfl⟩
    have hb : blockedR L W w r = true := by
      rw [← hf] at hw
      exact (List.mem_filter.1 hw).2
    obtain ⟨x, hx, hbx⟩ := blocked_iff.1 hb
    exact ⟨x.1, ⟨x, hx, rfl⟩, (ahead_rel h hi (hs w hw) x.1).2 hbx⟩
theorem stuck_rel {σ : Sg} {L W r : List Hs} {l : List Int} (h : RelP σ L W) (hi : Inv0 L W) (hl : StuckP σ l) {k : Nat} (hr : r = itR L W k) (hf : leftR L W r = r) :
    (∀ x, x ∈ l ↔ ∃ w ∈ r, w.1 = x) ∧ l.length = r.length := by
  have hs : r.Sublist W := by rw [hr]; exact it_sub L W k
  have hm : ∀ x, x ∈ l ↔ ∃ w ∈ r, w.1 = x := fun x => by
    constructor
    · intro hx
      obtain ⟨w, hw, rfl⟩ := waiter_of h (hl.2.1.1 x hx)
      exact ⟨w, by rw [hr]; exact sub_it h hi hl.2.1 k w hw hx, rfl⟩
    · exact fun hx => hl.2.2 _ (closed_left h hi (fun w hw => hs.subset hw) hf) x hx
  refine ⟨hm, ?_⟩
  have hln : l.Nodup := hl.1.imp fun h => by omega
  have hrn : (r.map (·.1)).Nodup := (hs.map _).nodup hi.wn
  have h1 := nodup_le hln (r := r.map (·.1)) fun x hx => by
    obtain ⟨w, hw, rfl⟩ := (hm x).1 hx
    exact List.mem_map.2 ⟨w, hw, rfl⟩
  have h2 := nodup_le hrn (r := l) fun x hx => by
    obtain ⟨w, hw, rfl⟩ := List.mem_map.1 hx
    exact (hm w.1).2 ⟨w, hw, rfl⟩
  simp only [List.length_map] at h1 h2
  omega
end Go.Proofs.Ytnamhhmfnokfiaa
/- Chapter 12: the table's methods, by the document's rows. -/
namespace Go.Proofs.Ytnamhhmfnokfiaa
open Go Go.SL
def RowsP (σ : Sg) (L W : List Hs) : Prop := RelP σ L W ∧ Inv0 L W ∧ HeadP L W
/-- The table says what these rows say. -/
def TabR (N t : Nat) (L W : List Hs) : A := ExA fun σ : Sg => AllA [TabA N t σ, Pu (RowsP σ L W)]
theorem tabR_sep {N t : Nat} {L W : List Hs} : (TabR N t L W).Sep := ExA.sep fun _ => AllA.sep (.cons tab_sep (.cons (Pu.sep _) .nil))
instance {N t : Nat} {L W : List Hs} : SepC (TabR N t L W) := ⟨tabR_sep⟩
theorem tabR_mk {N t : Nat} {σ : Sg} {L W : List Hs} {Lr : List A} (h : RowsP σ L W) : Ent (TabA N t σ :: Lr) (TabR N t L W :: Lr) := fun w O hs =>
  Ent.head (b := TabR N t L W) (a := AllA [TabA N t σ, Pu (RowsP σ L W)]) (fun _ _ k => ⟨σ, k⟩) w O (ent_all (l := [TabA N t σ, Pu (RowsP σ L W)]) w O (Ent.cons (Ent.pu h) w O hs))
theorem tabR_le {N M t : Nat} {L W : List Hs} (hNM : N ≤ M) {w : World} {O : Perm} (h : (TabR N t L W).h w O) : (TabR M t L W).h w O := by
  obtain ⟨σ, O1, O2, s, a1, O3, O4, s2, a2, a3⟩ := h
  exact ⟨σ, O1, O2, s, tabA_le hNM a1, O3, O4, s2, a2, a3⟩
section
variable {P : Program} {f : FuncId} {args : List Value} {Lr : List A} {N t : Nat} {L W : List Hs}
theorem con_tabR {γ : Type} {ret : γ → Value} {pu : γ → Prop} {L' : γ → List A} (h : ∀ σ, RowsP σ L W → Con P f args (TabA N t σ :: Lr) ret pu L') : Con P f args (TabR N t L W :: Lr) ret pu L' := fun w O hs hd => by
  obtain ⟨O1, O2, s, ⟨σ, O3, O4, s2, a1, O5, O6, s3, a2, -⟩, hr⟩ := hs
  exact h σ a2 w O ⟨O1, O2, s, (TabA N t σ).mono a1 s2.l, hr⟩ hd
theorem con_conv {γ δ : Type} {L0 : List A} {ret : γ → Value} {pu : γ → Prop} {L' : γ → List A} {ret2 : δ → Value} {pu2 : δ → Prop} {L2 : δ → List A} (h : Con P f args L0 ret pu L') (hc : ∀ g, pu g → ∃ d, ret g = ret2 d ∧ pu2 d ∧ Ent (L' g) (L2 d)) : Con P f args L0 ret2 pu2 L2 := fun w O hs hd =>
  (h w O hs hd).mono fun _ _ ⟨g, O', h1, h2, h3, h4⟩ => by
    obtain ⟨d, e1, e2, e3⟩ := hc g h2
    exact ⟨d, O', by rw [← e1]; exact h1, e2, e3 _ _ h3, h4⟩
end
theorem hasR_con (N t : Nat) (L W : List Hs) (o : Int) (n : ByteArray) :
    Con Try.prog 40 [.pointer (some ⟨t, 0, none⟩), .int .i64 o, .string n] [TabR N t L W] (γ := Unit) (fun _ => .tuple #[.int .i64 ((getR L o n).getD 0), .bool (getR L o n).isSome]) (fun _ => True) (fun _ => [TabR N t L W]) :=
  con_tabR fun σ hσ => con_conv (has_con N t σ o n) fun _ _ => ⟨(), by rw [hσ.1.1 n], trivial, tabR_mk hσ⟩
theorem waitsR_con (N t : Nat) (L W : List Hs) (o : Int) (hN : N ≤ 1000) :
    Con Try.prog 47 [.pointer (some ⟨t, 0, none⟩), .int .i64 o] [TabR N t L W] (γ := Unit) (fun _ => .tuple #[.string (((waitR W o).map (·.2.1)).getD ⟨#[]⟩), .int .i64 (((waitR W o).map (·.2.2)).getD 0), .bool (waitR W o).isSome]) (fun _ => True) (fun _ => [TabR N t L W]) :=
  con_tabR fun σ hσ => con_conv (waits_con N t σ o (by omega)) fun _ _ => ⟨(), by
    cases hw : waitR W o with
    | none =>
      obtain ⟨e1, e2⟩ := mode_no hσ.1 hw
      rw [e1, e2]; rfl
    | some w =>
      obtain ⟨h1, rfl⟩ := waitR_mem hw
      rw [goal_of hσ.1 hσ.2.1 h1, mode_of hσ.1 hσ.2.1 h1]; rfl, trivial, tabR_mk hσ⟩
theorem holdersR_con (N t : Nat) (L W : List Hs) (n : ByteArray) (hN : N ≤ 1000) :
    Con Try.prog 39 [.pointer (some ⟨t, 0, none⟩), .string n] [TabR N t L W] (γ := Value × List Int) (fun r => r.1) (fun r => KeysOf (fun o => getR L o n) r.2 ∧ r.2.length ≤ N) (fun r => [Own (eInt .i64) 3 r.1 r.2, TabR N t L W]) :=
  con_tabR fun σ hσ => con_conv (holders_con N t σ n (by omega)) fun r hr => ⟨r, rfl, by rw [← hσ.1.1 n]; exact hr, Ent.cons (tabR_mk hσ)⟩
theorem queueRt_con (N t : Nat) (L W : List Hs) (n : ByteArray) (hN : N ≤ 1000) :
    Con Try.prog 41 [.pointer (some ⟨t, 0, none⟩), .string n] [TabR N t L W] (γ := Value) (fun r => r) (fun _ => True) (fun r => [Own (eInt .i64) 3 r ((queueR W n).map (·.1)), TabR N t L W]) :=
  con_tabR fun σ hσ => con_conv (queue_con N t σ n (by omega)) fun r _ => ⟨r, rfl, trivial, by rw [hσ.1.2.1 n, q2_keys]; exact Ent.cons (tabR_mk hσ)⟩
theorem askRt_con (N t : Nat) (L W : List Hs) (o : Int) (n : ByteArray) (q : Int) (hN : N ≤ 1000) :
    Con Try.prog 46 [.pointer (some ⟨t, 0, none⟩), .int .i64 o, .string n, .int .i64 q] [TabR N t L W] (γ := Unit) (fun _ => .tuple #[.bool (askR L W o n q).2.2.1, .int .i64 (askR L W o n q).2.2.2]) (fun _ => True) (fun _ => [TabR (N + 2) t (askR L W o n q).1 (askR L W o n q).2.1]) :=
  con_tabR fun σ hσ => con_conv (ask_con N t σ o n q (by omega) (by rw [hσ.1.1 n]; exact getR_none.2 fun x hx k => by have := hσ.2.1.lp x hx; omega)) fun mb hmb => by
    obtain ⟨h1, h2, h3, h4⟩ := ask_rel hσ.1 hσ.2.1 hσ.2.2 hmb
    exact ⟨(), by rw [h2], trivial, tabR_mk ⟨h1, h3, h4⟩⟩
theorem freeRt_con (N t : Nat) (L W : List Hs) (o : Int) (hN : N ≤ 1000) :
    Con Try.prog 45 [.pointer (some ⟨t, 0, none⟩), .int .i64 o] [TabR N t L W] (γ := Value) (fun r => r) (fun _ => True) (fun r => [Own (eInt .i64) 3 r (freeR L W o).2.2, TabR N t (freeR L W o).1 (freeR L W o).2.1]) :=
  con_tabR fun σ hσ => con_conv (free_con N t σ o hN) fun r hr => by
    obtain ⟨h1, h2, h3, h4⟩ := free_rel hσ.1 hσ.2.1 hr
    exact ⟨r.1, rfl, trivial, by rw [← h2]; exact Ent.cons (tabR_mk ⟨h1, h3, h4⟩)⟩
theorem copyRt_con (N t : Nat) (L W : List Hs) (hN : N ≤ 1000) :
    Con Try.prog 60 [.pointer (some ⟨t, 0, none⟩)] [TabR N t L W] (γ := Nat) (fun u => .pointer (some ⟨u, 0, none⟩)) (fun _ => True) (fun u => [TabR N u L W, TabR N t L W]) :=
  con_tabR fun σ hσ => con_conv (copy12_con N t σ (by omega)) fun u _ => ⟨u, rfl, trivial, Ent.trans (tabR_mk hσ) (Ent.cons (tabR_mk hσ))⟩
/-- Who is stuck. -/
def ClosedL (L W : List Hs) (T : Int → Prop) : Prop := ∀ o, T o → ∃ w ∈ W, w.1 = o ∧ ∃ x, T x ∧ barsR L W w x = true
structure StuckL (L W : List Hs) (l : List Int) : Prop where
  rising : l.Pairwise (· < ·)
  closed : ClosedL L W (· ∈ l)
  great : ∀ T, ClosedL L W T → ∀ o, T o → o ∈ l
  rows : ∀ k r, r = itR L W k → leftR L W r = r → (∀ x, x ∈ l ↔ ∃ w ∈ r, w.1 = x) ∧ l.length = r.length
theorem stuckL_of {σ : Sg} {L W : List Hs} {l : List Int} (hσ : RowsP σ L W) (hl : StuckP σ l) : StuckL L W l := by
  have hc : ∀ T, ClosedT σ T ↔ ClosedL L W T := fun T => by
    constructor
    · intro h o ho
      obtain ⟨w, hw, rfl⟩ := waiter_of hσ.1 (h.1 o ho)
      obtain ⟨x, hx, ha⟩ := h.2 w.1 ho
      exact ⟨w, hw, rfl, x, hx, (ahead_rel hσ.1 hσ.2.1 hw x).1 ha⟩
    · intro h
      refine ⟨fun o ho => ?_, fun o ho => ?_⟩
      · obtain ⟨w, hw, rfl, _⟩ := h o ho
        rw [goal_of hσ.1 hσ.2.1 hw]; rfl
      · obtain ⟨w, hw, rfl, x, hx, hb⟩ := h o ho
        exact ⟨x, hx, (ahead_rel hσ.1 hσ.2.1 hw x).2 hb⟩
  exact ⟨hl.1, (hc _).1 hl.2.1, fun T hT => hl.2.2 T ((hc T).2 hT), fun k r hr hf => stuck_rel hσ.1 hσ.2.1 hl hr hf⟩
theorem stuckRt_con (N t : Nat) (L W : List Hs) (hN : N ≤ 1000) :
    Con Try.prog 43 [.pointer (some ⟨t, 0, none⟩)] [TabR N t L W] (γ := Value × List Int) (fun r => r.1) (fun r => StuckL L W r.2 ∧ r.2.length ≤ N) (fun r => [Own (eInt .i64) 3 r.1 r.2, TabR N t L W]) :=
  con_tabR fun σ hσ => con_conv (stuck_con N t σ hN) fun r hr => ⟨r, rfl, ⟨stuckL_of hσ hr.1, hr.2⟩, Ent.cons (tabR_mk hσ)⟩
def sg0 : Sg := ⟨fun _ _ => none, fun _ => [], fun _ => none⟩
theorem rows0 : RowsP sg0 [] [] := ⟨⟨fun _ => rfl, fun _ => rfl, rfl⟩, ⟨List.nodup_nil, List.nodup_nil, (fun _ h => by cases h), (fun _ h => by cases h), (fun _ h => by cases h), (fun _ h => by cases h), fun _ h => by cases h⟩, fun n x hx => by simp [queueR] at hx⟩
/-- A table that is new. -/
theorem tabR_new {t : Nat} {Lr : List A} : Ent (Blk t 75 [.map none, .map none] :: Lr) (TabR 0 t [] [] :: Lr) := fun w O hs => by
  refine tabR_mk rows0 w O ?_
  have hv : ViewF 0 sg0 none none [] [] := ⟨List.nodup_nil, fun _ => ⟨rfl, rfl⟩, rfl, rfl, Nat.le_refl _, Nat.le_refl _, fun _ h => by cases h⟩
  refine tab_mk (L := Lr) hv w O (Ent.cons ?_ w O hs)
  exact Ent.trans (Ent.beside (b := AllA (([] : List MPl).map plA)) fun _ _ _ => trivial) (Ent.trans (Ent.pu (p := (([] : List (Int × ByteArray)).map entG) = []) rfl) (Ent.pu (p := (([] : List MPl).map entP) = []) rfl))
end Go.Proofs.Ytnamhhmfnokfiaa
/- Chapter 12: the statement that all statements end with. -/
namespace Go.Proofs.Ytnamhhmfnokfiaa
open Go Go.SL
abbrev na : ByteArray := ⟨#[97]⟩
abbrev nb : ByteArray := ⟨#[98]⟩
theorem k_1 : askR [] [] 1 na 2 = ([(1, na, 2)], [], true, 0) := by decide +kernel
theorem k_2 : askR [(1, na, 2)] [] 2 na 3 = ([(1, na, 2)], [(2, na, 3)], false, 0) := by decide +kernel
theorem k_3 : askR [(1, na, 2)] [(2, na, 3)] 3 na 2 = ([(1, na, 2)], [(2, na, 3), (3, na, 2)], false, 0) := by decide +kernel
theorem k_4 : askR [(1, na, 2)] [(2, na, 3), (3, na, 2)] 2 nb 2 = ([(1, na, 2)], [(2, na, 3), (3, na, 2)], false, 120) := by decide +kernel
theorem k_5 : (queueR [(2, na, 3), (3, na, 2)] na).map (·.1) = [2, 3] := by decide +kernel
theorem k_6 : freeR [(1, na, 2)] [(2, na, 3), (3, na, 2)] 1 = ([(2, na, 3)], [(3, na, 2)], [2]) := by decide +kernel
theorem k_7 {o : Int} {k : Int} {l : List Int} (h : KeysOf (fun x => getR [(o, na, k)] x na) l) : l = [o] :=
  keys_eq h ⟨by simp, fun x => by
    rw [List.mem_singleton]
    constructor
    · rintro rfl
      have : getR [(x, na, k)] x na = some k := by unfold getR; rw [List.find?_cons, show hasP x na (x, na, k) = true from decide_eq_true ⟨rfl, rfl⟩]; rfl
      show (getR [(x, na, k)] x na).isSome = true
      rw [this]; rfl
    · intro hx
      obtain ⟨y, hy⟩ := Option.isSome_iff_exists.1 hx
      have := getR_mem hy
      simp at this
      exact this.1⟩
theorem k_8 : getR [(2, na, 3)] 2 na = some 3 := by decide +kernel
theorem k_9 : waitR [(3, na, 2)] 3 = some (3, na, 2) := by decide +kernel
theorem k_10 {l : List Int} (h : StuckL [(2, na, 3)] [(3, na, 2)] l) : l = [] := by
  cases l with
  | nil => rfl
  | cons o l =>
    have h3 : ∀ x ∈ o :: l, x = 3 := fun x hx => by
      obtain ⟨w, hw, rfl, _⟩ := h.closed x hx
      rw [List.mem_singleton.1 hw]
    obtain ⟨w, hw, _, x, hx, hb⟩ := h.closed o (by simp)
    rw [List.mem_singleton.1 hw, h3 x hx] at hb
    exact absurd hb (by decide +kernel)
attribute [local irreducible] Cfg Kont StepK Val Con Qops Any Sl Own Blk BlkR Rd Pu ExA AllA Has Pick Ent Elem Beside Callable TI Lone OwnO AndA
set_option maxRecDepth 100000 in
theorem alive12_con : Con Try.prog 35 [] [] (γ := Unit) (fun _ => .bool true) (fun _ => True) (fun _ => []) := by
  refine con_of Try.func35 rfl (dd rfl) fun w0 O0 => ?_
  refine c_seq ?_
  refine c_region ?_
  refine o_val (v_assign rfl) (dd rfl) ?_
  refine o_nil ?_
  refine c_seq ?_
  refine c_region ?_
  refine o_step (s_alloc ti75 (dd rfl) (fun b1 => ?_))
  refine o_nil ?_
  refine c_seq ?_
  refine c_ent (L' := [TabR 0 b1 [] []]) tabR_new ?_
  refine c_region ?_
  refine o_step (s_callf cl46 (askRt_con 0 b1 [] [] 1 na 2 (by omega)) rfl (dd rfl) (pXs (by repeat constructor)) fun _ _ => ?_)
  refine o_val (v_move rfl) (dd rfl) ?_
  refine o_val (v_extract rfl rfl) (dd rfl) ?_
  refine o_val (v_extract rfl rfl) (dd rfl) ?_
  refine o_val (v_assign rfl) (dd rfl) ?_
  refine o_val (v_assign rfl) (dd rfl) ?_
  refine o_nil ?_
  refine c_seq ?_
  refine c_region ?_
  rw [k_1]
  dsimp only
  refine o_step (s_callf cl46 (askRt_con 2 b1 [(1, na, 2)] [] 2 na 3 (by omega)) rfl (dd rfl) (pXs (by repeat constructor)) fun _ _ => ?_)
  refine o_val (v_move rfl) (dd rfl) ?_
  refine o_val (v_extract rfl rfl) (dd rfl) ?_
  refine o_val (v_extract rfl rfl) (dd rfl) ?_
  refine o_val (v_assign rfl) (dd rfl) ?_
  refine o_val (v_assign rfl) (dd rfl) ?_
  refine o_nil ?_
  refine c_seq ?_
  refine c_region ?_
  rw [k_2]
  dsimp only
  refine o_step (s_callf cl46 (askRt_con 4 b1 [(1, na, 2)] [(2, na, 3)] 3 na 2 (by omega)) rfl (dd rfl) (pXs (by repeat constructor)) fun _ _ => ?_)
  refine o_val (v_move rfl) (dd rfl) ?_
  refine o_val (v_extract rfl rfl) (dd rfl) ?_
  refine o_val (v_extract rfl rfl) (dd rfl) ?_
  refine o_val (v_assign rfl) (dd rfl) ?_
  refine o_val (v_assign rfl) (dd rfl) ?_
  refine o_nil ?_
  refine c_seq ?_
  refine c_region ?_
  rw [k_3]
  dsimp only
  refine o_step (s_callf cl46 (askRt_con 6 b1 [(1, na, 2)] [(2, na, 3), (3, na, 2)] 2 nb 2 (by omega)) rfl (dd rfl) (pXs (by repeat constructor)) fun _ _ => ?_)
  refine o_val (v_move rfl) (dd rfl) ?_
  refine o_val (v_extract rfl rfl) (dd rfl) ?_
  refine o_val (v_extract rfl rfl) (dd rfl) ?_
  refine o_val (v_assign rfl) (dd rfl) ?_
  refine o_val (v_assign rfl) (dd rfl) ?_
  refine o_nil ?_
  refine c_seq ?_
  refine c_region ?_
  rw [k_4]
  dsimp only
  refine o_step (s_callf cl41 (queueRt_con 8 b1 [(1, na, 2)] [(2, na, 3), (3, na, 2)] na (by omega)) rfl (dd rfl) (pXs (by repeat constructor)) fun r35 _ => ?_)
  refine o_val (v_assign rfl) (dd rfl) ?_
  refine o_nil ?_
  refine c_seq ?_
  refine c_region ?_
  rw [k_5]
  refine o_step (s_callf cl60 (copyRt_con 8 b1 [(1, na, 2)] [(2, na, 3), (3, na, 2)] (by omega)) rfl (dd rfl) (pXs (by repeat constructor)) fun u36 _ => ?_)
  refine o_val (v_assign rfl) (dd rfl) ?_
  refine o_nil ?_
  refine c_seq ?_
  refine c_region ?_
  refine o_step (s_callf cl45 (freeRt_con 8 b1 [(1, na, 2)] [(2, na, 3), (3, na, 2)] 1 (by omega)) rfl (dd rfl) (pXs (by repeat constructor)) fun r37 _ => ?_)
  refine o_val (v_assign rfl) (dd rfl) ?_
  refine o_nil ?_
  refine c_seq ?_
  refine c_region ?_
  rw [k_6]
  dsimp only
  refine o_step (s_callf cl39 (holdersR_con 8 b1 [(2, na, 3)] [(3, na, 2)] na (by omega)) rfl (dd rfl) (pXs (by repeat constructor)) fun r38 h38 => ?_)
  refine o_val (v_assign rfl) (dd rfl) ?_
  refine o_nil ?_
  refine c_seq ?_
  refine c_region ?_
  rw [k_7 h38.1]
  refine o_step (s_callf cl40 (hasR_con 8 b1 [(2, na, 3)] [(3, na, 2)] 2 na) rfl (dd rfl) (pXs (by repeat constructor)) fun _ _ => ?_)
  refine o_val (v_move rfl) (dd rfl) ?_
  refine o_val (v_extract rfl rfl) (dd rfl) ?_
  refine o_val (v_extract rfl rfl) (dd rfl) ?_
  refine o_val (v_assign rfl) (dd rfl) ?_
  refine o_val (v_assign rfl) (dd rfl) ?_
  refine o_nil ?_
  refine c_seq ?_
  refine c_region ?_
  rw [k_8]
  refine o_step (s_callf cl47 (waitsR_con 8 b1 [(2, na, 3)] [(3, na, 2)] 3 (by omega)) rfl (dd rfl) (pXs (by repeat constructor)) fun _ _ => ?_)
  refine o_val (v_move rfl) (dd rfl) ?_
  refine o_val (v_extract rfl rfl) (dd rfl) ?_
  refine o_val (v_extract rfl rfl) (dd rfl) ?_
  refine o_val (v_extract rfl rfl) (dd rfl) ?_
  refine o_val (v_assign rfl) (dd rfl) ?_
  refine o_val (v_assign rfl) (dd rfl) ?_
  refine o_val (v_assign rfl) (dd rfl) ?_
  refine o_nil ?_
  refine c_seq ?_
  refine c_seq ?_
  refine c_region ?_
  refine o_val (v_move rfl) (dd rfl) ?_
  refine o_val (v_eq_ptr_nil Try.underlying71 rfl rfl) (dd rfl) ?_
  refine o_nil ?_
  rw [k_9]
  have hL1 : ([2, 3] : List Int).length = 2 := rfl
  have hL2 : ([2] : List Int).length = 1 := rfl
  have hL3 : ([1] : List Int).length = 1 := rfl
  have hZ0 : Int.toNat 0 = 0 := rfl
  refine c_cond_f rfl ?_
  refine c_skip ?_
  refine c_seq ?_
  refine c_region ?_
  refine o_val (v_move rfl) (dd rfl) ?_
  refine o_val (v_move rfl) (dd rfl) ?_
  refine o_guard rfl rfl (fun _ => ?_) (fun h_ => absurd ((show _ = true from rfl).symm.trans h_) (by decide))
  refine o_val (v_move rfl) (dd rfl) ?_
  refine o_on rfl rfl ?_
  refine o_val (v_not rfl) (dd rfl) ?_
  refine o_val (v_pick_t rfl rfl) (dd rfl) ?_
  refine o_val (v_move rfl) (dd rfl) ?_
  refine o_guard rfl rfl (fun _ => ?_) (fun h_ => absurd ((show _ = true from rfl).symm.trans h_) (by decide))
  refine o_val (v_move rfl) (dd rfl) ?_
  refine o_on rfl rfl ?_
  refine o_val (v_not rfl) (dd rfl) ?_
  refine o_val (v_pick_t rfl rfl) (dd rfl) ?_
  refine o_val (v_move rfl) (dd rfl) ?_
  refine o_guard rfl rfl (fun _ => ?_) (fun h_ => absurd ((show _ = true from rfl).symm.trans h_) (by decide))
  refine o_val (v_move rfl) (dd rfl) ?_
  refine o_on rfl rfl ?_
  refine o_val (v_eq rfl rfl) (dd rfl) ?_
  refine o_val (v_pick_t rfl rfl) (dd rfl) ?_
  refine o_val (v_move rfl) (dd rfl) ?_
  refine o_guard rfl rfl (fun _ => ?_) (fun h_ => absurd ((show _ = true from rfl).symm.trans h_) (by decide))
  refine o_val (v_move rfl) (dd rfl) ?_
  refine o_on rfl rfl ?_
  refine o_val ((by first | exact v_len_form Try.underlying35 rfl | exact v_len_sl Try.underlying35 rfl (hX (by repeat constructor)))) (dd rfl) ?_
  refine o_on rfl rfl ?_
  refine o_val (v_eq rfl rfl) (dd rfl) ?_
  refine o_val (v_pick_t rfl rfl) (dd rfl) ?_
  refine o_val (v_move rfl) (dd rfl) ?_
  refine o_guard rfl rfl (fun _ => ?_) (fun h_ => absurd ((show _ = true from rfl).symm.trans h_) (by decide))
  refine o_val (v_move rfl) (dd rfl) ?_
  refine o_on rfl rfl ?_
  refine o_val ((by first | exact v_indexAddrN Try.underlying35 ti3 rfl rfl (hX (by repeat constructor)) (by omega) | exact v_indexAddr Try.underlying35 ti3 rfl rfl (hX (by repeat constructor)) (by omega))) (dd rfl) ?_
  refine o_on rfl rfl ?_
  refine o_val (v_load_int lone3 rfl (by repeat (first | exact Elem.sl (List.getElem?_eq_getElem (by omega)) | exact Elem.own (List.getElem?_eq_getElem (by omega)) | exact Elem.ownO (List.getElem?_eq_getElem (by omega)) | apply Elem.there))) (dd rfl) ?_
  refine o_on rfl rfl ?_
  refine o_val (v_eq rfl rfl) (dd rfl) ?_
  refine o_val (v_pick_t rfl rfl) (dd rfl) ?_
  refine o_val (v_move rfl) (dd rfl) ?_
  refine o_guard rfl rfl (fun _ => ?_) (fun h_ => absurd ((show _ = true from rfl).symm.trans h_) (by decide))
  refine o_val (v_move rfl) (dd rfl) ?_
  refine o_on rfl rfl ?_
  refine o_val ((by first | exact v_len_form Try.underlying35 rfl | exact v_len_sl Try.underlying35 rfl (hX (by repeat constructor)))) (dd rfl) ?_
  refine o_on rfl rfl ?_
  refine o_val (v_eq rfl rfl) (dd rfl) ?_
  refine o_val (v_pick_t rfl rfl) (dd rfl) ?_
  refine o_val (v_move rfl) (dd rfl) ?_
  refine o_guard rfl rfl (fun _ => ?_) (fun h_ => absurd ((show _ = true from rfl).symm.trans h_) (by decide))
  refine o_val (v_move rfl) (dd rfl) ?_
  refine o_on rfl rfl ?_
  refine o_val ((by first | exact v_indexAddrN Try.underlying35 ti3 rfl rfl (hX (by repeat constructor)) (by omega) | exact v_indexAddr Try.underlying35 ti3 rfl rfl (hX (by repeat constructor)) (by omega))) (dd rfl) ?_
  refine o_on rfl rfl ?_
  refine o_val (v_load_int lone3 rfl (by repeat (first | exact Elem.sl (List.getElem?_eq_getElem (by omega)) | exact Elem.own (List.getElem?_eq_getElem (by omega)) | exact Elem.ownO (List.getElem?_eq_getElem (by omega)) | apply Elem.there))) (dd rfl) ?_
  refine o_on rfl rfl ?_
  refine o_val (v_eq rfl rfl) (dd rfl) ?_
  refine o_val (v_pick_t rfl rfl) (dd rfl) ?_
  refine o_val (v_move rfl) (dd rfl) ?_
  refine o_guard rfl rfl (fun _ => ?_) (fun h_ => absurd ((show _ = true from rfl).symm.trans h_) (by decide))
  refine o_val (v_move rfl) (dd rfl) ?_
  refine o_on rfl rfl ?_
  refine o_val ((by first | exact v_len_form Try.underlying35 rfl | exact v_len_sl Try.underlying35 rfl (hX (by repeat constructor)))) (dd rfl) ?_
  refine o_on rfl rfl ?_
  refine o_val (v_eq rfl rfl) (dd rfl) ?_
  refine o_val (v_pick_t rfl rfl) (dd rfl) ?_
  refine o_val (v_move rfl) (dd rfl) ?_
  refine o_guard rfl rfl (fun _ => ?_) (fun h_ => absurd ((show _ = true from rfl).symm.trans h_) (by decide))
  refine o_val (v_move rfl) (dd rfl) ?_
  refine o_on rfl rfl ?_
  refine o_val (v_eq rfl rfl) (dd rfl) ?_
  refine o_val (v_pick_t rfl rfl) (dd rfl) ?_
  refine o_val (v_move rfl) (dd rfl) ?_
  refine o_guard rfl rfl (fun _ => ?_) (fun h_ => absurd ((show _ = true from rfl).symm.trans h_) (by decide))
  refine o_val (v_move rfl) (dd rfl) ?_
  refine o_val (v_pick_t rfl rfl) (dd rfl) ?_
  refine o_val (v_move rfl) (dd rfl) ?_
  refine o_guard rfl rfl (fun _ => ?_) (fun h_ => absurd ((show _ = true from rfl).symm.trans h_) (by decide))
  refine o_val (v_move rfl) (dd rfl) ?_
  refine o_on rfl rfl ?_
  refine o_val (v_seq rfl rfl) (dd rfl) ?_
  refine o_val (v_pick_t rfl rfl) (dd rfl) ?_
  refine o_val (v_move rfl) (dd rfl) ?_
  refine o_guard rfl rfl (fun _ => ?_) (fun h_ => absurd ((show _ = true from rfl).symm.trans h_) (by decide))
  refine o_val (v_move rfl) (dd rfl) ?_
  refine o_on rfl rfl ?_
  refine o_val (v_eq rfl rfl) (dd rfl) ?_
  refine o_val (v_pick_t rfl rfl) (dd rfl) ?_
  refine o_val (v_move rfl) (dd rfl) ?_
  refine o_guard rfl rfl (fun _ => ?_) (fun h_ => absurd ((show _ = true from rfl).symm.trans h_) (by decide))
  refine o_val (v_move rfl) (dd rfl) ?_
  refine o_val (v_pick_t rfl rfl) (dd rfl) ?_
  refine o_val (v_move rfl) (dd rfl) ?_
  refine o_guard rfl rfl (fun _ => ?_) (fun h_ => absurd ((show _ = true from rfl).symm.trans h_) (by decide))
  refine o_step (s_callf cl43 (stuckRt_con 8 b1 [(2, na, 3)] [(3, na, 2)] (by omega)) rfl (dd rfl) (pXs (by repeat constructor)) fun r109 h109 => ?_)
  refine o_on rfl rfl ?_
  refine o_val ((by first | exact v_len_form Try.underlying35 rfl | exact v_len_sl Try.underlying35 rfl (hX (by repeat constructor)))) (dd rfl) ?_
  refine o_on rfl rfl ?_
  refine o_val (v_eq rfl rfl) (dd rfl) ?_
  refine o_val (v_pick_t rfl rfl) (dd rfl) ?_
  refine o_val (v_move rfl) (dd rfl) ?_
  rw [k_10 h109.1]
  refine o_guard rfl rfl (fun _ => ?_) (fun h_ => absurd ((show _ = true from rfl).symm.trans h_) (by decide))
  refine o_val (v_move rfl) (dd rfl) ?_
  refine o_on rfl rfl ?_
  refine o_step (s_callf cl39 (holdersR_con 8 u36 [(1, na, 2)] [(2, na, 3), (3, na, 2)] na (by omega)) rfl (dd rfl) (pXs (by repeat constructor)) fun r115 h115 => ?_)
  refine o_on rfl rfl ?_
  refine o_val ((by first | exact v_len_form Try.underlying35 rfl | exact v_len_sl Try.underlying35 rfl (hX (by repeat constructor)))) (dd rfl) ?_
  refine o_on rfl rfl ?_
  refine o_val (v_eq rfl rfl) (dd rfl) ?_
  refine o_val (v_pick_t rfl rfl) (dd rfl) ?_
  refine o_val (v_move rfl) (dd rfl) ?_
  rw [k_7 h115.1]
  refine o_guard rfl rfl (fun _ => ?_) (fun h_ => absurd ((show _ = true from rfl).symm.trans h_) (by decide))
  refine o_val (v_move rfl) (dd rfl) ?_
  refine o_on rfl rfl ?_
  refine o_step (s_callf cl39 (holdersR_con 8 u36 [(1, na, 2)] [(2, na, 3), (3, na, 2)] na (by omega)) rfl (dd rfl) (pXs (by repeat constructor)) fun r121 h121 => ?_)
  rw [k_7 h121.1]
  refine o_on rfl rfl ?_
  refine o_val ((by first | exact v_indexAddrN Try.underlying35 ti3 rfl rfl (hX (by repeat constructor)) (by omega) | exact v_indexAddr Try.underlying35 ti3 rfl rfl (hX (by repeat constructor)) (by omega))) (dd rfl) ?_
  refine o_on rfl rfl ?_
  refine o_val (v_load_int lone3 rfl (by repeat (first | exact Elem.sl (List.getElem?_eq_getElem (by omega)) | exact Elem.own (List.getElem?_eq_getElem (by omega)) | exact Elem.ownO (List.getElem?_eq_getElem (by omega)) | apply Elem.there))) (dd rfl) ?_
  refine o_on rfl rfl ?_
  refine o_val (v_eq rfl rfl) (dd rfl) ?_
  refine o_val (v_pick_t rfl rfl) (dd rfl) ?_
  refine o_val (v_move rfl) (dd rfl) ?_
  refine o_guard rfl rfl (fun _ => ?_) (fun h_ => absurd ((show _ = true from rfl).symm.trans h_) (by decide))
  refine o_step (s_callf_keep cl32 (Fits_con _ _) rfl (dd rfl) (rX (by repeat constructor)) (fun _ => sX) (fun _ _ => ?_))
  refine o_val (v_pick_t rfl rfl) (dd rfl) ?_
  refine o_val (v_move rfl) (dd rfl) ?_
  refine o_guard rfl rfl (fun _ => ?_) (fun h_ => absurd ((show _ = true from rfl).symm.trans h_) (by decide))
  refine o_step (s_callf_keep cl30 (Both_con _ _) rfl (dd rfl) (rX (by repeat constructor)) (fun _ => sX) (fun _ _ => ?_))
  refine o_on rfl rfl ?_
  refine o_val (v_eq rfl rfl) (dd rfl) ?_
  refine o_val (v_pick_t rfl rfl) (dd rfl) ?_
  refine o_val (v_assign rfl) (dd rfl) ?_
  refine o_nil ?_
  refine c_ret1 Try.func35 rfl rfl fun w O hS => ?_
  exact ⟨(), rfl, trivial, trivial⟩
end Go.Proofs.Ytnamhhmfnokfiaa
/- LockAll: a call of the table and of the rows; what both say. -/
namespace Go.Proofs.Ytnamhhmfnokfiaa
open Go Go.SL
def nextR (L W : List Hs) (o : Op12) : List Hs × List Hs := if o.1 = 0 then ((askR L W o.2.1 o.2.2.1 o.2.2.2).1, (askR L W o.2.1 o.2.2.1 o.2.2.2).2.1) else if o.1 = 1 then ((freeR L W o.2.1).1, (freeR L W o.2.1).2.1) else (L, W)
theorem ins_len (L : List Hs) (n : ByteArray) (has : Bool) (w : Hs) (W : List Hs) : (insR L n has w W).length = W.length + 1 := by
  obtain ⟨A, B, h1, h2, _⟩ := ins_split L n has w W
  rw [h2, h1]; simp; omega
theorem ask_len (L W : List Hs) (o : Int) (n : ByteArray) (q : Int) : (askR L W o n q).1.length ≤ L.length + 1 ∧ (askR L W o n q).2.1.length ≤ W.length + 1 := by
  unfold askR
  split
  · exact ⟨Nat.le_succ _, Nat.le_succ _⟩
  · split
    · exact ⟨Nat.le_succ _, Nat.le_succ _⟩
    · split
      · exact ⟨Nat.le_succ _, Nat.le_succ _⟩
      · split
        · exact ⟨gets_len L _, Nat.le_succ _⟩
        · exact ⟨Nat.le_succ _, by rw [ins_len]; exact Nat.le_refl _⟩
theorem serve_len : ∀ (k : Nat) (L W : List Hs) (out : List Int), (serveR k L W out).1.length + (serveR k L W out).2.1.length ≤ L.length + W.length ∧ (serveR k L W out).2.2.length ≤ out.length + W.length
  | 0, L, W, out => ⟨Nat.le_refl _, Nat.le_add_right _ _⟩
  | k + 1, L, W, out => by
    cases hf : firstR L W with
    | none => simp [serveR, hf]
    | some w =>
      have e : serveR (k + 1) L W out = serveR k (getsR L w) (withoutR W w.1) (putI w.1 out) := by simp [serveR, hf]
      rw [e]
      have h1 := serve_len k (getsR L w) (withoutR W w.1) (putI w.1 out)
      have h2 := gets_len L w
      have h3 := without_lt (first_mem hf)
      rw [putI_len] at h1
      omega
theorem free_len (L W : List Hs) (o : Int) : (freeR L W o).1.length + (freeR L W o).2.1.length ≤ L.length + W.length ∧ (freeR L W o).2.2.length ≤ W.length := by
  have h1 := serve_len (withoutR W o).length (withoutR L o) (withoutR W o) []
  have h2 : (withoutR L o).length ≤ L.length := List.length_filter_le _ _
  have h3 : (withoutR W o).length ≤ W.length := List.length_filter_le _ _
  simp only [List.length_nil] at h1
  unfold freeR
  omega
theorem next_len (L W : List Hs) (o : Op12) : (nextR L W o).1.length + (nextR L W o).2.length ≤ L.length + W.length + 1 := by
  unfold nextR
  split
  · unfold askR
    split
    · simp
    · split
      · simp
      · split
        · simp
        · split
          · have := gets_len L (wishR L o.2.1 o.2.2.1 o.2.2.2); dsimp only; omega
          · dsimp only; rw [ins_len]; omega
  · split
    · have := free_len L W o.2.1; dsimp only; omega
    · simp
attribute [local irreducible] Cfg Kont StepK Val Con Qops Any Sl Own Blk BlkR Rd Pu ExA AllA Has Pick Ent Elem Beside Callable TI Lone OwnO AndA
set_option maxRecDepth 100000 in
theorem does12_con (N t : Nat) (L W L0 W0 : List Hs) (lv wv : Value) (o : Op12) (hN : N ≤ 900) (hl : L0.length + W0.length ≤ 400) (hl' : L.length + W.length ≤ 400) :
    Con Try.prog 37 [.pointer (some ⟨t, 0, none⟩), .agg #[lv, wv], .agg #[.int .i64 o.1, .int .i64 o.2.1, .string o.2.2.1, .int .i64 o.2.2.2]] [TabR N t L W, Sl eHs lv L0, Sl eHs wv W0] (γ := Nat × Value × Value × Bool) (fun r => .tuple #[.pointer (some ⟨r.1, 0, none⟩), .agg #[r.2.1, r.2.2.1], .bool r.2.2.2]) (fun r => L0 = L → W0 = W → r.2.2.2 = true)
      (fun r => [TabR (N + 2) r.1 (nextR L W o).1 (nextR L W o).2, Sl eHs r.2.1 (nextR L0 W0 o).1, Sl eHs r.2.2.1 (nextR L0 W0 o).2]) := by
  refine con_of Try.func37 rfl (dd rfl) fun w0 O0 => ?_
  refine c_seq ?_
  refine c_region ?_
  refine o_step (s_box rfl (dd rfl) (fun b4 => ?_))
  refine o_step (s_box rfl (dd rfl) (fun b5 => ?_))
  refine o_val (v_assign rfl) (dd rfl) ?_
  refine o_step (s_alloc ti78 (dd rfl) (fun b7 => ?_))
  refine o_val (v_assign rfl) (dd rfl) ?_
  refine o_nil ?_
  refine c_seq ?_
  refine c_seq ?_
  refine c_region ?_
  refine o_val (v_fieldAddrC 0 Try.underlying80 rfl ti3 (by decide) rfl) (dd rfl) ?_
  refine o_val (v_load lone3 rfl (hX (by repeat constructor)) rfl) (dd rfl) ?_
  refine o_nil ?_
  refine c_block ?_
  refine c_seq ?_
  refine c_region ?_
  refine o_val (v_eq rfl rfl) (dd rfl) ?_
  refine o_val (v_assign rfl) (dd rfl) ?_
  refine o_nil ?_
  refine c_cond_p rfl (fun h0 => ?_) (fun h0 => ?_)
  · have hn : ∀ L W, nextR L W o = ((askR L W o.2.1 o.2.2.1 o.2.2.2).1, (askR L W o.2.1 o.2.2.1 o.2.2.2).2.1) := fun L W => if_pos h0
    have hl0 := ask_len L0 W0 o.2.1 o.2.2.1 o.2.2.2
    refine c_seq ?_
    refine c_region ?_
    refine o_val (v_load_all ⟨_, Try.underlying78⟩ ti78 rfl (hX (by repeat constructor)) rfl) (dd rfl) ?_
    refine o_val (v_fieldAddrC 1 Try.underlying80 rfl ti3 (by decide) rfl) (dd rfl) ?_
    refine o_val (v_load lone3 rfl (hX (by repeat constructor)) rfl) (dd rfl) ?_
    refine o_val (v_fieldAddrC 2 Try.underlying80 rfl ti9 (by decide) rfl) (dd rfl) ?_
    refine o_val (v_load lone9 rfl (hX (by repeat constructor)) rfl) (dd rfl) ?_
    refine o_val (v_fieldAddrC 3 Try.underlying80 rfl ti3 (by decide) rfl) (dd rfl) ?_
    refine o_val (v_load lone3 rfl (hX (by repeat constructor)) rfl) (dd rfl) ?_
    refine o_step (s_callf cl61 (askR_con lv wv L0 W0 o.2.1 o.2.2.1 o.2.2.2 (by omega) (by omega)) rfl (dd rfl) (pXs (by repeat constructor)) fun r29 _ => ?_)
    refine o_val (v_move rfl) (dd rfl) ?_
    refine o_val (v_extract rfl rfl) (dd rfl) ?_
    refine o_val (v_extract rfl rfl) (dd rfl) ?_
    refine o_val (v_extract rfl rfl) (dd rfl) ?_
    refine o_step (s_alloc ti78 (dd rfl) (fun b9 => ?_))
    refine o_step (s_store_all ti78 rfl rfl (by first | exact CellsV.lit rfl | exact CellsV.one (by first | exact OneC.lit rfl | exact OneC.sl (hX (by repeat constructor)) )) (by repeat (first | exact OneAll.nil | (refine OneAll.cons ?_ ?_; · first | exact OneC.lit rfl | exact OneC.sl (hX (by repeat constructor)) ) | exact OneAll.rd (hX (by repeat constructor)))) rfl (pB (by repeat constructor)) rfl (?_))
    refine o_val (v_assign rfl) (dd rfl) ?_
    refine o_val (v_assign rfl) (dd rfl) ?_
    refine o_nil ?_
    refine c_seq ?_
    refine c_region ?_
    refine o_val (v_move rfl) (dd rfl) ?_
    refine o_val (v_fieldAddrC 1 Try.underlying80 rfl ti3 (by decide) rfl) (dd rfl) ?_
    refine o_val (v_load lone3 rfl (hX (by repeat constructor)) rfl) (dd rfl) ?_
    refine o_val (v_fieldAddrC 2 Try.underlying80 rfl ti9 (by decide) rfl) (dd rfl) ?_
    refine o_val (v_load lone9 rfl (hX (by repeat constructor)) rfl) (dd rfl) ?_
    refine o_val (v_fieldAddrC 3 Try.underlying80 rfl ti3 (by decide) rfl) (dd rfl) ?_
    refine o_val (v_load lone3 rfl (hX (by repeat constructor)) rfl) (dd rfl) ?_
    refine o_step (s_callf cl46 (askRt_con N t L W o.2.1 o.2.2.1 o.2.2.2 (by omega)) rfl (dd rfl) (pXs (by repeat constructor)) fun _ _ => ?_)
    refine o_val (v_move rfl) (dd rfl) ?_
    refine o_val (v_extract rfl rfl) (dd rfl) ?_
    refine o_val (v_extract rfl rfl) (dd rfl) ?_
    refine o_val (v_assign rfl) (dd rfl) ?_
    refine o_val (v_assign rfl) (dd rfl) ?_
    refine o_nil ?_
    refine c_seq ?_
    by_cases hb : (askR L W o.2.1 o.2.2.1 o.2.2.2).2.2.1 = (askR L0 W0 o.2.1 o.2.2.1 o.2.2.2).2.2.1
    · skip
      refine c_held [BlkR b9 78 [r29.1, r29.2]] rfl ?_
      refine a_take 0 rfl (by kernel_rfl) (by kernel_rfl) (by kernel_rfl) (v_move rfl) (eX (by repeat constructor)) (dd rfl) ?_
      refine a_take 1 rfl (by kernel_rfl) (by kernel_rfl) (by kernel_rfl) (v_load_all ⟨_, Try.underlying78⟩ ti78 rfl (hX (by repeat constructor)) rfl) (eX (by repeat constructor)) (dd rfl) ?_
      refine a_take 2 rfl (by kernel_rfl) (by kernel_rfl) (by kernel_rfl) (v_move rfl) (eX (by repeat constructor)) (dd rfl) ?_
      refine a_take 3 rfl (by kernel_rfl) (by kernel_rfl) (by kernel_rfl) (v_move rfl) (eX (by repeat constructor)) (dd rfl) ?_
      refine a_take 4 rfl (by kernel_rfl) (by kernel_rfl) (by kernel_rfl) (v_beq Try.underlying4 rfl rfl) (eX (by repeat constructor)) (dd rfl) ?_
      refine a_take 5 rfl (by kernel_rfl) (by kernel_rfl) (by kernel_rfl) (v_move rfl) (eX (by repeat constructor)) (dd rfl) ?_
      refine a_take 10 rfl (by kernel_rfl) (by kernel_rfl) (by kernel_rfl) (v_assign rfl) (eX (by repeat constructor)) (dd rfl) ?_
      refine a_know (s := 49) rfl (show _ = Value.bool true from congrArg Value.bool (decide_eq_true hb)) ?_
      refine a_take_on 6 rfl rfl rfl (by kernel_rfl) (by kernel_rfl) (by kernel_rfl) (v_move rfl) (eX (by repeat constructor)) (dd rfl) ?_
      refine a_take_on 7 rfl rfl rfl (by kernel_rfl) (by kernel_rfl) (by kernel_rfl) (v_move rfl) (eX (by repeat constructor)) (dd rfl) ?_
      refine a_take_on 8 rfl rfl rfl (by kernel_rfl) (by kernel_rfl) (by kernel_rfl) (v_eq rfl rfl) (eX (by repeat constructor)) (dd rfl) ?_
      refine a_take 9 rfl (by kernel_rfl) (by kernel_rfl) (by kernel_rfl) (v_pick_t rfl rfl) (eX (by repeat constructor)) (dd rfl) ?_
      refine a_one 11 rfl (by kernel_rfl) (s_store_all ti78 rfl rfl (by first | exact CellsV.lit rfl | exact CellsV.one (by first | exact OneC.lit rfl | exact OneC.sl (hX (by repeat constructor)) )) (by repeat (first | exact OneAll.nil | (refine OneAll.cons ?_ ?_; · first | exact OneC.lit rfl | exact OneC.sl (hX (by repeat constructor)) ) | exact OneAll.rd (hX (by repeat constructor)))) rfl (pB (by repeat constructor)) rfl (a_on (eX (by repeat constructor)) ?_))
      refine a_take 12 rfl (by kernel_rfl) (by kernel_rfl) (by kernel_rfl) (v_assign rfl) (eX (by repeat constructor)) (dd rfl) ?_
      refine a_done (by kernel_rfl) ?_ _
      refine c_ret_tct Try.func37 rfl ⟨_, Try.underlying78⟩ ti78 rfl rfl rfl (hX (by repeat constructor)) fun w O hS => ?_
      refine ⟨(t, r29.1, r29.2, _), rfl, fun e1 e2 => by subst e1; subst e2; exact decide_eq_true rfl, ?_⟩
      rw [hn, hn]
      exact Ent.get hS (eX (by repeat constructor))
    · skip
      skip
      refine c_held [BlkR b9 78 [r29.1, r29.2]] rfl ?_
      refine a_take 0 rfl (by kernel_rfl) (by kernel_rfl) (by kernel_rfl) (v_move rfl) (eX (by repeat constructor)) (dd rfl) ?_
      refine a_take 1 rfl (by kernel_rfl) (by kernel_rfl) (by kernel_rfl) (v_load_all ⟨_, Try.underlying78⟩ ti78 rfl (hX (by repeat constructor)) rfl) (eX (by repeat constructor)) (dd rfl) ?_
      refine a_take 2 rfl (by kernel_rfl) (by kernel_rfl) (by kernel_rfl) (v_move rfl) (eX (by repeat constructor)) (dd rfl) ?_
      refine a_take 3 rfl (by kernel_rfl) (by kernel_rfl) (by kernel_rfl) (v_move rfl) (eX (by repeat constructor)) (dd rfl) ?_
      refine a_take 4 rfl (by kernel_rfl) (by kernel_rfl) (by kernel_rfl) (v_beq Try.underlying4 rfl rfl) (eX (by repeat constructor)) (dd rfl) ?_
      refine a_take 5 rfl (by kernel_rfl) (by kernel_rfl) (by kernel_rfl) (v_move rfl) (eX (by repeat constructor)) (dd rfl) ?_
      refine a_take 10 rfl (by kernel_rfl) (by kernel_rfl) (by kernel_rfl) (v_assign rfl) (eX (by repeat constructor)) (dd rfl) ?_
      refine a_know (s := 49) rfl (show _ = Value.bool false from congrArg Value.bool (decide_eq_false hb)) ?_
      refine a_take_off 6 rfl rfl rfl rfl (by kernel_rfl) (by kernel_rfl) (by kernel_rfl) (eX (by repeat constructor)) (dd rfl) ?_
      refine a_take_off 7 rfl rfl rfl rfl (by kernel_rfl) (by kernel_rfl) (by kernel_rfl) (eX (by repeat constructor)) (dd rfl) ?_
      refine a_take_off 8 rfl rfl rfl rfl (by kernel_rfl) (by kernel_rfl) (by kernel_rfl) (eX (by repeat constructor)) (dd rfl) ?_
      refine a_take 9 rfl (by kernel_rfl) (by kernel_rfl) (by kernel_rfl) (v_pick_f rfl rfl) (eX (by repeat constructor)) (dd rfl) ?_
      refine a_one 11 rfl (by kernel_rfl) (s_store_all ti78 rfl rfl (by first | exact CellsV.lit rfl | exact CellsV.one (by first | exact OneC.lit rfl | exact OneC.sl (hX (by repeat constructor)) )) (by repeat (first | exact OneAll.nil | (refine OneAll.cons ?_ ?_; · first | exact OneC.lit rfl | exact OneC.sl (hX (by repeat constructor)) ) | exact OneAll.rd (hX (by repeat constructor)))) rfl (pB (by repeat constructor)) rfl (a_on (eX (by repeat constructor)) ?_))
      refine a_take 12 rfl (by kernel_rfl) (by kernel_rfl) (by kernel_rfl) (v_assign rfl) (eX (by repeat constructor)) (dd rfl) ?_
      refine a_done (by kernel_rfl) ?_ _
      refine c_ret_tct Try.func37 rfl ⟨_, Try.underlying78⟩ ti78 rfl rfl rfl (hX (by repeat constructor)) fun w O hS => ?_
      refine ⟨(t, r29.1, r29.2, _), rfl, fun e1 e2 => absurd (by subst e1; subst e2; rfl) hb, ?_⟩
      rw [hn, hn]
      exact Ent.get hS (eX (by repeat constructor))
  · refine c_seq ?_
    refine c_region ?_
    refine o_val (v_eq rfl rfl) (dd rfl) ?_
    refine o_val (v_assign rfl) (dd rfl) ?_
    refine o_nil ?_
    refine c_cond_p rfl (fun h1 => ?_) (fun h1 => ?_)
    · have hn : ∀ L W, nextR L W o = ((freeR L W o.2.1).1, (freeR L W o.2.1).2.1) := fun L W => (if_neg h0).trans (if_pos h1)
      have hf0 := free_len L0 W0 o.2.1
      have hf1 := free_len L W o.2.1
      refine c_seq ?_
      refine c_region ?_
      refine o_val (v_load_all ⟨_, Try.underlying78⟩ ti78 rfl (hX (by repeat constructor)) rfl) (dd rfl) ?_
      refine o_val (v_fieldAddrC 1 Try.underlying80 rfl ti3 (by decide) rfl) (dd rfl) ?_
      refine o_val (v_load lone3 rfl (hX (by repeat constructor)) rfl) (dd rfl) ?_
      refine o_step (s_callf cl62 (freeR_con lv wv L0 W0 o.2.1 (by omega) (by omega)) rfl (dd rfl) (pXs (by repeat constructor)) fun r57 _ => ?_)
      refine o_val (v_move rfl) (dd rfl) ?_
      refine o_val (v_extract rfl rfl) (dd rfl) ?_
      refine o_val (v_extract rfl rfl) (dd rfl) ?_
      refine o_step (s_alloc ti78 (dd rfl) (fun b14 => ?_))
      refine o_step (s_store_all ti78 rfl rfl (by first | exact CellsV.lit rfl | exact CellsV.one (by first | exact OneC.lit rfl | exact OneC.sl (hX (by repeat constructor)) )) (by repeat (first | exact OneAll.nil | (refine OneAll.cons ?_ ?_; · first | exact OneC.lit rfl | exact OneC.sl (hX (by repeat constructor)) ) | exact OneAll.rd (hX (by repeat constructor)))) rfl (pB (by repeat constructor)) rfl (?_))
      refine o_val (v_assign rfl) (dd rfl) ?_
      refine o_nil ?_
      refine c_seq ?_
      refine c_held [BlkR b14 78 [r57.1, r57.2.1], BlkR b5 80 [.int .i64 o.1, .int .i64 o.2.1, .string o.2.2.1, .int .i64 o.2.2.2]] rfl ?_
      refine a_take 0 rfl (by kernel_rfl) (by kernel_rfl) (by kernel_rfl) (v_move rfl) (eX (by repeat constructor)) (dd rfl) ?_
      refine a_take 1 rfl (by kernel_rfl) (by kernel_rfl) (by kernel_rfl) (v_load_all ⟨_, Try.underlying78⟩ ti78 rfl (hX (by repeat constructor)) rfl) (eX (by repeat constructor)) (dd rfl) ?_
      refine a_take 2 rfl (by kernel_rfl) (by kernel_rfl) (by kernel_rfl) (v_move rfl) (eX (by repeat constructor)) (dd rfl) ?_
      refine a_take 3 rfl (by kernel_rfl) (by kernel_rfl) (by kernel_rfl) (v_fieldAddrC 1 Try.underlying80 rfl ti3 (by decide) rfl) (eX (by repeat constructor)) (dd rfl) ?_
      refine a_take 4 rfl (by kernel_rfl) (by kernel_rfl) (by kernel_rfl) (v_load lone3 rfl (hX (by repeat constructor)) rfl) (eX (by repeat constructor)) (dd rfl) ?_
      refine a_take 6 rfl (by kernel_rfl) (by kernel_rfl) (by kernel_rfl) (v_move rfl) (eX (by repeat constructor)) (dd rfl) ?_
      refine a_one 5 rfl (by kernel_rfl) (s_callf cl45 (freeRt_con N t L W o.2.1 (by omega)) rfl (dd rfl) (pXs (by repeat constructor)) (fun r63 _ => a_on (eX (by repeat constructor)) ?_))
      refine a_one 7 rfl (by kernel_rfl) (s_callf cl63 (numbers_con r63 r57.2.2 (freeR L W o.2.1).2.2 (freeR L0 W0 o.2.1).2.2 (by omega) (by omega)) rfl (dd rfl) (pXs (by repeat constructor)) (fun _ _ => a_on (eX (by repeat constructor)) ?_))
      refine a_take 8 rfl (by kernel_rfl) (by kernel_rfl) (by kernel_rfl) (v_assign rfl) (eX (by repeat constructor)) (dd rfl) ?_
      refine a_one 9 rfl (by kernel_rfl) (s_store_all ti78 rfl rfl (by first | exact CellsV.lit rfl | exact CellsV.one (by first | exact OneC.lit rfl | exact OneC.sl (hX (by repeat constructor)) )) (by repeat (first | exact OneAll.nil | (refine OneAll.cons ?_ ?_; · first | exact OneC.lit rfl | exact OneC.sl (hX (by repeat constructor)) ) | exact OneAll.rd (hX (by repeat constructor)))) rfl (pB (by repeat constructor)) rfl (a_on (eX (by repeat constructor)) ?_))
      refine a_take 10 rfl (by kernel_rfl) (by kernel_rfl) (by kernel_rfl) (v_assign rfl) (eX (by repeat constructor)) (dd rfl) ?_
      refine a_done (by kernel_rfl) ?_ _
      refine c_ret_tct Try.func37 rfl ⟨_, Try.underlying78⟩ ti78 rfl rfl rfl (hX (by repeat constructor)) fun w O hS => ?_
      refine ⟨(t, r57.1, r57.2.1, _), rfl, fun e1 e2 => by subst e1; subst e2; exact decide_eq_true rfl, ?_⟩
      rw [hn, hn]
      exact Ent.get (Ent.get hS (L' := [TabR N t (freeR L W o.2.1).1 (freeR L W o.2.1).2.1, Sl eHs r57.1 (freeR L0 W0 o.2.1).1, Sl eHs r57.2.1 (freeR L0 W0 o.2.1).2.1]) (eX (by repeat constructor))) (Ent.head fun _ _ => tabR_le (by omega))
    · have hn : ∀ L W, nextR L W o = (L, W) := fun L W => (if_neg h0).trans (if_neg h1)
      refine c_seq ?_
      refine c_region ?_
      refine o_val (v_eq rfl rfl) (dd rfl) ?_
      refine o_val (v_assign rfl) (dd rfl) ?_
      refine o_nil ?_
      refine c_cond_p rfl (fun h2 => ?_) (fun h2 => ?_)
      · refine c_seq ?_
        refine c_region ?_
        refine o_val (v_move rfl) (dd rfl) ?_
        refine o_step (s_callf cl60 (copyRt_con N t L W (by omega)) rfl (dd rfl) (pXs (by repeat constructor)) fun u _ => ?_)
        refine o_val (v_assign rfl) (dd rfl) ?_
        refine o_nil ?_
        refine c_seq ?_
        refine c_seq ?_
        refine c_region ?_
        refine o_val (v_move rfl) (dd rfl) ?_
        refine o_val (v_eq_ptr_nil Try.underlying71 rfl rfl) (dd rfl) ?_
        refine o_nil ?_
        refine c_cond_f rfl ?_
        refine c_skip ?_
        refine c_seq ?_
        refine c_region ?_
        refine o_val (v_move rfl) (dd rfl) ?_
        refine o_val (v_fieldAddrC 1 Try.underlying80 rfl ti3 (by decide) rfl) (dd rfl) ?_
        refine o_val (v_load lone3 rfl (hX (by repeat constructor)) rfl) (dd rfl) ?_
        refine o_step (s_callf cl45 (freeRt_con N t L W o.2.1 (by omega)) rfl (dd rfl) (pXs (by repeat constructor)) fun r80 _ => ?_)
        refine o_nil ?_
        refine c_seq ?_
        refine c_region ?_
        refine o_val (v_move rfl) (dd rfl) ?_
        refine o_val (v_fieldAddrC 2 Try.underlying80 rfl ti9 (by decide) rfl) (dd rfl) ?_
        refine o_val (v_load lone9 rfl (hX (by repeat constructor)) rfl) (dd rfl) ?_
        refine o_step (s_callf cl46 (askRt_con N t _ _ 99 o.2.2.1 3 (by omega)) rfl (dd rfl) (pXs (by repeat constructor)) fun _ _ => ?_)
        refine o_nil ?_
        refine c_seq ?_
        refine c_held [BlkR b4 78 [lv, wv]] rfl ?_
        refine a_take 0 rfl (by kernel_rfl) (by kernel_rfl) (by kernel_rfl) (v_move rfl) (eX (by repeat constructor)) (dd rfl) ?_
        refine a_take 1 rfl (by kernel_rfl) (by kernel_rfl) (by kernel_rfl) (v_load_all ⟨_, Try.underlying78⟩ ti78 rfl (hX (by repeat constructor)) rfl) (eX (by repeat constructor)) (dd rfl) ?_
        refine a_take 2 rfl (by kernel_rfl) (by kernel_rfl) (by kernel_rfl) (v_assign rfl) (eX (by repeat constructor)) (dd rfl) ?_
        refine a_one 3 rfl (by kernel_rfl) (s_store_all ti78 rfl rfl (by first | exact CellsV.lit rfl | exact CellsV.one (by first | exact OneC.lit rfl | exact OneC.sl (hX (by repeat constructor)) )) (by repeat (first | exact OneAll.nil | (refine OneAll.cons ?_ ?_; · first | exact OneC.lit rfl | exact OneC.sl (hX (by repeat constructor)) ) | exact OneAll.rd (hX (by repeat constructor)))) rfl (pB (by repeat constructor)) rfl (a_on (eX (by repeat constructor)) ?_))
        refine a_take 4 rfl (by kernel_rfl) (by kernel_rfl) (by kernel_rfl) (v_assign rfl) (eX (by repeat constructor)) (dd rfl) ?_
        refine a_done (by kernel_rfl) ?_ _
        refine c_ret_tct Try.func37 rfl ⟨_, Try.underlying78⟩ ti78 rfl rfl rfl (hX (by repeat constructor)) fun w O hS => ?_
        refine ⟨(u, lv, wv, true), rfl, fun _ _ => rfl, ?_⟩
        rw [hn, hn]
        exact Ent.get (Ent.get hS (L' := [TabR N u L W, Sl eHs lv L0, Sl eHs wv W0]) (eX (by repeat constructor))) (Ent.head fun _ _ => tabR_le (by omega))
      · refine c_skip ?_
        refine c_inBlock ?_
        refine c_seq ?_
        refine c_held [BlkR b4 78 [lv, wv]] rfl ?_
        refine a_take 0 rfl (by kernel_rfl) (by kernel_rfl) (by kernel_rfl) (v_move rfl) (eX (by repeat constructor)) (dd rfl) ?_
        refine a_take 1 rfl (by kernel_rfl) (by kernel_rfl) (by kernel_rfl) (v_load_all ⟨_, Try.underlying78⟩ ti78 rfl (hX (by repeat constructor)) rfl) (eX (by repeat constructor)) (dd rfl) ?_
        refine a_take 2 rfl (by kernel_rfl) (by kernel_rfl) (by kernel_rfl) (v_assign rfl) (eX (by repeat constructor)) (dd rfl) ?_
        refine a_one 3 rfl (by kernel_rfl) (s_store_all ti78 rfl rfl (by first | exact CellsV.lit rfl | exact CellsV.one (by first | exact OneC.lit rfl | exact OneC.sl (hX (by repeat constructor)) )) (by repeat (first | exact OneAll.nil | (refine OneAll.cons ?_ ?_; · first | exact OneC.lit rfl | exact OneC.sl (hX (by repeat constructor)) ) | exact OneAll.rd (hX (by repeat constructor)))) rfl (pB (by repeat constructor)) rfl (a_on (eX (by repeat constructor)) ?_))
        refine a_take 4 rfl (by kernel_rfl) (by kernel_rfl) (by kernel_rfl) (v_assign rfl) (eX (by repeat constructor)) (dd rfl) ?_
        refine a_done (by kernel_rfl) ?_ _
        refine c_ret_tct Try.func37 rfl ⟨_, Try.underlying78⟩ ti78 rfl rfl rfl (hX (by repeat constructor)) fun w O hS => ?_
        refine ⟨(t, lv, wv, true), rfl, fun _ _ => rfl, ?_⟩
        rw [hn, hn]
        exact Ent.get (Ent.get hS (L' := [TabR N t L W, Sl eHs lv L0, Sl eHs wv W0]) (eX (by repeat constructor))) (Ent.head fun _ _ => tabR_le (by omega))
end Go.Proofs.Ytnamhhmfnokfiaa
/- Rows: what a law's arguments are, opened as the engine's assertions; the row of a law that returns true and leaves its arguments. -/
namespace Go.SL
open Go Go.RowKit

/-- All that there is may be read. -/
def readAll (w : World) : Perm := fun b => if b < w.heap.size then 1 else 0
theorem readAll_dom {w : World} : ∀ b, readAll w b ≠ 0 → b < w.heap.size := fun b h => by
  unfold readAll at h; split at h
  · assumption
  · exact absurd rfl h
theorem readAll_lt {w : World} {b : Nat} (h : b < w.heap.size) : 1 ≤ readAll w b := by unfold readAll; rw [if_pos h]; exact Nat.le_refl _
theorem readAll_one {w : World} (b : Nat) : readAll w b ≤ 1 := by unfold readAll; split <;> omega
theorem below_of_rel {w w' : World} {O' : Perm} (h : Rel w (readAll w) w' O') : Below w.heap.size w w' :=
  ⟨h.os, h.tape, h.output, h.size, fun b hb => h.old b hb (by have := readAll_one (w := w) b; omega)⟩
theorem split_dup {O : Perm} (h : ∀ b, O b ≤ 1) : Split O O O := ⟨fun _ => Nat.le_refl _, fun _ => Nat.le_refl _, fun b hb => by have := h b; omega, fun b hb => by have := h b; omega⟩
theorem stars_all {w : World} {O : Perm} (h : ∀ b, O b ≤ 1) : ∀ {L : List A}, (∀ a ∈ L, a.h w O) → Stars L w O
  | [], _ => trivial
  | a :: L, k => ⟨O, O, split_dup h, k a (by simp), stars_all h fun b hb => k b (by simp [hb])⟩
theorem calls_of_con {P : Program} {f : FuncId} {args : List Value} {L : List A} {v : Value} (h : Con P f args L (γ := Unit) (fun _ => v) (fun _ => True) (fun _ => [])) {w : World} (hL : ∀ a ∈ L, a.h w (readAll w)) :
    Calls P f args.toArray w fun e w' => e = .returned v ∧ Below w.heap.size w w' :=
  (h w (readAll w) (stars_all readAll_one hL) readAll_dom).mono fun _ _ ⟨_, _, he, _, _, hr⟩ => ⟨he, below_of_rel hr⟩

/-! ### opening -/
def Opens {α : Type} (P : Program) (t : TypeId) (e : Enc α) (good : α → Prop) : Prop :=
  ∀ (H : Type) (enc : TypeId × Value → H) (W : World) (fuel : Nat) (cs : List Value) (x : DataW H × List MemPlace), DataW.trod enc P W 0 (fun _ => true) true fuel t cs = some x → (∀ n ∈ x.1.weights P t, n ≤ reachBytes) →
    ∃ z, e.rd W (readAll W) cs z ∧ good z
theorem opens_str {P : Program} {t : TypeId} (ht : P.underlying t = some .string) : Opens P t eStr (fun s => s.size ≤ reachBytes) := by
  intro H enc W fuel cs x h hw
  obtain ⟨s, rfl, rfl, _⟩ := DataW.trod_string ht h
  refine ⟨s, rfl, ?_⟩
  have := hw s.data.toList.length (by simp [DataW.weights])
  rwa [← Lib.size_eq] at this
theorem opens_int {P : Program} {t : TypeId} {K : IntKind} (ht : P.underlying t = some (.int K)) : Opens P t (eInt K) (fun n => (Lit.int K n).wf = true) := by
  intro H enc W fuel cs x h hw
  obtain ⟨n, rfl, rfl, hn⟩ := DataW.trod_int ht h
  exact ⟨n, rfl, hn⟩
theorem opens_bool {P : Program} {t : TypeId} (ht : P.underlying t = some .bool) : Opens P t eBool (fun _ => True) := by
  intro H enc W fuel cs x h hw
  obtain ⟨n, rfl, rfl⟩ := DataW.trod_bool ht h
  exact ⟨n, rfl, trivial⟩
theorem weights_all {H : Type} {P : Program} {u : TypeId} {n : Nat} : ∀ {l : List (DataW H)} {d : DataW H}, d ∈ l → n ∈ d.weights P u → n ∈ DataW.weightsAll P u l
  | d0 :: l, d, hd, hn => by
    simp only [DataW.weightsAll, List.mem_append]
    rcases List.mem_cons.1 hd with rfl | hd
    · exact .inl hn
    · exact .inr (weights_all hd hn)
theorem weights_each {H : Type} {P : Program} {n : Nat} : ∀ {ts : List TypeId} {l : List (DataW H)} {i : Nat} {u : TypeId} {d : DataW H}, ts[i]? = some u → l[i]? = some d → n ∈ d.weights P u → n ∈ DataW.weightsEach P ts l
  | t :: ts, d0 :: l, 0, u, d, ht, hd, hn => by
    simp at ht hd; subst ht; subst hd
    simp only [DataW.weightsEach, List.mem_append]; exact .inl hn
  | t :: ts, d0 :: l, i + 1, u, d, ht, hd, hn => by
    simp at ht hd
    simp only [DataW.weightsEach, List.mem_append]; exact .inr (weights_each ht hd hn)
  | [], _, _, _, _, ht, _, _ => by simp at ht
  | _ :: _, [], _, _, _, _, hd, _ => by simp at hd

theorem opens_slice {α : Type} {P : Program} {t u : TypeId} {e : Enc α} {good : α → Prop} (ht : P.underlying t = some (.slice u)) (hc : P.cellsOf u = e.n) (hn : 0 < e.n) (h : Opens P u e good) :
    Opens P t (eSl e) (fun xs => xs.length * P.bytesOf u ≤ reachBytes ∧ ∀ x ∈ xs, good x) := by
  intro H enc W fuel cs x hx hw
  rcases DataW.trod_slice ht hx with ⟨rfl, rfl⟩ | ⟨a, len, cap, elems, rest, n, _, rfl, rfl, _, hl, hm, hlen, hel, hsp, _⟩
  · exact ⟨[], ⟨_, rfl, none, 0, rfl, Nat.le_refl _, Nat.zero_le _, .inl ⟨.inl rfl, rfl⟩⟩, by simp, fun x hx => by cases hx⟩
  obtain ⟨hrl, hr⟩ := hsp rfl
  have hwt : ∀ y ∈ elems, ∀ k ∈ y.1.weights P u, k ≤ reachBytes := fun y hy k hk => hw k (by
    simp only [DataW.weights, ht, List.mem_cons, List.mem_append]
    exact .inr (.inl (weights_all (List.mem_map_of_mem hy) hk)))
  have hbytes : len * P.bytesOf u ≤ reachBytes := by
    have := hw ((elems.length + rest.length) * P.bytesOf u) (by simp [DataW.weights, ht])
    rw [hlen] at this
    exact Nat.le_trans (Nat.mul_le_mul_right _ (Nat.le_add_right _ _)) this
  rw [hc] at hel hr
  by_cases hcap : cap = 0
  · refine ⟨[], ⟨_, rfl, some a, cap, ?_, Nat.zero_le _, hm, .inl ⟨.inr hcap, rfl⟩⟩, by simp, fun x hx => by cases hx⟩
    rw [show len = 0 by omega]; rfl
  · -- the first cell is there
    have hfirst : ∃ u0, W.cell? a = some u0 := by
      have key : ∃ c0 y0, W.cells? 0 (a.add (0 * e.n)) e.n = some c0 ∧ some y0 = (some y0 : Option (DataW H × List MemPlace)) := by
        by_cases h0 : len = 0
        · have := hr 0 (by omega)
          rw [h0, List.getElem?_eq_getElem (by omega), Option.bind_eq_some_iff] at this
          obtain ⟨c0, hc0, _⟩ := this
          exact ⟨c0, rest[0], by simpa using hc0, rfl⟩
        · have := hel 0 (by omega)
          rw [List.getElem?_eq_getElem (by omega), Option.bind_eq_some_iff] at this
          obtain ⟨c0, hc0, _⟩ := this
          exact ⟨c0, elems[0], hc0, rfl⟩
      obtain ⟨c0, _, hc0, _⟩ := key
      obtain ⟨_, hl0, hg⟩ := World.cells?_some hc0
      have := hg 0 hn
      rw [List.getElem?_eq_getElem (by omega)] at this
      exact ⟨_, by simpa [Addr.add] using this⟩
    obtain ⟨u0, hu0⟩ := hfirst
    have hspot : a.spot = none := by
      unfold World.cell? at hu0
      split at hu0
      · split at hu0
        · cases hu0
        · rename_i hs; simpa using hs
      · cases hu0
    have hblk : a.block < W.heap.size := by
      unfold World.cell? at hu0
      split at hu0
      · rename_i hh
        rcases Nat.lt_or_ge a.block W.heap.size with h | h
        · exact h
        · rw [Array.getElem?_eq_none h] at hh; cases hh
      · cases hu0
    obtain ⟨b, off, sp⟩ := a
    simp only at hspot hblk
    subst hspot
    have hadd : ∀ j : Nat, (⟨b, off, none⟩ : Addr).add j = ⟨b, off + j, none⟩ := fun j => by
      unfold Addr.add; split
      · rename_i h; rw [h, Nat.add_zero]
      · rfl
    have main : ∀ k, k ≤ len → ∃ cs xs, xs.length = k ∧ Rows e W (readAll W) cs xs ∧ (∀ j v, cs[j]? = some v → W.cell? ⟨b, off + j, none⟩ = some v) ∧ ∀ x ∈ xs, good x := by
      intro k
      induction k with
      | zero => exact fun _ => ⟨[], [], rfl, rfl, fun j v hj => by simp at hj, fun x hx => by cases hx⟩
      | succ k ih =>
        intro hk
        obtain ⟨cs, xs, h1, h2, h3, h4⟩ := ih (by omega)
        have := hel k (by omega)
        rw [List.getElem?_eq_getElem (by omega), Option.bind_eq_some_iff] at this
        obtain ⟨c0, hc0, hy0⟩ := this
        obtain ⟨z, hz, hg⟩ := h H enc W n c0 _ hy0 (hwt _ (List.getElem_mem _))
        obtain ⟨_, hl0, hcell⟩ := World.cells?_some hc0
        refine ⟨cs ++ c0, xs ++ [z], by simp [h1], h2.append ⟨c0, [], by simp, hz, rfl⟩, fun j v hj => ?_, fun x hx => ?_⟩
        · have hcl : cs.length = k * e.n := by rw [h2.length, h1]
          rcases Nat.lt_or_ge j cs.length with hj1 | hj1
          · rw [List.getElem?_append_left hj1] at hj; exact h3 j v hj
          · rw [List.getElem?_append_right hj1] at hj
            have hj2 : j - cs.length < e.n := by
              rcases Nat.lt_or_ge (j - cs.length) c0.length with h | h
              · omega
              · rw [List.getElem?_eq_none h] at hj; cases hj
            have := hcell (j - cs.length) hj2
            rw [hadd, hj] at this
            rw [← this, show (⟨b, off + k * e.n, none⟩ : Addr).add (j - cs.length) = ⟨b, off + j, none⟩ from ?_]
            unfold Addr.add
            split
            · rename_i h; congr 1; omega
            · show (⟨b, off + k * e.n + (j - cs.length), none⟩ : Addr) = _
              congr 1; omega
        · rcases List.mem_append.1 hx with hx | hx
          · exact h4 x hx
          · rw [List.mem_singleton.1 hx]; exact hg
    obtain ⟨cs, xs, h1, h2, h3, h4⟩ := main len (Nat.le_refl _)
    refine ⟨xs, ⟨_, rfl, some ⟨b, off, none⟩, cap, by rw [h1], by omega, hm, .inr ⟨b, off, cs, rfl, readAll_lt hblk, h2, h3⟩⟩, by rw [h1]; exact hbytes, h4⟩

theorem opens_good {α : Type} {P : Program} {t : TypeId} {e : Enc α} {good good' : α → Prop} (h : Opens P t e good) (hg : ∀ x, good x → good' x) : Opens P t e good' := fun H enc W fuel cs x hx hw => by
  obtain ⟨z, h1, h2⟩ := h H enc W fuel cs x hx hw
  exact ⟨z, h1, hg z h2⟩

/-- The fields of a struct from number i on, whose cells begin at off. -/
def OpensFrom {α : Type} (P : Program) (fs : Array Field) (i off : Nat) (e : Enc α) (good : α → Prop) : Prop :=
  ∀ (H : Type) (enc : TypeId × Value → H) (W : World) (n : Nat) (cs : List Value) (xs : List (DataW H × List MemPlace)), cs.length = off + e.n → xs.length = fs.size →
    (∀ (j : Nat) (f : Field), i ≤ j → fs[j]? = some f → DataW.trod enc P W 0 (fun _ => true) true n f.type ((cs.drop f.offset).take (P.cellsOf f.type)) = xs[j]?) →
    (∀ (j : Nat) (f : Field) (y : DataW H × List MemPlace), i ≤ j → fs[j]? = some f → xs[j]? = some y → ∀ k ∈ y.1.weights P f.type, k ≤ reachBytes) →
    ∃ z, e.rd W (readAll W) (cs.drop off) z ∧ good z
theorem opens_last {α : Type} {P : Program} {fs : Array Field} {i off : Nat} {f : Field} {e : Enc α} {good : α → Prop} (hf : fs[i]? = some f) (ho : f.offset = off) (hc : P.cellsOf f.type = e.n) (h : Opens P f.type e good) : OpensFrom P fs i off e good := by
  intro H enc W n cs xs hl hx hr hw
  have hi : i < fs.size := by
    rcases Nat.lt_or_ge i fs.size with h | h
    · exact h
    · rw [Array.getElem?_eq_none h] at hf; cases hf
  have h1 := hr i f (Nat.le_refl _) hf
  have hxi : xs[i]? = some (xs[i]'(by omega)) := List.getElem?_eq_getElem (by omega)
  rw [hxi, ho, hc, List.take_of_length_le (by simp; omega)] at h1
  exact h H enc W n _ _ h1 (hw i f _ (Nat.le_refl _) hf hxi)
theorem opens_cons {α β : Type} {P : Program} {fs : Array Field} {i off : Nat} {f : Field} {e : Enc α} {e' : Enc β} {good : α → Prop} {good' : β → Prop} (hf : fs[i]? = some f) (ho : f.offset = off) (hc : P.cellsOf f.type = e.n) (h : Opens P f.type e good)
    (hs : OpensFrom P fs (i + 1) (off + e.n) e' good') : OpensFrom P fs i off (ePair e e') (fun x => good x.1 ∧ good' x.2) := by
  intro H enc W n cs xs hl hx hr hw
  have hl' : cs.length = off + (e.n + e'.n) := hl
  have hi : i < fs.size := by
    rcases Nat.lt_or_ge i fs.size with h | h
    · exact h
    · rw [Array.getElem?_eq_none h] at hf; cases hf
  have h1 := hr i f (Nat.le_refl _) hf
  have hxi : xs[i]? = some (xs[i]'(by omega)) := List.getElem?_eq_getElem (by omega)
  rw [hxi, ho, hc] at h1
  obtain ⟨z1, a1, b1⟩ := h H enc W n _ _ h1 (hw i f _ (Nat.le_refl _) hf hxi)
  obtain ⟨z2, a2, b2⟩ := hs H enc W n cs xs (by omega) hx (fun j f hj => hr j f (by omega)) (fun j f y hj => hw j f y (by omega))
  refine ⟨(z1, z2), ⟨_, _, ?_, a1, a2⟩, b1, b2⟩
  rw [← List.drop_drop, List.take_append_drop]
theorem opens_struct {α : Type} {P : Program} {t : TypeId} {fs : Array Field} {e : Enc α} {good : α → Prop} (ht : P.underlying t = some (.struct fs)) (hc : P.cellsOf t = e.n) (h : OpensFrom P fs 0 0 e good) : Opens P t e good := by
  intro H enc W fuel cs x hx hw
  obtain ⟨xs, n, _, rfl, hl, hlen, hr⟩ := DataW.trod_struct ht hx
  obtain ⟨z, h1, h2⟩ := h H enc W n cs xs (by omega) hlen (fun j f _ hj => hr j f hj) fun j f y _ hj hy k hk => hw k (by
    simp only [DataW.weights, ht]
    exact weights_each (i := j) (u := f.type) (d := y.1) (by rw [List.getElem?_map, Array.getElem?_toList, hj]; rfl) (by rw [List.getElem?_map, hy]; rfl) hk)
  exact ⟨z, by simpa using h1, h2⟩

/-! ### the arguments of a call -/
theorem open_arg {α : Type} {P : Program} {t : TypeId} {e : Enc α} {good : α → Prop} {H : Type} {enc : TypeId × Value → H} {W : World} {v : Value} {d : DataW H} {ps : List MemPlace} (ho : Opens P t e good)
    (h : DataW.Trod enc P W 0 (fun _ => true) true t v d ps) (hw : ∀ n ∈ d.weights P t, n ≤ reachBytes) : ∃ z, e.rd W (readAll W) v.cells.toList z ∧ good z := by
  obtain ⟨fuel, hf⟩ := h
  exact ho H enc W fuel _ _ hf hw
theorem arg_slice {α : Type} {P : Program} {t u : TypeId} {e : Enc α} {W : World} {base : Nat} {v : Value} {xs : List α} {O : Perm} (ht : P.underlying t = some (.slice u)) (hv : Value.okWide P W .any base t v)
    (h : (eSl e).rd W O v.cells.toList xs) : (Sl e v xs).h W O := by
  obtain ⟨a, l, c, rfl⟩ := WideShapes.okWide_slice ht hv
  obtain ⟨u, h1, h2⟩ := h
  have : (#[.slice a l c] : Array Value).toList = [u] := h1
  simp at this
  subst this
  exact h2
theorem arg_string {P : Program} {t : TypeId} {W : World} {base : Nat} {v : Value} {s : ByteArray} {O : Perm} (ht : P.underlying t = some .string) (hv : Value.okWide P W .any base t v) (h : eStr.rd W O v.cells.toList s) : v = .string s := by
  obtain ⟨s', rfl⟩ := WideShapes.okWide_string ht hv
  have : (#[.string s'] : Array Value).toList = [.string s] := h
  simpa using this
theorem arg_int {P : Program} {t : TypeId} {K : IntKind} {W : World} {base : Nat} {v : Value} {n : Int} {O : Perm} (ht : P.underlying t = some (.int K)) (hv : Value.okWide P W .any base t v) (h : (eInt K).rd W O v.cells.toList n) : v = .int K n := by
  have hv' := hv
  unfold Value.okWide at hv'
  rw [ht] at hv'
  simp only at hv'
  unfold Cell.okWide Cell.ok at hv'
  rw [ht] at hv'
  cases v <;> simp at hv'
  case int K' n' =>
    have : (#[.int K' n'] : Array Value).toList = [.int K n] := h
    simpa using this
theorem arg_bool {P : Program} {t : TypeId} {W : World} {base : Nat} {v : Value} {n : Bool} {O : Perm} (ht : P.underlying t = some .bool) (hv : Value.okWide P W .any base t v) (h : eBool.rd W O v.cells.toList n) : v = .bool n := by
  have hv' := hv
  unfold Value.okWide at hv'
  rw [ht] at hv'
  simp only at hv'
  unfold Cell.okWide Cell.ok at hv'
  rw [ht] at hv'
  cases v <;> simp at hv'
  case bool n' =>
    have : (#[.bool n'] : Array Value).toList = [.bool n] := h
    simpa using this
theorem arg_struct {α : Type} {P : Program} {t : TypeId} {fs : Array Field} {e : Enc α} {W : World} {base : Nat} {v : Value} {x : α} {O : Perm} (ht : P.underlying t = some (.struct fs)) (hv : Value.okWide P W .any base t v) (h : e.rd W O v.cells.toList x) :
    ∃ cs : List Value, v = .agg cs.toArray ∧ (Rd e cs x).h W O := by
  obtain ⟨cs, rfl, _⟩ := WideShapes.okWide_struct ht hv
  exact ⟨cs.toList, by simp, h⟩

theorem trodAll_below {H : Type} {enc : TypeId × Value → H} {P : Program} (hl : laidOutB P = true) {W W' : World} (hb : Below W.heap.size W W') : ∀ {ts : List TypeId} {vs : List Value} {ds : List (DataW H)} {ps : List MemPlace},
    (ts.all fun t => P.readableRec t && decide (t < P.types.size)) = true → DataW.TrodAll enc P W 0 (fun _ => true) true ts vs ds ps → DataW.TrodAll enc P W' 0 (fun b => decide (b < W.heap.size)) true ts vs ds ps
  | [], [], [], _, _, h => h
  | t :: ts, v :: vs, d :: ds, ps, ha, h => by
    obtain ⟨p, q, h1, h2, rfl⟩ := h
    simp only [List.all_cons, Bool.and_eq_true, decide_eq_true_iff] at ha
    refine ⟨p, q, Below.trod hl ha.1.1 ha.1.2 h1 hb ?_, trodAll_below hl hb (by simpa using ha.2) h2, rfl⟩
    obtain ⟨m, hm⟩ := h1
    exact DataW.trod_lt m _ _ _ hm

/-- THE ROW of a law that returns true and leaves its arguments as they are. -/
theorem lift_true {H : Type} {enc : TypeId × Value → H} {C : Checked} {os : Os} {f : FuncId} {fn : Func} {s : ChangeSpec} {X : World → Array Value → Prop} {t : TypeId}
    (hX : ∀ (w w' : World) (args : Array Value), w.heap = w'.heap → X w args → X w' args)
    (own : ownKnob C.prog.godebug = none) (started : os.Started) (noInit : C.prog.inits.idxOf? f = none) (hfn : C.prog.funcs[f]? = some fn)
    (hvars : s.vars = []) (hs : ∀ ds : List (DataW H), ds.length = fn.params.size → s.fn H ds = { results := [.lit (.bool true)], args := ds })
    (hres : fn.resultTypes = #[t]) (ht : C.prog.underlying t = some .bool) (hl : laidOutB C.prog = true) (hpar : (fn.params.toList.all fun t => C.prog.readableRec t && decide (t < C.prog.types.size)) = true)
    (witness : ∃ (w : World) (tape : Tape) (i : Input), w.os = os ∧ (w.forCall tape i).Shaped C.prog ∧ i.vars = [] ∧ Input.okWide C.prog (w.forCall tape i) .any w.heap.size f i ∧
      ((s.pre enc C.prog fn [] false (w.forCall tape i).memory i.args ∧ X (w.forCall tape i).memory i.args) ∧ sizedMet enc C.prog fn (OpenSpec.ofChange s) false (w.forCall tape i).memory i.args) ∧ ({} : Assume).holds C.prog (lone (Frame.enter C.prog f i.args .normal) [] (w.forCall tape i)))
    (walk : ∀ (W : World) (base : Nat) (args : Array Value) (ds : List (DataW H)) (ps : List MemPlace), W.ShapedOpen C.prog → X W args → (∀ (j : Nat) t v, fn.params[j]? = some t → args[j]? = some v → Value.okWide C.prog W .any base t v) →
      DataW.TrodAll enc C.prog W 0 (fun _ => true) true fn.params.toList args.toList ds ps → (∀ (j : Nat) t d, fn.params.toList[j]? = some t → ds[j]? = some d → ∀ n ∈ d.weights C.prog t, n ≤ reachBytes) →
      Calls C.prog f args W fun e W' => e = .returned (.bool true) ∧ Below W.heap.size W W') :
    ReturnsInHanded {} C os f .any (fun w args => (s.pre enc C.prog fn [] false w args ∧ X w args) ∧ sizedMet enc C.prog fn (OpenSpec.ofChange s) false w args) (s.post enc C.prog fn false true false false) := by
  refine returnsInHanded_of_calls own started noInit witness ?_
  intro w tape i _ hsh _ hok hpre hholds
  obtain ⟨_, _, _, fn', hfn', _, _, _, _, hval⟩ := hok
  have e : fn' = fn := Option.some.inj (hfn'.symm.trans hfn)
  subst e
  obtain ⟨⟨⟨ds, gs, before, hw, hc⟩, hx⟩, hz⟩ := hpre
  have hwt := hz.weights hw
  have hw' := DataW.Whole.of_heap (w' := w.forCall tape i) (by rfl) hw
  have hw2 := hw'
  obtain ⟨p, q, hA, hV, rfl, hfz, hnd⟩ := hw2
  rw [hvars] at hV
  obtain ⟨rfl, rfl⟩ := ChangeShapes.trodVars_none hV
  have hlen : ∀ {ts : List TypeId} {vs : List Value} {ds : List (DataW H)} {ps : List MemPlace}, DataW.TrodAll enc C.prog (w.forCall tape i) 0 (fun _ => true) true ts vs ds ps → ds.length = ts.length := by
    intro ts
    induction ts with
    | nil => intro vs ds ps h; cases vs <;> cases ds <;> simp_all [DataW.TrodAll]
    | cons t ts ih =>
      intro vs ds ps h
      cases vs with
      | nil => cases ds <;> simp_all [DataW.TrodAll]
      | cons v vs => cases ds with
        | nil => simp_all [DataW.TrodAll]
        | cons d ds =>
          obtain ⟨_, _, _, h, _⟩ := h
          simp [ih h]
  have hdl : ds.length = fn'.params.size := by rw [hlen hA]; simp
  have hsd := hs ds hdl
  refine (walk (w.forCall tape i) w.heap.size i.args ds p hsh (hX _ _ _ (by rfl) hx) hval hA fun j t d hj hd n hn => ?_).mono fun e W' ⟨he, bel⟩ => ?_
  · have := List.all_eq_true.1 hwt n (weights_each (i := j) (u := t) (d := d) (by rw [List.getElem?_append_left (List.getElem?_eq_some_iff.1 hj).1]; exact hj) (by rw [List.getElem?_append_left (List.getElem?_eq_some_iff.1 hd).1]; exact hd) hn)
    simpa using this
  · subst he
    refine ChangeSpec.post_blind ?_
    refine ⟨ds, [], p ++ [], [], p, [], hw', ?_, ?_, ?_, bel.frame _, fun h => by cases h⟩
    · rw [List.append_nil, hsd, hres]
      exact ChangeShapes.trodAll_mk1 (shut_bool ht _)
    · rw [List.append_nil, hsd]
      exact trodAll_below hl bel hpar hA
    · rw [List.append_nil, hsd, hvars]
      rfl
/-- A package-level variable of an integer kind holds some number of it. -/
theorem var_int {P : Program} {w : World} {g : Nat} {t : TypeId} {zero : Array Value} {k : IntKind} (h : w.ShapedOpen P) (hg : g < P.globals.size)
    (h0 : ((begin P (fun _ _ => 0) default).world.heap[g]?).bind Obj.row? = some (zero, t)) (hz : zero.size = 1)
    (hb : P.buildable t = true) (hc : P.cellTypes P.depth t = some [t]) (hu : P.underlying t = some (.int k)) : ∃ m, (BlkR g t [.int k m]).h w (readAll w) := by
  obtain ⟨m, hm⟩ := Go.Proofs.cell_of_shapedOpen_int h hg h0 hz hb hc hu
  obtain ⟨cs, hh, hs, _⟩ := h.1 g zero t hg h0
  have h1 : g < w.heap.size := by
    rcases Nat.lt_or_ge g w.heap.size with h | h
    · exact h
    · rw [Array.getElem?_eq_none h] at hh; cases hh
  have h2 : cs = #[.int k m] := by
    have e1 : cs[0]? = some (.int k m) := by simpa [World.cell?, hh] using hm
    apply Array.ext
    · rw [hs, hz]; rfl
    · intro i hi _
      have : i = 0 := by omega
      subst this
      rw [Array.getElem?_eq_getElem hi] at e1
      simpa using Option.some.inj e1
  exact ⟨m, readAll_lt h1, (0, 0), by rw [hh, h2]⟩
end Go.SL
/- What all rows of chapter 12 want: the start, the openers of the arguments' types. -/
namespace Go.Proofs.Ytnamhhmfnokfiaa
open Go Go.SL Go.RowKit Go.ChangeShapes Go.WideShapes Go.ChangeAt

abbrev laidL : List (String × DataW Unit) := []
theorem own : ownKnob Try.prog.godebug = none := by kernel_rfl
theorem laidOut : laidOutB Try.prog = true := by kernel_rfl
theorem start_shaped (os : Os) (args : Array Value) : ((World.laidAll Try.prog os laidL).forCall (fun _ _ => 0) ⟨#[], args, []⟩).Shaped Try.checked.prog := World.shaped_of_RefB (by kernel_rfl) (by kernel_rfl)
theorem reach : reachBytes = 140737488351232 := by decide
theorem opS : Opens Try.prog 9 eStr (fun s => s.size ≤ 140737488351232) := opens_good (opens_str Try.underlying9) fun x h => by rw [← reach]; exact h
theorem opI : Opens Try.prog 3 (eInt .i64) (fun n => -9223372036854775808 ≤ n ∧ n ≤ 9223372036854775807) := opens_good (opens_int Try.underlying3) fun n h => by
  have := h
  simp [Lit.wf, IntKind.has, IntKind.min, IntKind.max, IntKind.signed, IntKind.bits] at this
  omega
theorem opOp12 : Opens Try.prog 80 eOp12 (fun _ => True) := opens_good
  (opens_struct Try.underlying80 (by kernel_rfl) (opens_cons rfl rfl (by kernel_rfl) opI (opens_cons rfl rfl (by kernel_rfl) opI (opens_cons rfl rfl (by kernel_rfl) opS (opens_last rfl rfl (by kernel_rfl) opI))))) fun _ _ => trivial
theorem opOps12 : Opens Try.prog 69 (eSl eOp12) (fun xs => xs.length ≤ 8796093022207 ∧ ∀ o ∈ xs, True) := opens_good (opens_slice Try.underlying69 (by kernel_rfl) (by decide) opOp12) fun xs h => by
  have h1 : Try.prog.bytesOf 80 = 40 := by kernel_rfl
  have h2 := h.1
  rw [h1, reach] at h2
  exact ⟨by omega, fun _ _ => trivial⟩
end Go.Proofs.Ytnamhhmfnokfiaa

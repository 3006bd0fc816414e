/- ReqAlike: where what its arguments hold is no more than the card's bound, it returns true, and its arguments read behind the call as before. Conditions: the listed variables are laid as the card ties them. -/
import Derived.Test.YtlfehnnmpkohkaaGreatDoorYC6
import Derived.Test.YtlfehnnmpkohkaaGreatDoorRows
import Derived.Test.YtlfehnnmpkohkaaGreatDoorCards
import Derived.Test.YtlfehnnmpkohkaaGreatDoorTie
set_option linter.unusedVariables false
set_option linter.unusedSimpArgs false
namespace Go.Proofs.YtlfehnnmpkohkaaGreatDoor
open Go Go.SL Go.RowKit Go.ChangeShapes Go.WideShapes Go.ChangeAt Go.Lib
set_option linter.unusedVariables false
set_option maxRecDepth 100000 in
theorem reqAlike_lifted (os : Os) (started : os.Started) (H : Type) (enc : TypeId × Value → H) (F : Stop.Interp) :
    ReturnsInHanded {} Tryz.checked os 8 .any ((Rows.OpenSpec.upto Rows.reqAlikeSpec).preRow enc Tryz.prog Tryz.f8 Rows.reqAlikeUptoRow.domain false laidL) (((Rows.OpenSpec.upto Rows.reqAlikeSpec).at F).post enc Tryz.prog Tryz.f8 false true false false) := by
  obtain ⟨places, hx⟩ : ∃ places, DataW.whole enc Tryz.prog ((World.laidAll Tryz.prog os laidL).forCall (fun _ _ => 0) ⟨#[], #[.agg #[.int .i64 0, .int .i64 0, .slice none 0 0, .slice none 0 0, .slice none 0 0, .slice none 0 0], .agg #[.int .i64 0, .int .i64 0, .slice none 0 0, .slice none 0 0, .slice none 0 0, .slice none 0 0]], []⟩).memory Tryz.f8.params.toList Rows.reqAlikeSpec.vars false (#[.agg #[.int .i64 0, .int .i64 0, .slice none 0 0, .slice none 0 0, .slice none 0 0, .slice none 0 0], .agg #[.int .i64 0, .int .i64 0, .slice none 0 0, .slice none 0 0, .slice none 0 0, .slice none 0 0]] : Array Value).toList 12 = some ([.agg [.lit (.int .i64 0), .lit (.int .i64 0), .nil, .nil, .nil, .nil], .agg [.lit (.int .i64 0), .lit (.int .i64 0), .nil, .nil, .nil, .nil]], [], places) := ⟨[], by kernel_rfl⟩
  refine lift_upto (C := Tryz.checked) (t := 4) own started (by kernel_rfl) Tryz.func8 rfl (fun ds h => ?_) rfl Tryz.underlying4 laidOut (by kernel_rfl)
    (witness_row_atRef (enc := enc) (C := Tryz.checked) false (World.laidAll Tryz.prog os laidL) #[.agg #[.int .i64 0, .int .i64 0, .slice none 0 0, .slice none 0 0, .slice none 0 0, .slice none 0 0], .agg #[.int .i64 0, .int .i64 0, .slice none 0 0, .slice none 0 0, .slice none 0 0, .slice none 0 0]] (World.laidAll_os _ _ _) (by kernel_rfl) (by kernel_rfl) (by kernel_rfl)
      (OpenSpec.preRow_of_cond 12 hx (by kernel_rfl) (fun k hk => by cases hk; kernel_rfl) (by kernel_rfl) (start_met os _))) ?_
  · match ds, h with
    | [d0, d1], _ => rfl
  · intro W base args ds ps hsh hlaid hval0 hA0 hwt0 hbulk
    have hval : ∀ (j : Nat) t v, Tryz.f8.params[j]? = some t → args[j]? = some v → Value.okWide Tryz.prog W .any base t v := hval0
    have hA : DataW.TrodAll enc Tryz.prog W 0 (fun _ => true) true Tryz.f8.params.toList args.toList ds ps := hA0
    have hwt : ∀ (j : Nat) t d, Tryz.f8.params.toList[j]? = some t → ds[j]? = some d → ∀ n ∈ d.weights Tryz.prog t, n ≤ reachBytes := hwt0
    clear hval0 hA0 hwt0
    rw [Tryz.params8] at hA hval hwt
    obtain ⟨v0, vs0, d0, ds0, p0, q0, hargs, rfl, rfl, h0, r0⟩ := trodAll_cons hA
    obtain ⟨v1, vs1, d1, ds1, p1, q1, rfl, rfl, rfl, h1, r1⟩ := trodAll_cons r0
    obtain ⟨rfl, rfl, rfl⟩ := trodAll_nil r1
    obtain rfl : args = #[v0, v1] := by cases args; simp_all
    obtain ⟨x0, e0, g0⟩ := open_arg opRs h0 (hwt 0 50 d0 rfl rfl)
    obtain ⟨c0, rfl, a0⟩ := arg_struct Tryz.underlying50 (hval 0 50 v0 rfl rfl) e0
    obtain ⟨x1, e1, g1⟩ := open_arg opRs h1 (hwt 1 50 d1 rfl rfl)
    obtain ⟨c1, rfl, a1⟩ := arg_struct Tryz.underlying50 (hval 1 50 v1 rfl rfl) e1
    obtain ⟨te, pe, hg1, hg3⟩ := g13 hsh hlaid
    have hb0 := bulk_arg kRs h0 e0
    have hb1 := bulk_arg kRs h1 e1
    have hf0 := mRs_size x0
    have hf1 := mRs_size x1
    have hbd : Rows.uptoBulk d0 + Rows.uptoBulk d1 ≤ 1048576 := by simp only [Rows.uptoBulkAll] at hbulk; omega
    obtain ⟨m0, rfl, l0⟩ := rs_open W (readAll W) c0 a0
    obtain ⟨m1, rfl, l1⟩ := rs_open W (readAll W) c1 a1
    have hmem : ∀ a ∈ rsL x0 m0.1 m0.2.1 m0.2.2.1 m0.2.2.2 ++ rsL x1 m1.1 m1.2.1 m1.2.2.1 m1.2.2.2 ++ [G1 te pe, G3], a.h W (readAll W) := by
      intro a ha
      rcases List.mem_append.1 ha with ha | ha
      · rcases List.mem_append.1 ha with ha | ha
        · exact stars_mem l0 ha
        · exact stars_mem l1 ha
      · rcases List.mem_cons.1 ha with rfl | ha
        · exact hg1
        · rw [List.mem_singleton.1 ha]; exact hg3
    exact calls_of_con (lawAlike_con x0 x1 m0.1 m0.2.1 m0.2.2.1 m0.2.2.2 m1.1 m1.2.1 m1.2.2.1 m1.2.2.2 (by omega) te pe) (hmem)
theorem reqAlike_row : Rows.ReqAlikeUptoSaid :=
  OpenClaim.holds_of_cond 8 Tryz.f8 rfl rfl rfl rfl rfl rfl rfl ⟨rfl, rfl, rfl, rfl, rfl⟩ rfl rfl rfl rfl rfl (by kernel_rfl) Tryz.func8 (by kernel_rfl)
    (of_decide_eq_true (by kernel_rfl)) (by unfold Func.isWrapper; first | (rw [if_pos (by decide +kernel)]; kernel_rfl) | (rw [if_neg (by decide +kernel)]; exact ⟨rfl, rfl⟩))
    (fun os started H enc _ F => by rw [OpenClaim.pre_eq_preRow]; exact reqAlike_lifted os started H enc F)
/-- ReqAlike: where its arguments hold no more than the bound, it returns true, and they read behind the call as before; the listed variables tied to the program's text. -/
theorem reqAlikeUpto_card : Rows.ReqAlikeUptoCardSaid :=
  Claim7.holds_tied_plain_at .later [] [.data, .data, .data, .data, .sentinel, .sentinel, .pinned] true (true, "894549b700650531200670345886dce63747e5cb365f9b82109e9dd3db5aad89") true
    reqAlike_row (fun _ h => by cases h) (by kernel_rfl) (fun _ h => by cases h) reqAlikeUpto_row_tie rfl ⟨rfl, rfl⟩ (by kernel_rfl) rfl
    (fun f fn hf hfn => by
      obtain rfl : f = 8 := Option.some.inj ((show Tryz.prog.funcNamed Tryz.f8.name = some 8 by kernel_rfl).symm.trans hf) |>.symm
      obtain rfl : fn = Tryz.f8 := (Option.some.inj (Tryz.func8.symm.trans hfn)).symm
      exact ⟨by kernel_rfl, fun j t ht => by
        rw [Tryz.params8] at ht
        have hm : t ∈ [50, 50] := by simpa using Array.mem_of_getElem? ht
        have hall : ([50, 50].all fun u => !Tryz.prog.wantsStandIn u) = true := by kernel_rfl
        exact (show Tryz.prog.wantsStandIn t = false by simpa using List.all_eq_true.1 hall t hm)⟩)
    (by kernel_rfl)
#print axioms reqAlikeUpto_card
end Go.Proofs.YtlfehnnmpkohkaaGreatDoor

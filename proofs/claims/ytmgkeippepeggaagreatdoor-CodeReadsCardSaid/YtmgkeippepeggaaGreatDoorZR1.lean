/- CodeReads: for every input it returns true, and its arguments read behind the call as before. Conditions: the listed variables are laid as the card ties them. -/
import Derived.Test.YtmgkeippepeggaaGreatDoorZZ8
import Derived.Test.YtmgkeippepeggaaGreatDoorRows
import Derived.Test.YtmgkeippepeggaaGreatDoorCards
import Derived.Test.YtmgkeippepeggaaGreatDoorTie
set_option linter.unusedVariables false
set_option linter.unusedSimpArgs false
namespace Go.Proofs.YtmgkeippepeggaaGreatDoor
open Go Go.SL Go.RowKit Go.ChangeShapes Go.WideShapes Go.ChangeAt Go.Lib
set_option linter.unusedVariables false
set_option maxRecDepth 100000 in
theorem codeReads_lifted (os : Os) (started : os.Started) (H : Type) (enc : TypeId × Value → H) :
    ReturnsInHanded {} Tryz.checked os 5 .any (fun w args => (Rows.codeReadsSpec.pre enc Tryz.prog Tryz.f5 [] false w args ∧ laidMetH Tryz.prog laidL w) ∧ sizedMet enc Tryz.prog Tryz.f5 (OpenSpec.ofChange Rows.codeReadsSpec) false w args)
      (Rows.codeReadsSpec.post enc Tryz.prog Tryz.f5 false true false false) := by
  refine lift_true (C := Tryz.checked) (X := fun w _ => laidMetH Tryz.prog laidL w) (t := 4) (fun _ _ _ hh h => h.of_heap hh) own started (by kernel_rfl) Tryz.func5 rfl (fun ds h => ?_) rfl Tryz.underlying4 laidOut (by kernel_rfl)
    (ChangeSpec.witness_shaped (enc := enc) (C := Tryz.checked) (os := os) (X := fun w _ => laidMetH Tryz.prog laidL w) false (World.laidAll Tryz.prog os laidL) #[.slice none 0 0, .slice none 0 0] 8 (World.laidAll_os _ _ _) (start_shaped os _) (by kernel_rfl) (by kernel_rfl) (by kernel_rfl) (start_met os _)) ?_
  · match ds, h with
    | [d0, d1], _ => rfl
  · intro W base args ds ps hsh hlaid hval0 hA0 hwt0
    have hval : ∀ (j : Nat) t v, Tryz.f5.params[j]? = some t → args[j]? = some v → Value.okWide Tryz.prog W .any base t v := hval0
    have hA : DataW.TrodAll enc Tryz.prog W 0 (fun _ => true) true Tryz.f5.params.toList args.toList ds ps := hA0
    have hwt : ∀ (j : Nat) t d, Tryz.f5.params.toList[j]? = some t → ds[j]? = some d → ∀ n ∈ d.weights Tryz.prog t, n ≤ reachBytes := hwt0
    clear hval0 hA0 hwt0
    rw [Tryz.params5] at hA hval hwt
    obtain ⟨v0, vs0, d0, ds0, p0, q0, hargs, rfl, rfl, h0, r0⟩ := trodAll_cons hA
    obtain ⟨v1, vs1, d1, ds1, p1, q1, rfl, rfl, rfl, h1, r1⟩ := trodAll_cons r0
    obtain ⟨rfl, rfl, rfl⟩ := trodAll_nil r1
    obtain rfl : args = #[v0, v1] := by cases args; simp_all
    obtain ⟨x0, e0, g0⟩ := open_arg op25 h0 (hwt 0 25 d0 rfl rfl)
    have a0 := arg_slice Tryz.underlying25 (hval 0 25 v0 rfl rfl) e0
    obtain ⟨x1, e1, g1⟩ := open_arg op46 h1 (hwt 1 46 d1 rfl rfl)
    have a1 := arg_slice Tryz.underlying46 (hval 1 46 v1 rfl rfl) e1
    obtain ⟨te, pe, hg1, hg3⟩ := g13 hsh hlaid
    exact calls_of_con (reads_con v0 v1 x0 x1 te pe (by omega) (by omega)) (List.forall_mem_cons.2 ⟨a0, List.forall_mem_cons.2 ⟨a1, List.forall_mem_cons.2 ⟨hg1, List.forall_mem_cons.2 ⟨hg3, fun _ h => by cases h⟩⟩⟩⟩)
theorem codeReads_row : Rows.CodeReadsSaid :=
  OpenClaim.holds_of_wide 5 Tryz.f5 rfl rfl rfl rfl rfl rfl rfl ⟨rfl, rfl, rfl, rfl, rfl⟩ rfl rfl rfl rfl rfl (by kernel_rfl) Tryz.func5 (by kernel_rfl)
    (of_decide_eq_true (by kernel_rfl)) (by unfold Func.isWrapper; first | (rw [if_pos (by decide +kernel)]; kernel_rfl) | (rw [if_neg (by decide +kernel)]; exact ⟨rfl, rfl⟩))
    (fun os started H enc _ => codeReads_lifted os started H enc)
/-- CodeReads: for every input it returns true, and its arguments read behind the call as before; the listed variables tied to the program's text. -/
theorem codeReads_card : Rows.CodeReadsCardSaid :=
  Claim7.holds_tied_plain_at .later [] [.data, .data, .data, .data, .sentinel, .sentinel, .pinned] true (true, "6d03a9e2d4cfed1b2d9285196519f58a923d9b52a2270e802c816d31694e04cb") true
    codeReads_row (fun _ h => by cases h) (by kernel_rfl) (fun _ h => by cases h) codeReads_row_tie rfl ⟨rfl, rfl⟩ (by kernel_rfl) rfl
    (fun f fn hf hfn => by
      obtain rfl : f = 5 := Option.some.inj ((show Tryz.prog.funcNamed Tryz.f5.name = some 5 by kernel_rfl).symm.trans hf) |>.symm
      obtain rfl : fn = Tryz.f5 := (Option.some.inj (Tryz.func5.symm.trans hfn)).symm
      exact ⟨by kernel_rfl, fun j t ht => by
        rw [Tryz.params5] at ht
        have hm : t ∈ [25, 46] := by simpa using Array.mem_of_getElem? ht
        have hall : ([25, 46].all fun u => !Tryz.prog.wantsStandIn u) = true := by kernel_rfl
        exact (show Tryz.prog.wantsStandIn t = false by simpa using List.all_eq_true.1 hall t hm)⟩)
    (by kernel_rfl)
#print axioms codeReads_card
end Go.Proofs.YtmgkeippepeggaaGreatDoor

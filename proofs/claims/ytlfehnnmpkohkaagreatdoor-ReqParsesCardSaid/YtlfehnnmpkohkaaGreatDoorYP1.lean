/- ReqParses: for every input it returns true, and its arguments read behind the call as before. Conditions: the listed variables are laid as the card ties them. -/
import Derived.Test.YtlfehnnmpkohkaaGreatDoorYA6
import Derived.Test.YtlfehnnmpkohkaaGreatDoorRows
import Derived.Test.YtlfehnnmpkohkaaGreatDoorCards
import Derived.Test.YtlfehnnmpkohkaaGreatDoorTie
set_option linter.unusedVariables false
set_option linter.unusedSimpArgs false
namespace Go.Proofs.YtlfehnnmpkohkaaGreatDoor
open Go Go.SL Go.RowKit Go.ChangeShapes Go.WideShapes Go.ChangeAt Go.Lib
set_option linter.unusedVariables false
set_option maxRecDepth 100000 in
theorem reqParses_lifted (os : Os) (started : os.Started) (H : Type) (enc : TypeId × Value → H) :
    ReturnsInHanded {} Tryz.checked os 7 .any (fun w args => (Rows.reqParsesSpec.pre enc Tryz.prog Tryz.f7 [] false w args ∧ laidMetH Tryz.prog laidL w) ∧ sizedMet enc Tryz.prog Tryz.f7 (OpenSpec.ofChange Rows.reqParsesSpec) false w args)
      (Rows.reqParsesSpec.post enc Tryz.prog Tryz.f7 false true false false) := by
  refine lift_true (C := Tryz.checked) (X := fun w _ => laidMetH Tryz.prog laidL w) (t := 4) (fun _ _ _ hh h => h.of_heap hh) own started (by kernel_rfl) Tryz.func7 rfl (fun ds h => ?_) rfl Tryz.underlying4 laidOut (by kernel_rfl)
    (ChangeSpec.witness_shaped (enc := enc) (C := Tryz.checked) (os := os) (X := fun w _ => laidMetH Tryz.prog laidL w) false (World.laidAll Tryz.prog os laidL) #[.slice none 0 0] 8 (World.laidAll_os _ _ _) (start_shaped os _) (by kernel_rfl) (by kernel_rfl) (by kernel_rfl) (start_met os _)) ?_
  · match ds, h with
    | [d0], _ => rfl
  · intro W base args ds ps hsh hlaid hval0 hA0 hwt0
    have hval : ∀ (j : Nat) t v, Tryz.f7.params[j]? = some t → args[j]? = some v → Value.okWide Tryz.prog W .any base t v := hval0
    have hA : DataW.TrodAll enc Tryz.prog W 0 (fun _ => true) true Tryz.f7.params.toList args.toList ds ps := hA0
    have hwt : ∀ (j : Nat) t d, Tryz.f7.params.toList[j]? = some t → ds[j]? = some d → ∀ n ∈ d.weights Tryz.prog t, n ≤ reachBytes := hwt0
    clear hval0 hA0 hwt0
    rw [Tryz.params7] at hA hval hwt
    obtain ⟨v0, vs0, d0, ds0, p0, q0, hargs, rfl, rfl, h0, r0⟩ := trodAll_cons hA
    obtain ⟨rfl, rfl, rfl⟩ := trodAll_nil r0
    obtain rfl : args = #[v0] := by cases args; simp_all
    obtain ⟨x0, e0, g0⟩ := open_arg opB h0 (hwt 0 38 d0 rfl rfl)
    have a0 := arg_slice Tryz.underlying38 (hval 0 38 v0 rfl rfl) e0
    obtain ⟨te, pe, hg1, hg3⟩ := g13 hsh hlaid
    exact calls_of_con (parses_con v0 x0 te pe (by omega)) (List.forall_mem_cons.2 ⟨a0, List.forall_mem_cons.2 ⟨hg1, List.forall_mem_cons.2 ⟨hg3, fun _ h => by cases h⟩⟩⟩)
theorem reqParses_row : Rows.ReqParsesSaid :=
  OpenClaim.holds_of_wide 7 Tryz.f7 rfl rfl rfl rfl rfl rfl rfl ⟨rfl, rfl, rfl, rfl, rfl⟩ rfl rfl rfl rfl rfl (by kernel_rfl) Tryz.func7 (by kernel_rfl)
    (of_decide_eq_true (by kernel_rfl)) (by unfold Func.isWrapper; first | (rw [if_pos (by decide +kernel)]; kernel_rfl) | (rw [if_neg (by decide +kernel)]; exact ⟨rfl, rfl⟩))
    (fun os started H enc _ => reqParses_lifted os started H enc)
/-- ReqParses: for every input it returns true, and its arguments read behind the call as before; the listed variables tied to the program's text. -/
theorem reqParses_card : Rows.ReqParsesCardSaid :=
  Claim7.holds_tied_plain_at .later [] [.data, .data, .data, .data, .sentinel, .sentinel, .pinned] true (true, "894549b700650531200670345886dce63747e5cb365f9b82109e9dd3db5aad89") true
    reqParses_row (fun _ h => by cases h) (by kernel_rfl) (fun _ h => by cases h) reqParses_row_tie rfl ⟨rfl, rfl⟩ (by kernel_rfl) rfl
    (fun f fn hf hfn => by
      obtain rfl : f = 7 := Option.some.inj ((show Tryz.prog.funcNamed Tryz.f7.name = some 7 by kernel_rfl).symm.trans hf) |>.symm
      obtain rfl : fn = Tryz.f7 := (Option.some.inj (Tryz.func7.symm.trans hfn)).symm
      exact ⟨by kernel_rfl, fun j t ht => by
        rw [Tryz.params7] at ht
        have hm : t ∈ [38] := by simpa using Array.mem_of_getElem? ht
        have hall : ([38].all fun u => !Tryz.prog.wantsStandIn u) = true := by kernel_rfl
        exact (show Tryz.prog.wantsStandIn t = false by simpa using List.all_eq_true.1 hall t hm)⟩)
    (by kernel_rfl)
#print axioms reqParses_card
end Go.Proofs.YtlfehnnmpkohkaaGreatDoor

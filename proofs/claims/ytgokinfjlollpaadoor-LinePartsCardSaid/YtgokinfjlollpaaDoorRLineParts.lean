/- LineParts: for every input it returns true, and its arguments read behind the call as before. Conditions: the listed variables are laid as the card ties them. -/
import Derived.Test.YtgokinfjlollpaaDoorB9
import Derived.Test.YtgokinfjlollpaaDoorR1
import Derived.Test.YtgokinfjlollpaaDoorRows
import Derived.Test.YtgokinfjlollpaaDoorCards
import Derived.Test.YtgokinfjlollpaaDoorTie
namespace Go.Proofs.YtgokinfjlollpaaDoor
open Go Go.SL Go.RowKit Go.ChangeShapes Go.WideShapes Go.ChangeAt L01
set_option linter.unusedVariables false
set_option maxRecDepth 100000 in
theorem lineParts_lifted (os : Os) (started : os.Started) (H : Type) (enc : TypeId × Value → H) :
    ReturnsInHanded {} Tryd.checked os 10 .any (fun w args => (Rows.linePartsSpec.pre enc Tryd.prog Tryd.f10 [] false w args ∧ laidMetH Tryd.prog laidL w) ∧ sizedMet enc Tryd.prog Tryd.f10 (OpenSpec.ofChange Rows.linePartsSpec) false w args)
      (Rows.linePartsSpec.post enc Tryd.prog Tryd.f10 false true false false) := by
  refine lift_true (C := Tryd.checked) (X := fun w _ => laidMetH Tryd.prog laidL w) (t := 4) (fun _ _ _ hh h => h.of_heap hh) own started (by kernel_rfl) Tryd.func10 rfl (fun ds h => ?_) rfl Tryd.underlying4 laidOut (by kernel_rfl)
    (ChangeSpec.witness_shaped (enc := enc) (C := Tryd.checked) (os := os) (X := fun w _ => laidMetH Tryd.prog laidL w) false (World.laidAll Tryd.prog os laidL) #[.slice none 0 0, .slice none 0 0, .string ByteArray.empty] 8 (World.laidAll_os _ _ _) (start_shaped os _) (by kernel_rfl) (by kernel_rfl) (by kernel_rfl) (start_met os _)) ?_
  · match ds, h with
    | [d0, d1, d2], _ => rfl
  · intro W base args ds ps hsh _ hval0 hA0 hwt0
    have hval : ∀ (j : Nat) t v, Tryd.f10.params[j]? = some t → args[j]? = some v → Value.okWide Tryd.prog W .any base t v := hval0
    have hA : DataW.TrodAll enc Tryd.prog W 0 (fun _ => true) true Tryd.f10.params.toList args.toList ds ps := hA0
    have hwt : ∀ (j : Nat) t d, Tryd.f10.params.toList[j]? = some t → ds[j]? = some d → ∀ n ∈ d.weights Tryd.prog t, n ≤ reachBytes := hwt0
    clear hval0 hA0 hwt0
    rw [Tryd.params10] at hA hval hwt
    obtain ⟨v0, vs0, d0, ds0, p0, q0, hargs, rfl, rfl, h0, r0⟩ := trodAll_cons hA
    obtain ⟨v1, vs1, d1, ds1, p1, q1, rfl, rfl, rfl, h1, r1⟩ := trodAll_cons r0
    obtain ⟨v2, vs2, d2, ds2, p2, q2, rfl, rfl, rfl, h2, r2⟩ := trodAll_cons r1
    obtain ⟨rfl, rfl, rfl⟩ := trodAll_nil r2
    obtain rfl : args = #[v0, v1, v2] := by cases args; simp_all
    obtain ⟨x0, e0, g0⟩ := open_arg op22 h0 (hwt 0 22 d0 rfl rfl)
    have a0 := arg_slice Tryd.underlying22 (hval 0 22 v0 rfl rfl) e0
    obtain ⟨x1, e1, g1⟩ := open_arg op22 h1 (hwt 1 22 d1 rfl rfl)
    have a1 := arg_slice Tryd.underlying22 (hval 1 22 v1 rfl rfl) e1
    obtain ⟨x2, e2, g2⟩ := open_arg op9 h2 (hwt 2 9 d2 rfl rfl)
    obtain rfl := arg_string Tryd.underlying9 (hval 2 9 v2 rfl rfl) e2
    obtain ⟨m, hm⟩ := gl hsh
    exact calls_of_con (parts_con m v0 v1 x0 x1 x2 g0 g1 (by omega)) (List.forall_mem_cons.2 ⟨hm, List.forall_mem_cons.2 ⟨a0, List.forall_mem_cons.2 ⟨a1, fun _ h => by cases h⟩⟩⟩)
theorem lineParts_row : Rows.LinePartsSaid :=
  OpenClaim.holds_of_wide 10 Tryd.f10 rfl rfl rfl rfl rfl rfl rfl ⟨rfl, rfl, rfl, rfl, rfl⟩ rfl rfl rfl rfl rfl (by kernel_rfl) Tryd.func10 (by kernel_rfl)
    (of_decide_eq_true (by kernel_rfl)) (by unfold Func.isWrapper; first | (rw [if_pos (by decide +kernel)]; kernel_rfl) | (rw [if_neg (by decide +kernel)]; exact ⟨rfl, rfl⟩))
    (fun os started H enc _ => lineParts_lifted os started H enc)
/-- LineParts: for every input it returns true, and its arguments read behind the call as before; the listed variables tied to the program's text. -/
theorem lineParts_card : Rows.LinePartsCardSaid :=
  Claim7.holds_tied_plain_at .later [] [.data, .pinned] true (true, "1c081add64f640b6bf4120201e3dee7ce7d2229767bd3641b59320867bb7fed9") false
    lineParts_row (fun _ h => by cases h) (by kernel_rfl) (fun _ h => by cases h) lineParts_row_tie rfl ⟨rfl, rfl⟩ (by kernel_rfl) rfl
    (fun f fn hf hfn => by
      obtain rfl : f = 10 := Option.some.inj ((show Tryd.prog.funcNamed Tryd.f10.name = some 10 by kernel_rfl).symm.trans hf) |>.symm
      obtain rfl : fn = Tryd.f10 := (Option.some.inj (Tryd.func10.symm.trans hfn)).symm
      exact ⟨by kernel_rfl, fun j t ht => by
        rw [Tryd.params10] at ht
        have hm : t ∈ [22, 22, 9] := by simpa using Array.mem_of_getElem? ht
        have hall : ([22, 22, 9].all fun u => !Tryd.prog.wantsStandIn u) = true := by kernel_rfl
        exact (show Tryd.prog.wantsStandIn t = false by simpa using List.all_eq_true.1 hall t hm)⟩)
    (by kernel_rfl)
#print axioms lineParts_card
end Go.Proofs.YtgokinfjlollpaaDoor

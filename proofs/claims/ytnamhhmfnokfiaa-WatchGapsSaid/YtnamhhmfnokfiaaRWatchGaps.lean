/- WatchGaps: for every input it returns true, and its arguments read behind the call as before. -/
import Derived.Test.YtnamhhmfnokfiaaRB9
import Derived.Test.YtnamhhmfnokfiaaRB
import Derived.Test.YtnamhhmfnokfiaaRows
namespace Go.Proofs.Ytnamhhmfnokfiaa
open Go Go.SL Go.RowKit Go.ChangeShapes Go.WideShapes Go.ChangeAt 
set_option linter.unusedVariables false
set_option maxRecDepth 100000 in
theorem watchGaps_lifted (os : Os) (started : os.Started) (H : Type) (enc : TypeId × Value → H) :
    ReturnsInHanded {} Try.checked os 4 .any (fun w args => (Rows.watchGapsSpec.pre enc Try.prog Try.f4 [] false w args ∧ True) ∧ sizedMet enc Try.prog Try.f4 (OpenSpec.ofChange Rows.watchGapsSpec) false w args)
      (Rows.watchGapsSpec.post enc Try.prog Try.f4 false true false false) := by
  refine lift_true (C := Try.checked) (X := fun w _ => True) (t := 4) (fun _ _ _ _ h => h) own started (by kernel_rfl) Try.func4 rfl (fun ds h => ?_) rfl Try.underlying4 laidOut (by kernel_rfl)
    (ChangeSpec.witness_shaped (enc := enc) (C := Try.checked) (os := os) (X := fun w _ => True) false (World.laidAll Try.prog os laidL) #[.string ByteArray.empty, .slice none 0 0] 8 (World.laidAll_os _ _ _) (start_shaped os _) (by kernel_rfl) (by kernel_rfl) (by kernel_rfl) (trivial)) ?_
  · match ds, h with
    | [d0, d1], _ => rfl
  · intro W base args ds ps hsh _ hval0 hA0 hwt0
    have hval : ∀ (j : Nat) t v, Try.f4.params[j]? = some t → args[j]? = some v → Value.okWide Try.prog W .any base t v := hval0
    have hA : DataW.TrodAll enc Try.prog W 0 (fun _ => true) true Try.f4.params.toList args.toList ds ps := hA0
    have hwt : ∀ (j : Nat) t d, Try.f4.params.toList[j]? = some t → ds[j]? = some d → ∀ n ∈ d.weights Try.prog t, n ≤ reachBytes := hwt0
    clear hval0 hA0 hwt0
    rw [Try.params4] at hA hval hwt
    obtain ⟨v0, vs0, d0, ds0, p0, q0, hargs, rfl, rfl, h0, r0⟩ := trodAll_cons hA
    obtain ⟨v1, vs1, d1, ds1, p1, q1, rfl, rfl, rfl, h1, r1⟩ := trodAll_cons r0
    obtain ⟨rfl, rfl, rfl⟩ := trodAll_nil r1
    obtain rfl : args = #[v0, v1] := by cases args; simp_all
    obtain ⟨x0, e0, g0⟩ := open_arg opS h0 (hwt 0 9 d0 rfl rfl)
    obtain rfl := arg_string Try.underlying9 (hval 0 9 v0 rfl rfl) e0
    obtain ⟨x1, e1, g1⟩ := open_arg opEvs h1 (hwt 1 44 d1 rfl rfl)
    have a1 := arg_slice Try.underlying44 (hval 1 44 v1 rfl rfl) e1
    exact calls_of_con (watchGaps_con x0 v1 x1 g0 g1.1 g1.2) (List.forall_mem_cons.2 ⟨a1, fun _ h => by cases h⟩)
theorem watchGaps_row : Rows.WatchGapsSaid :=
  OpenClaim.holds_of_wide 4 Try.f4 rfl rfl rfl rfl rfl rfl rfl ⟨rfl, rfl, rfl, rfl, rfl⟩ rfl rfl rfl rfl rfl (by kernel_rfl) Try.func4 (by kernel_rfl)
    (of_decide_eq_true (by kernel_rfl)) (by unfold Func.isWrapper; first | (rw [if_pos (by decide +kernel)]; kernel_rfl) | (rw [if_neg (by decide +kernel)]; exact ⟨rfl, rfl⟩))
    (fun os started H enc _ => by have h_ := watchGaps_lifted os started H enc; simp only [and_true] at h_; exact h_)
#print axioms watchGaps_row
end Go.Proofs.Ytnamhhmfnokfiaa

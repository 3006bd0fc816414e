/- WatchParts: for every input it returns true, and its arguments read behind the call as before. -/
import Derived.Test.YtnamhhmfnokfiaaW7
import Derived.Test.YtnamhhmfnokfiaaRB
import Derived.Test.YtnamhhmfnokfiaaRows
namespace Go.Proofs.Ytnamhhmfnokfiaa
open Go Go.SL Go.RowKit Go.ChangeShapes Go.WideShapes Go.ChangeAt 
set_option linter.unusedVariables false
set_option maxRecDepth 100000 in
theorem watchParts_lifted (os : Os) (started : os.Started) (H : Type) (enc : TypeId × Value → H) :
    ReturnsInHanded {} Try.checked os 7 .any (fun w args => (Rows.watchPartsSpec.pre enc Try.prog Try.f7 [] false w args ∧ True) ∧ sizedMet enc Try.prog Try.f7 (OpenSpec.ofChange Rows.watchPartsSpec) false w args)
      (Rows.watchPartsSpec.post enc Try.prog Try.f7 false true false false) := by
  refine lift_true (C := Try.checked) (X := fun w _ => True) (t := 4) (fun _ _ _ _ h => h) own started (by kernel_rfl) Try.func7 rfl (fun ds h => ?_) rfl Try.underlying4 laidOut (by kernel_rfl)
    (ChangeSpec.witness_shaped (enc := enc) (C := Try.checked) (os := os) (X := fun w _ => True) false (World.laidAll Try.prog os laidL) #[.slice none 0 0, .int .i64 0, .int .i64 0] 8 (World.laidAll_os _ _ _) (start_shaped os _) (by kernel_rfl) (by kernel_rfl) (by kernel_rfl) (trivial)) ?_
  · match ds, h with
    | [d0, d1, d2], _ => rfl
  · intro W base args ds ps hsh _ hval0 hA0 hwt0
    have hval : ∀ (j : Nat) t v, Try.f7.params[j]? = some t → args[j]? = some v → Value.okWide Try.prog W .any base t v := hval0
    have hA : DataW.TrodAll enc Try.prog W 0 (fun _ => true) true Try.f7.params.toList args.toList ds ps := hA0
    have hwt : ∀ (j : Nat) t d, Try.f7.params.toList[j]? = some t → ds[j]? = some d → ∀ n ∈ d.weights Try.prog t, n ≤ reachBytes := hwt0
    clear hval0 hA0 hwt0
    rw [Try.params7] at hA hval hwt
    obtain ⟨v0, vs0, d0, ds0, p0, q0, hargs, rfl, rfl, h0, r0⟩ := trodAll_cons hA
    obtain ⟨v1, vs1, d1, ds1, p1, q1, rfl, rfl, rfl, h1, r1⟩ := trodAll_cons r0
    obtain ⟨v2, vs2, d2, ds2, p2, q2, rfl, rfl, rfl, h2, r2⟩ := trodAll_cons r1
    obtain ⟨rfl, rfl, rfl⟩ := trodAll_nil r2
    obtain rfl : args = #[v0, v1, v2] := by cases args; simp_all
    obtain ⟨x0, e0, g0⟩ := open_arg opSss h0 (hwt 0 62 d0 rfl rfl)
    have a0 := arg_slice Try.underlying62 (hval 0 62 v0 rfl rfl) e0
    obtain ⟨x1, e1, g1⟩ := open_arg opI h1 (hwt 1 3 d1 rfl rfl)
    obtain rfl := arg_int Try.underlying3 (hval 1 3 v1 rfl rfl) e1
    obtain ⟨x2, e2, g2⟩ := open_arg opI h2 (hwt 2 3 d2 rfl rfl)
    obtain rfl := arg_int Try.underlying3 (hval 2 3 v2 rfl rfl) e2
    exact calls_of_con (watchParts_con v0 x0 x1 x2 g0.1 g0.2) (List.forall_mem_cons.2 ⟨a0, fun _ h => by cases h⟩)
theorem watchParts_row : Rows.WatchPartsSaid :=
  OpenClaim.holds_of_wide 7 Try.f7 rfl rfl rfl rfl rfl rfl rfl ⟨rfl, rfl, rfl, rfl, rfl⟩ rfl rfl rfl rfl rfl (by kernel_rfl) Try.func7 (by kernel_rfl)
    (of_decide_eq_true (by kernel_rfl)) (by unfold Func.isWrapper; first | (rw [if_pos (by decide +kernel)]; kernel_rfl) | (rw [if_neg (by decide +kernel)]; exact ⟨rfl, rfl⟩))
    (fun os started H enc _ => by have h_ := watchParts_lifted os started H enc; simp only [and_true] at h_; exact h_)
#print axioms watchParts_row
end Go.Proofs.Ytnamhhmfnokfiaa

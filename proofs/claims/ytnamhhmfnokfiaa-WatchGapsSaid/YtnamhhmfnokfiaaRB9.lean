import Derived.Test.YtnamhhmfnokfiaaRB
import Derived.Test.YtnamhhmfnokfiaaW9
/- The events of WatchGaps, opened. -/
namespace Go.Proofs.Ytnamhhmfnokfiaa
open Go Go.SL Go.RowKit Go.ChangeShapes Go.WideShapes Go.ChangeAt
theorem opEv : Opens Try.prog 46 eEv (fun x => LimS x.2) := opens_good
  (opens_struct Try.underlying46 (by kernel_rfl) (opens_cons rfl rfl (by kernel_rfl) opI (opens_last rfl rfl (by kernel_rfl) opSs))) fun x h => h.2
theorem opEvs : Opens Try.prog 44 (eSl eEv) (fun xs => xs.length ≤ 8796093021952 ∧ ∀ x ∈ xs, LimS x.2) := opens_good (opens_slice Try.underlying44 (by kernel_rfl) (by decide) opEv) fun xs h => by
  have h1 : Try.prog.bytesOf 46 = 32 := by kernel_rfl
  have h2 := h.1
  rw [h1, reach] at h2
  exact ⟨by omega, h.2⟩
end Go.Proofs.Ytnamhhmfnokfiaa

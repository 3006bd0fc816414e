import Derived.Test.YtnamhhmfnokfiaaQG
import Derived.Test.YtnamhhmfnokfiaaRows
import Derived.Test.YtnamhhmfnokfiaaW1
import Derived.Test.YtnamhhmfnokfiaaW3
import Derived.Lay
/- What all rows of this seat want: the start, the openers of the arguments' types. -/
namespace Go.Proofs.Ytnamhhmfnokfiaa
open Go Go.SL Go.RowKit Go.ChangeShapes Go.WideShapes Go.ChangeAt

abbrev laidL : List (String × DataW Unit) := []
theorem own : ownKnob Try.prog.godebug = none := by kernel_rfl
theorem laidOut : laidOutB Try.prog = true := by kernel_rfl
theorem start_shaped (os : Os) (args : Array Value) : ((World.laidAll Try.prog os laidL).forCall (fun _ _ => 0) ⟨#[], args, []⟩).Shaped Try.checked.prog := World.shaped_of_RefB (by kernel_rfl) (by kernel_rfl)
theorem reach : reachBytes = 140737488351232 := by decide
theorem opS : Opens Try.prog 9 eStr (fun s => s.size ≤ 140737488351232) := opens_good (opens_str Try.underlying9) fun x h => by rw [← reach]; exact h
abbrev LimS (xs : List ByteArray) : Prop := xs.length ≤ 8796093021952 ∧ ∀ s ∈ xs, s.size ≤ 140737488351232
theorem opSs : Opens Try.prog 30 (eSl eStr) LimS := opens_good (opens_slice Try.underlying30 (by kernel_rfl) (by decide) opS) fun xs h => by
  have h1 : Try.prog.bytesOf 9 = 16 := by kernel_rfl
  have h2 := h.1
  rw [h1, reach] at h2
  exact ⟨by omega, h.2⟩
theorem opSss : Opens Try.prog 62 (eSl (eSl eStr)) (fun xs => xs.length ≤ 8796093021952 ∧ ∀ x ∈ xs, LimS x) := opens_good (opens_slice Try.underlying62 (by kernel_rfl) (by decide) opSs) fun xs h => by
  have h1 : Try.prog.bytesOf 30 = 24 := by kernel_rfl
  have h2 := h.1
  rw [h1, reach] at h2
  exact ⟨by omega, h.2⟩
theorem opI : Opens Try.prog 3 (eInt .i64) (fun n => -9223372036854775808 ≤ n ∧ n ≤ 9223372036854775807) := opens_good (opens_int Try.underlying3) fun n h => by
  have := h
  simp [Lit.wf, IntKind.has, IntKind.min, IntKind.max, IntKind.signed, IntKind.bits] at this
  omega
theorem opOp13 : Opens Try.prog 32 eOp (fun x => SmallO x) := opens_good
  (opens_struct Try.underlying32 (by kernel_rfl) (opens_cons rfl rfl (by kernel_rfl) opI (opens_cons rfl rfl (by kernel_rfl) opI (opens_cons rfl rfl (by kernel_rfl) opI (opens_cons rfl rfl (by kernel_rfl) opS (opens_last rfl rfl (by kernel_rfl) opSs))))))
  fun x h => ⟨Nat.le_trans h.2.2.2.1 (by decide), Nat.le_trans h.2.2.2.2.1 (by decide), fun s hs => Nat.le_trans (h.2.2.2.2.2 s hs) (by decide)⟩
theorem opOps13 : Opens Try.prog 22 (eSl eOp) (fun xs => xs.length ≤ 8796093022207 ∧ ∀ o ∈ xs, SmallO o) := opens_good (opens_slice Try.underlying22 (by kernel_rfl) (by decide) opOp13) fun xs h => by
  have h1 : Try.prog.bytesOf 32 = 64 := by kernel_rfl
  have h2 := h.1
  rw [h1, reach] at h2
  exact ⟨by omega, h.2⟩
end Go.Proofs.Ytnamhhmfnokfiaa

import Derived.Test.YtgokinfjlollpaaDoorB9
import Derived.Test.YtgokinfjlollpaaDoorQG
import Derived.Test.YtgokinfjlollpaaDoorRows
import Derived.Lay
import Derived.Test.YtgokinfjlollpaaDoorCards
import Derived.Test.YtgokinfjlollpaaDoorTie
/- What all rows of this seat want: the start, the openers of the arguments' types. -/
namespace Go.Proofs.YtgokinfjlollpaaDoor
open Go Go.SL Go.RowKit Go.ChangeShapes Go.WideShapes Go.ChangeAt L01

abbrev laidL : List (String × DataW Unit) := [("unicode/utf8.acceptRanges", Rows.laid_unicode_utf8_acceptRanges), ("unicode/utf8.first", Rows.laid_unicode_utf8_first)]
theorem own : ownKnob Tryd.prog.godebug = none := by kernel_rfl
theorem laidOut : laidOutB Tryd.prog = true := by kernel_rfl
theorem start_met (os : Os) (args : Array Value) : laidMetH Tryd.prog laidL ((World.laidAll Tryd.prog os laidL).forCall (fun _ _ => 0) ⟨#[], args, []⟩).memory := by
  rw [MakeChecks.laidMetH_plain _ _ _ (by kernel_rfl)]; exact laidMet_laidAll _ (by kernel_rfl) (by kernel_rfl)
theorem start_shaped (os : Os) (args : Array Value) : ((World.laidAll Tryd.prog os laidL).forCall (fun _ _ => 0) ⟨#[], args, []⟩).Shaped Tryd.checked.prog := World.shaped_of_RefB (by kernel_rfl) (by kernel_rfl)
theorem reach : reachBytes = 140737488351232 := by decide
theorem op9 : Opens Tryd.prog 9 eStr (fun s => s.size ≤ 140737488351232) := opens_good (opens_str Tryd.underlying9) fun x h => by rw [← reach]; exact h
theorem op22 : Opens Tryd.prog 22 (eSl eStr) Lim := opens_good (opens_slice Tryd.underlying22 (by kernel_rfl) (by decide) op9) fun xs h => by
  have h1 : Tryd.prog.bytesOf 9 = 16 := by kernel_rfl
  have h2 := h.1
  rw [h1, reach] at h2
  exact ⟨by omega, fun s hs => by have := h.2 s hs; omega⟩
theorem op3 : Opens Tryd.prog 3 (eInt .i64) (fun n => -9223372036854775808 ≤ n ∧ n ≤ 9223372036854775807) := opens_good (opens_int Tryd.underlying3) fun n h => by
  have := h
  simp [Lit.wf, IntKind.has, IntKind.min, IntKind.max, IntKind.signed, IntKind.bits] at this
  omega
theorem gl {W : World} (h : W.ShapedOpen Tryd.prog) : ∃ m, (GL m).h W (readAll W) := var_int (zero := #[.int .i64 0]) h (of_decide_eq_true (by kernel_rfl)) (by kernel_rfl) rfl (by kernel_rfl) (by kernel_rfl) Tryd.underlying3

theorem op32 : Opens Tryd.prog 32 (ePair (eSl eStr) (eSl eStr)) (fun x => Lim x.1 ∧ Lim x.2) :=
  opens_struct Tryd.underlying32 (by kernel_rfl) (opens_cons rfl rfl (by kernel_rfl) op22 (opens_last rfl rfl (by kernel_rfl) op22))
theorem pair_split {c : List Value} {x : Ls × Ls} {W : World} {O : Perm} (h : (Rd (ePair (eSl eStr) (eSl eStr)) c x).h W O) : ∃ u t, c = [u, t] ∧ (Sl eStr u x.1).h W O ∧ (Sl eStr t x.2).h W O := by
  obtain ⟨c1, c2, rfl, ⟨u, rfl, h1⟩, t, rfl, h2⟩ := h
  exact ⟨u, t, rfl, h1, h2⟩
end Go.Proofs.YtgokinfjlollpaaDoor
